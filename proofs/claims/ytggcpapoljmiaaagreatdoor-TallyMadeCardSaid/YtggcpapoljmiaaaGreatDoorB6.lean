/- Part 6 of the means of the proof: a verified abstract evaluator and contracts of functions. It states nothing of the claim by itself. -/
import Derived.Test.YtggcpapoljmiaaaGreatDoorB5
import Derived.KernelRfl
set_option maxRecDepth 4000
set_option maxHeartbeats 1000000
set_option linter.unusedSimpArgs false
set_option linter.unusedVariables false
set_option linter.unusedSectionVars false
namespace Go.Abs
open Go
section
variable {P:Program} {dr:Dr} {r:List u3} {K:St->Prop} {fr:QEg} {H:QEf} {t:Nat}
theorem Qjm {x y:y5} {ki kj:IntKind} {m n:Int} (hx:St.ev ⟨fr,H⟩ x=some (.int ki m)) (C:St.ev ⟨fr,H⟩ y=some (.int kj n)) (k:run P dr r K ⟨(t,.int ki (max m n))::fr,H⟩):run P dr (⟨some t,.max x y,none⟩::r) K ⟨fr,H⟩:=Zd rfl rfl ⟨_,hx,_,C,k⟩
end
variable {HF:QEf} {args:List y5} {b:x4} {f kk:Nat}
section
variable {P:Program} {dr:Dr} {r:List u3} {K:St->Prop} {fr:QEg} {H:QEf} {t:Nat}
section
variable {H0:QEf} {R W:List (Nat × List Nat)} {ds0:List Nat}
theorem Qe0 {d:D} (G:Kx P f args ⟨fr,H⟩ HF [] [(kk,b)] d) (M:∀j∈HF.map Prod.fst,(lk H0 j).isSome=true) (ho:(Dr.drawn H0 R W).ok r.length ((HF.map Prod.fst).map (2*·)) [2*kk,2*kk+1]=true) (C:N0 (.call f args) (some t) r=ds0)
 (k:run P (.drawn H0 (((HF.map Prod.fst).map (2*·)).map (·,ds0)++R) ((2*kk,ds0)::(2*kk+1,ds0)::W)) r K ⟨(t,d)::fr,(kk,b)::H⟩):run P (.drawn H0 R W) (⟨some t,.call f args,none⟩::r) K ⟨fr,H⟩:=
 Qjj (.inl ⟨HF,kk,b,G,M,rfl,rfl,rfl⟩) ho C k
theorem Qji {n:Nat} (M:Kx P f args ⟨fr,H⟩ HF [(t,b)] [] (.u4 t n)) (G:lk H t=none) (O:∀j∈HF.map Prod.fst,(lk H0 j).isSome=true) (ho:(Dr.drawn H0 R W).ok r.length ((HF.map Prod.fst).map (2*·)) []=true) (C:N0 (.call f args) (some t) r=ds0)
 (k:run P (.drawn H0 (((HF.map Prod.fst).map (2*·)).map (·,ds0)++R) W) r K ⟨(t,.u4 t n)::fr,(t,b)::H⟩):run P (.drawn H0 R W) (⟨some t,.call f args,none⟩::r) K ⟨fr,H⟩:=
 Qjj (.inr (.inr ⟨HF,t,b,n,rfl,M,G,O,rfl,rfl,rfl,rfl⟩)) ho C k
end
theorem Qe2 {xs:List y5} {ps:List D} (ha:Zh ⟨fr,H⟩ xs=some (.ref kk 0 0::ps)) (M:(D.ref kk 0 0::ps).all D.w9=true) (G:Gz f=[]) (C:(ps.all λd=>!d.own)=true) (k:run P dr r K ⟨(t,.w8 f kk ps)::fr,H⟩):run P dr (⟨some t,.vd f xs,none⟩::r) K ⟨fr,H⟩:=Zd rfl rfl ⟨_,ha,M,.inr ⟨kk,ps,G,rfl,C,k⟩⟩
end
section
variable {P:Program} {nt:Nat} {Q:AExit->St->Prop} {l:List Nat} {b:z5} {s:St} {id i:Nat}
theorem G5 {ι:Type} {st:ι->St} {I:ι->Prop} (h:Q (.exit id) s):QgM st I Q (.exit id) s:=h
end
section
variable {P:Program} {E:Env} {g:Gh} {s:St} {a:Act} {w:World}
theorem o7.b9 {f:Nat} {fn:Func} {tf:o6} {ds:List D} {d dg:D} {H H':QEf} (hm:P.follows .mixedOrders=true) (hf:P.funcs[f]?=some fn) (hp:QT P fn=some tf.erase) (Y:ds.length<=tf.nt)
 (O:∀k,1000000<=k->(lk H k).isSome=true->(lk H' k).isSome=true) (T:∀k b,lk H' k=some b->500000<=k/\∀j∈b.ids,(lk H' j).isSome=true)
 (h:TW P tf.nt tf.body (FS tf.rs d H') ⟨MQ 0 ds++[(900000,dg)],H⟩) (U:Gz f=[0]:=by rfl):o7 P f (ds++[dg]) H d H':=o7.vg (af:=tf.erase) hm hf hp (by rw[U,QEY];exact Nat.add_le_add_right Y 1) (λg vs C t x hx=>by
 rw[gVs,U]at C;obtain⟨h1,V⟩:=Rs C;simp only[QEW,QFx,QEY,List.length_singleton,Nat.add_right_cancel_iff]at h1;rw[Xh]at hx;split at hx;rename_i y G;cases hx
 rw[SG,if_pos (QEu _),Nat.sub_zero]at G;have M:=(QEQ.1 G).1;obtain⟨v,h3,h4⟩:=V t _ (by rw[QFg M];exact G)
 grind
 rw[Qz]at hx;split at hx;rename_i e;cases hx;subst e;obtain⟨v,h3,h4⟩:=V ds.length dg Wd
 grind
 trivial) O T h
end
variable {H:QEf} {ds:List D} {fr fr':QEg}
section
variable {P:Program} {nt:Nat} {Q Q':AExit->St->Prop} {s:St}
variable {l:List Nat} {b:z5} {id i:Nat}
theorem MS {dr:Bool} {ops:List u3} (h:∀K:St->Prop,(∀s',Q .normal s'->K s')->run P (Dr.of s.H dr) ops K s):TX P nt (.region dr ops) Q s:=by
 obtain⟨s1,M,G⟩:=H7 (h (Q .normal) λ_ h=>h);exact⟨.normal,s1,M,QJ λK C=>G K (C s1 ⟨rfl,rfl⟩)⟩
theorem Xb (h:Zf l fr=fr') (k:TX P nt b Q ⟨fr',H⟩):TX P nt b Q ⟨Zf l fr,H⟩:=h ▸ k
theorem JH (h:Zf l fr=fr') (k:TX P nt b Q ⟨fr',H⟩):QtQ P nt l b Q .normal ⟨fr,H⟩:=by
 grind [QtQ]
theorem Qh8 (h:Q (.exit id) s):QtQ P nt l b Q (.exit id) s:=h
theorem QdA (h:Q .ret s):QtQ P nt l b Q .ret s:=h
end
section
variable {P:Program}
theorem o7.uh {f:Nat} {fn:Func} {tf:o6} {R:D->QEf->Prop} (hm:P.follows .mixedOrders=true) (M:P.funcs[f]?=some fn) (hp:QT P fn=some tf.erase) (C:ds.length<=tf.nt)
 (h:TX P tf.nt tf.body (λe s=>∃d H',R d H'/\(∀k,1000000<=k->(lk H k).isSome=true->(lk H' k).isSome=true)/\(∀k b,lk H' k=some b->500000<=k/\∀j∈b.ids,(lk H' j).isSome=true)/\FS tf.rs d H' e s) ⟨MQ 0 ds,H⟩) (G:Gz f=[]:=by rfl):∃d H',R d H'/\o7 P f ds H d H':=by
 obtain⟨e,s,⟨d,H',Y,V,U,T⟩,O⟩:=h
 grind [o7.n7,Z8]
end
section
variable {fr:QEg} {H:QEf} {t u:Nat}
theorem QhB {e:AExit} {sz:Nat} {p q C:D} {cells cs:List D} (h:lk fr t=some p) (ha:St.md ⟨fr,H⟩ p=some cells) (G:Nat.ble sz cells.length=true) (M:cells.take sz=cs) (T:lk fr u=some q) (hd:XX ⟨fr,H⟩ (.agg cs)=.agg ds/\XX ⟨fr,H⟩ q=C)
 (he:e=.ret\/e=.normal:=by first |exact .inl rfl |exact .inr rfl):ua [.cell t true sz,.tmp u] (.g8 [.agg ds,C]) e ⟨fr,H⟩:=by
 subst M;obtain⟨O,rfl⟩:=hd
 have:Ln ⟨fr,H⟩ [.cell t true sz,.tmp u] [.agg ds,XX ⟨fr,H⟩ q]:=
  ⟨_,_,rfl,⟨p,cells,h,Nb.2 ha,by exact⟨QEi G,O.symm⟩⟩,_,_,rfl,⟨q,T,rfl⟩,rfl⟩
 rcases he with rfl |rfl<;>exact⟨_,rfl,this⟩
end
section
variable {P:Program} {dr:Dr} {r:List u3} {K:St->Prop} {fr:QEg} {H:QEf} {t:Nat} {bt:Bool} {x y:y5} {ki kj:IntKind} {m n z:Int}
theorem Qwk (hx:St.ev ⟨fr,H⟩ x=some (.int ki m)) (C:St.ev ⟨fr,H⟩ y=some (.int ki n)) (k:run P dr r K ⟨(t,.int ki (Kd .and ki m n))::fr,H⟩):run P dr (⟨some t,.bin .and bt x y,none⟩::r) K ⟨fr,H⟩:=Zd rfl rfl ⟨_,hx,_,C,.inr rfl,k⟩
theorem Qwm (hx:St.ev ⟨fr,H⟩ x=some (.int ki m)) (G:St.ev ⟨fr,H⟩ y=some (.int kj n)) (h0:0<=n) (C:ki.wrap (m*2 ^ min n.toNat ki.bits)=z) (k:run P dr r K ⟨(t,.int ki z)::fr,H⟩):run P dr (⟨some t,.bin .shl bt x y,none⟩::r) K ⟨fr,H⟩:=by
 subst C;exact Zd rfl rfl ⟨_,hx,_,G,.inl rfl,h0,k⟩
end
def TM (H:QEf):Prop:=∀k b,lk H k=some b->∀j∈b.ids,(lk H j).isSome=true
theorem QkL (h:b.pr=true):b.ids=[]:=by simp[x4.ids,h]
theorem Qsi {P:Program} {f:Nat} {args:List y5} {s:St} {ds ds':List D} {HF:QEf} {k:Nat} {b':x4} {d:D} (ha:Zh s args=some ds) (hF:∀j x,lk HF j=some x->lk s.H j=some x) (O:TM HF) (M:∀x∈ds,∀j∈x.ids,(lk HF j).isSome=true)
 (hk:(lk HF k).isSome=true) (hb:b.pr=true) (hd:d.ids=[]) (hu:ds.map Qi5=ds') (hr:b.u5 upN=b') (G:o7 P f ds' (upH HF) d ((upN k,b')::upH HF)):Kx P f args s HF [] [(k,b)] d:=by
 subst hu hr;refine⟨ds,ha,hF,O,M,λj x C=>?_,(λj x C=>by cases C),(λj C=>by grind),.inl G⟩;rw[Qz]at C;split at C
 grind [QkL]
 trivial
section
variable {P:Program} {nt:Nat} {E:Env}
def opZ (P:Program) (o:u3) (K:St->Prop) (s:St):Prop:=
 o.guard=none/\∃t f args G Hr d,o.dst=some t/\Kp s o.op f args/\Tv P f args s G Hr d/\K ⟨(t,d)::s.fr,Hr⟩
theorem QkJ {o:u3} {t f:Nat} {G:List Nat} {az:List y5} {ds ds':List D} {d:D} {fr:QEg} {H Hr H1 H2:QEf} {K:St->Prop} (ho:o=⟨some t,.call f az,none⟩) (T:Zh ⟨fr,H⟩ az=some ds) (hk:Nl G=true)
 (O:(fr.all λp=>p.2.ids.all λk=>!G.contains k)=true) (hd:d.ids=[]) (U:Hr.map Prod.fst=H.map Prod.fst) (C:(ds.map λd=>(d.u5 (YM G)).can)=ds') (h1:J6 G H=H1) (h2:J6 G Hr=H2) (M:o7 P f ds' H1 d H2) (Y:K ⟨(t,d)::fr,Hr⟩):opZ P o K ⟨fr,H⟩:=by
 subst ho C h1 h2;exact⟨rfl,t,f,_,G,Hr,d,rfl,.inl rfl,⟨ds,T,hk,QkG O,λk V=>by grind,λj h=>by grind [Rd],λj h=>.inr (by grind [Rd]),M⟩,Y⟩
end
def Qmy (k:Nat):Nat:=if k<1000000 then k else k+1000000
theorem rnU:Rn Qmy (λk=>if k<1000000 then k else k - 1000000) where
 inv k:=by
  grind [Qmy]
 small k:=by
  grind [Qmy]
theorem rnS {a b:Nat} (ha:1000000<=a) (hb:1000000<=b):Rn (Qmx a b) (Qmx a b) where
 inv k:=by grind [Qmx]
 small k:=by grind [Qmx]
section
variable {P:Program} {nt:Nat}
theorem QmZ {Q:AExit->St->Prop} {s:St} {l1 l2 ol:List u3} {o:u3} {live:List Nat} {b:z5} (h:∀K:St->Prop,(∀fr H,TW P nt b Q ⟨Zf live fr,H⟩->K ⟨fr,H⟩)->run P (.drawn s.H [] []) l1 (Qhp P o (λs'=>run P (.drawn s'.H [] []) l2 K s')) s) (C:ol=l1++o::l2:=by rfl) (hb:QlN l1 o l2=true:=by rfl) (G:Qsl l1 (o::l2)=true:=by rfl):TW P nt (.seq (.region true ol) live b) Q s:=by
 subst C;exact RB (Rz hb G (h (λs'=>AW P nt b.erase Q s') λfr H hb=>Cx (Gg live fr H) hb))
end
variable {P:Program} {d:D} {ds':List D}
section
variable {g:Gh} {H:QEf} {w:World}
theorem Qgd {K K':Kn} {v:Value} (h:d.flat=true) (C:s4 K d v):s4 K' d v:=by
 have one:∀{d:D} {v:Value},d.v9=true->s4 K d v->s4 K' d v:=λ{d v} h C=>by
  cases d<;>simp only[D.v9,QEq]at h<;>simp only[s4]at C ⊢<;>exact C
 cases d
 case g8 ds=>
  simp only[D.flat]at h;simp only[s4]at C ⊢;obtain⟨vs,G,O⟩:=C;refine⟨vs,G, ?_⟩
  have:∀{ds:List D} {vs:List Value},(ds.all D.v9)=true->x5 K ds vs->x5 K' ds vs:=by
   intro ds
   induction ds with
   |nil=>grind [x5]
   |cons d ds ih=>
    intro vs M h;cases vs with
    |nil=>trivial
    |cons v vs=>
     (repeat clear hK K);simp_all [x5]
  grind
 all_goals trivial
end
theorem o7.kh (n:Nat) (h:Ok P f ds' d) (Y:ds.map (D.mc H n)=ds') (hp:ds.all D.ad=true) (hd:d.flat=true) (hi:d.ids=[]):o7 P f ds H d H:=by
 refine⟨h.1,λg w vs C G hids=>?_⟩;subst Y;refine(h.2 (Fq w) w vs (Ru w) (P5 C n G hp)).mono λe w' ⟨v,K',he,hv,hr',T,M,hKK,V⟩=>?_;refine⟨v,g,he,a7.of (Qgd hd hv),⟨C.x9,λk b hb=>?_,C.inj,λb o x hx=>?_⟩,T,λb hb _=>⟨M b hb,rfl⟩,V,λk _ U=>⟨U,rfl,rfl⟩,λk B e hk U O=>.inr ⟨k,e,hk,U,O⟩⟩;refine(C.bx k b hb).move ⟨rfl,rfl⟩ (λ_ _ _ _ _ _=>⟨rfl,rfl⟩) (Kn.le_refl _) λB e O=>⟨M B ((C.bx k b hb).nb O).1,λ_ h=>h,λ_=>.inl (QEu _)⟩;obtain⟨c,e,f,h1,h2⟩:=C.kr b o x hx
 grind
theorem Qhq {o:u3} {t:Nat} {G:List Nat} {az:List y5} {fr:QEg} {Hr H1 H2:QEf} {K:St->Prop} (ho:o=⟨some t,.call f az,none⟩) (V:Zh ⟨fr,H⟩ az=some ds) (hk:Nl G=true)
 (U:(fr.all λp=>p.2.ids.all λk=>!G.contains k)=true) (hd:(d.ids.all λk=>G.contains k&&(lk Hr k).isSome)=true) (O:(H.all λp=>(lk Hr p.1).isSome)=true) (C:(Hr.all λp=>G.contains p.1||(lk H p.1).isSome)=true) (M:(ds.map λd=>(d.u5 (YM G)).can)=ds') (h1:J6 G H=H1) (h2:J6 G Hr=H2) (T:o7 P f ds' H1 d H2) (hK:K ⟨(t,d)::fr,Hr⟩):opZ P o K ⟨fr,H⟩:=by
 subst ho M h1 h2;refine⟨rfl,t,f,_,G,Hr,d,rfl,.inl rfl,⟨ds,V,hk,QkG U,λk Y=>?_,λj h=>?_,λj h=>?_,T⟩,hK⟩
 grind
 obtain⟨b,hb⟩:=QEo.1 h;exact QEs.1 O (j,b) (ZJ hb);obtain⟨b,hb⟩:=QEo.1 h;have:=QEs.1 C (j,b) (ZJ hb)
 grind
variable {K:St->Prop} {o:u3} {ol:List u3} {s:St}
section
variable {P:Program} {nt:Nat} {E:Env}
theorem QoT (h:opZ P o K s):Qjc P o K s:=by
 obtain⟨G,C⟩:=h;exact⟨by rw[G];rfl,C⟩
theorem Qhs {K':St->Prop} (C:∀s,K s->K' s) (h:Qjc P o K s):Qjc P o K' s:=by
 obtain⟨V,t,f,args,G,Hr,d,U,T,O,M⟩:=h;exact⟨V,t,f,args,G,Hr,d,U,T,O,C _ M⟩
theorem ME {l lr:List u3} (h:run P .fixed l (Qhp P o (Xy P lr K)) s) (C:ol=l++o::lr:=by rfl):Xy P ol K s:=by
 subst C;exact Fv (Y0 (λ_ h=>.inr h) (Ye h))
theorem QaA {Q:AExit->St->Prop} {live:List Nat} {b:z5} (h:∀K:St->Prop,(∀fr H,TW P nt b Q ⟨Zf live fr,H⟩->K ⟨fr,H⟩)->Xy P ol K s):TW P nt (.seq (.region false ol) live b) Q s:=by
 refine RB (Nm ?_);exact h (λs'=>AW P nt b.erase Q s') λfr H hb=>Cx (Gg live fr H) hb
theorem Pl {s':St} (hle:s.le s') (h:Qjc P o K s'):Qhp P o K s:=⟨s',hle,h⟩
end
section
variable {P:Program} {nt:Nat} {E:Env}
theorem Qom {s:St}:s.le s:=λ_ g _ _ r=>⟨g,r⟩
end
variable {H1 H2 Hr:QEf} {k t:Nat}
theorem Qb8 (n:Nat) (M:Ok P f ds' d) (ha:Zh s args=some ds) (hF:∀p∈HF,lk s.H p.1=some p.2) (G:∀p∈HF,∀j∈p.2.ids,(lk HF j).isSome=true) (T:(ds.all λx=>x.ids.all λj=>(lk HF j).isSome)=true)
 (hu:(ds.map Qi5).map (D.mc (upH HF) n)=ds') (U:(ds.map Qi5).all D.ad=true) (O:d.flat=true) (hd:d.ids=[]):Kx P f args s HF [] [] d:=by
 refine⟨ds,ha,λj x C=>hF (j,x) (ZJ C),λj x C=>G (j,x) (ZJ C),λx hx j C=>?_,(λj x C=>by cases C),(λj x C=>by cases C),(λj C=>by grind),.inl ?_⟩
 grind
 grind [o7.kh]
theorem QfB {b:x4} (n:Nat) (M:Ok P f ds' d) (ha:Zh s args=some ds) (hF:∀p∈HF,lk s.H p.1=some p.2) (G:∀p∈HF,∀j∈p.2.ids,(lk HF j).isSome=true) (U:(ds.all λx=>x.ids.all λj=>(lk HF j).isSome)=true)
 (hu:(ds.map Qi5).map (D.mc (upH HF) n)=ds') (T:(ds.map Qi5).all D.ad=true) (O:d.flat=true) (hd:d.ids=[]) (hk:lk HF k=some b):Kx P f args s HF [] [(k,b)] d:=by
 refine⟨ds,ha,λj x C=>hF (j,x) (ZJ C),λj x C=>G (j,x) (ZJ C),λx hx j C=>?_,λj x C=>?_,(λj x C=>by cases C),(λj C=>by grind),.inl ?_⟩
 grind
 rw[Qz]at C;split at C;rename_i e;cases C;subst e;exact⟨by grind,G (k,b) (ZJ hk)⟩;trivial;refine o7.oh (λ_=>rfl) (λj=>?_) (o7.kh n M hu T O hd)
 by_cases C:j<1000000
 grind [Mi]
 grind [upH,Mh,Qz]
theorem Qhr {gd:Option (Nat × Bool)} {G:List Nat} {x:y5} {az:List y5} {ps:List D} (ho:o=⟨some t,.ja x az,gd⟩) (V:gw ⟨fr,H⟩ gd=some true) (hx:St.ev ⟨fr,H⟩ x=some (.w8 f k ps)) (T:(D.ref k 0 0::ps).all D.w9=true) (hds:Zh ⟨fr,H⟩ (az++(D.ref k 0 0::ps).map .c)=some ds) (hk:Nl G=true)
 (Y:(fr.all λp=>p.2.ids.all λk=>!G.contains k)=true) (hd:d.ids=[]) (O:(H.all λp=>(lk Hr p.1).isSome)=true) (C:(Hr.all λp=>(lk H p.1).isSome)=true) (M:(ds.map λd=>(d.u5 (YM G)).can)=ds') (U:o7 P f ds' H1 d H2) (h1:∀j,lk (J6 G H) j=lk H1 j) (h2:∀j,lk (J6 G Hr) j=lk H2 j) (hK:K ⟨(t,d)::fr,Hr⟩):Qjc P o K ⟨fr,H⟩:=by
 subst ho M;refine⟨V,t,f,_,G,Hr,d,rfl,.inr (.inl ⟨x,az,_,rfl,.inr ⟨k,ps,hx,rfl⟩,T,rfl⟩),⟨ds,hds,hk,QkG Y,λk hkd=>by grind,λj h=>?_,λj h=>?_,U.oh h1 h2⟩,hK⟩;obtain⟨b,hb⟩:=QEo.1 h;exact QEs.1 O (j,b) (ZJ hb);obtain⟨b,hb⟩:=QEo.1 h;exact .inr (QEs.1 C (j,b) (ZJ hb))
theorem SY {G:List Nat} {az:List y5} (ho:o=⟨some t,.call f az,none⟩) (U:Zh ⟨fr,H⟩ az=some ds) (hk:Nl G=true)
 (T:(fr.all λp=>p.2.ids.all λk=>!G.contains k)=true) (hd:d.ids=[]) (M:Hr.map Prod.fst=H.map Prod.fst) (C:(ds.map λd=>(d.u5 (YM G)).can)=ds') (O:o7 P f ds' H1 d H2) (h1:J6 G H=H1) (Y:J6 G Hr=H2) (V:K ⟨(t,d)::fr,Hr⟩):Qjc P o K ⟨fr,H⟩:=
 QoT (QkJ ho U hk T hd M C h1 Y O V)
variable {l:List u3}
section
variable {P:Program} {nt:Nat}
def ZZ (P:Program):List u3->(St->Prop)->St->Prop
 |[],K,s=>K s
 |o::r,K,s=>run P .fixed [o] (ZZ P r K) s\/Qhp P o (ZZ P r K) s
theorem Qpq {r:List u3} (h:run P .fixed (o::r) K s):run P .fixed [o] (run P .fixed r K) s:=by
 obtain⟨dst,op,gd⟩:=o;cases gd with
 |none=>exact h
 |some p=>exact h
theorem Qad {K':St->Prop} (C:∀s,K s->K' s) {dr:Dr} (h:run P dr l K s):run P dr l K' s:=by
 grind [H7]
theorem Qe8 {r:List u3} {K:St->Prop}:∀{l:List u3} {s:St},run P .fixed l (ZZ P r K) s->ZZ P (l++r) K s
 |[],_,h=>h
 |_::_,_,h=>.inl (Qad (λ_ h=>Qe8 h) (Qpq h))
theorem QoU (h:Qjc P o K s):∃s',K s'/\∀C:St->Prop,C s'->Qjc P o C s:=by
 obtain⟨V,t,f,args,G,Hr,d,U,T,O,M⟩:=h;exact⟨_,M,λC hk=>⟨V,t,f,args,G,Hr,d,U,T,O,hk⟩⟩
theorem Qnb {K:St->Prop}:∀{l:List u3} {s:St},ZZ P l K s->∃s',K s'/\∀C:St->Prop,C s'->ZZ P l C s
 |[],s,h=>⟨s,h,λ_ hk=>hk⟩
 |o::r,s,h=>by
  rcases h with h |⟨s1,hle,h⟩;obtain⟨s2,U,T⟩:=H7 h
  obtain⟨G,O,M⟩:=Qnb U;exact⟨G,O,λC hk=>.inl (T _ (M _ hk))⟩;obtain⟨s2,U,T⟩:=QoU h;obtain⟨G,O,M⟩:=Qnb U;exact⟨G,O,λC hk=>.inr ⟨s1,hle,T _ (M _ hk)⟩⟩
theorem Qm9 {K:St->Prop}:∀{l:List u3} {s:St},ZZ P l K s->Xy P l K s
 |[],_,h=>h
 |_::_,_,h=>by
  rcases h with h |⟨s1,hle,h⟩;exact .inl (MY (λ_ h=>Qm9 h) (Ye h));exact .inr ⟨s1,hle,Qhs (λ_ h=>Qm9 h) h⟩
theorem Qna {lr:List u3} (h:run P .fixed l (Qhp P o (ZZ P lr K)) s) (C:ol=l++o::lr:=by rfl):ZZ P ol K s:=by
 subst C;exact Qe8 (Qad (λ_ h=>.inr h) h)
theorem QrZ (h:run P .fixed l K s):ZZ P l K s:=by
 have:=Qe8 (P:=P) (r:=[]) (K:=K) h
 grind
theorem Qm1 {Q:AExit->St->Prop} {live:List Nat} {b:z5} (h:∀K:St->Prop,(∀fr H,TX P nt b Q ⟨Zf live fr,H⟩->K ⟨fr,H⟩)->ZZ P ol K s):TX P nt (.seq (.region false ol) live b) Q s:=by
 obtain⟨s1,⟨e,s2,O,M⟩,G⟩:=Qnb (h (λst=>TX P nt b Q ⟨Zf live st.fr,st.H⟩) λfr H h=>h);exact⟨e,s2,O,QaA λK C=>Qm9 (G K (C s1.fr s1.H M))⟩
end
end Go.Abs
namespace Go.Proofs
open Go Go.Abs
set_option maxRecDepth 100000
set_option maxHeartbeats 0
set_option cbv.maxSteps 100000000
def QC6:TT false Tryz.f201:=⟨_,by cbv⟩
def tf201:o6:=QC6.1
theorem QyU:QT Tryz.prog Tryz.f201=some tf201.erase:=by kernel_rfl
set_option cbv.maxSteps 100000000
def t43:TT false Tryz.f43:=⟨_,by cbv⟩
def tf43:o6:=t43.1
theorem QzS:QT Tryz.prog Tryz.f43=some tf43.erase:=by kernel_rfl
def t73:TT false Tryz.f73:=⟨_,by cbv⟩
def tf73:o6:=t73.1
theorem QDY:QT Tryz.prog Tryz.f73=some tf73.erase:=by kernel_rfl
def t74:TT false Tryz.f74:=⟨_,by cbv⟩
def tf74:o6:=t74.1
theorem QDZ:QT Tryz.prog Tryz.f74=some tf74.erase:=by kernel_rfl
def QCF:TT false Tryz.f151:=⟨_,by cbv⟩
def tf151:o6:=QCF.1
theorem Qyt:QT Tryz.prog Tryz.f151=some tf151.erase:=by kernel_rfl
set_option cbv.maxSteps 100000000
def t37:TT false Tryz.f37:=⟨_,by cbv⟩
def tf37:o6:=t37.1
theorem QzQ:QT Tryz.prog Tryz.f37=some tf37.erase:=by kernel_rfl
def QCa:TT false Tryz.f101:=⟨_,by cbv⟩
def tf101:o6:=QCa.1
theorem QxY:QT Tryz.prog Tryz.f101=some tf101.erase:=by kernel_rfl
def QCb:TT false Tryz.f102:=⟨_,by cbv⟩
def tf102:o6:=QCb.1
theorem QxZ:QT Tryz.prog Tryz.f102=some tf102.erase:=by kernel_rfl
def QCC:TT false Tryz.f148:=⟨_,by cbv⟩
def tf148:o6:=QCC.1
theorem Qyq:QT Tryz.prog Tryz.f148=some tf148.erase:=by kernel_rfl
set_option cbv.maxSteps 100000000
def t20:TT false Tryz.f20:=⟨_,by cbv⟩
def tf20:o6:=t20.1
theorem QDv:QT Tryz.prog Tryz.f20=some tf20.erase:=by kernel_rfl
def QCx:TT false Tryz.f124:=⟨_,by cbv⟩
def tf124:o6:=QCx.1
theorem Qyl:QT Tryz.prog Tryz.f124=some tf124.erase:=by kernel_rfl
def QCR:TT false Tryz.f163:=⟨_,by cbv⟩
def tf163:o6:=QCR.1
theorem QyF:QT Tryz.prog Tryz.f163=some tf163.erase:=by kernel_rfl
set_option cbv.maxSteps 100000000
def t42:TT false Tryz.f42:=⟨_,by cbv⟩
def tf42:o6:=t42.1
theorem QzR:QT Tryz.prog Tryz.f42=some tf42.erase:=by kernel_rfl
def t77:TT false Tryz.f77:=⟨_,by cbv⟩
def tf77:o6:=t77.1
theorem QD0:QT Tryz.prog Tryz.f77=some tf77.erase:=by kernel_rfl
set_option cbv.maxSteps 100000000
def t59:TT false Tryz.f59:=⟨_,by cbv⟩
def tf59:o6:=t59.1
theorem QDT:QT Tryz.prog Tryz.f59=some tf59.erase:=by kernel_rfl
set_option cbv.maxSteps 100000000
def t40:TT true Tryz.f40:=⟨_,by cbv⟩
def tf40:o6:=t40.1
theorem QDF:QT Tryz.prog Tryz.f40=some tf40.erase:=by kernel_rfl
def QCf:TT false Tryz.f106:=⟨_,by cbv⟩
def tf106:o6:=QCf.1
theorem Qx3:QT Tryz.prog Tryz.f106=some tf106.erase:=by kernel_rfl
set_option cbv.maxSteps 100000000
def t70:TT false Tryz.f70:=⟨_,by cbv⟩
def tf70:o6:=t70.1
theorem QDV:QT Tryz.prog Tryz.f70=some tf70.erase:=by kernel_rfl
def QCE:TT false Tryz.f150:=⟨_,by cbv⟩
def tf150:o6:=QCE.1
theorem Qys:QT Tryz.prog Tryz.f150=some tf150.erase:=by kernel_rfl
set_option cbv.maxSteps 100000000
def t10:TT false Tryz.f10:=⟨_,by cbv⟩
def tf10:o6:=t10.1
theorem QDm:QT Tryz.prog Tryz.f10=some tf10.erase:=by kernel_rfl
set_option cbv.maxSteps 100000000
def t22:TT false Tryz.f22:=⟨_,by cbv⟩
def tf22:o6:=t22.1
theorem QzO:QT Tryz.prog Tryz.f22=some tf22.erase:=by kernel_rfl
def t29:TT false Tryz.f29:=⟨_,by cbv⟩
def tf29:o6:=t29.1
theorem QDB:QT Tryz.prog Tryz.f29=some tf29.erase:=by kernel_rfl
def t53:TT false Tryz.f53:=⟨_,by cbv⟩
def tf53:o6:=t53.1
theorem QDO:QT Tryz.prog Tryz.f53=some tf53.erase:=by kernel_rfl
def t86:TT false Tryz.f86:=⟨_,by cbv⟩
def tf86:o6:=t86.1
theorem QD9:QT Tryz.prog Tryz.f86=some tf86.erase:=by kernel_rfl
set_option cbv.maxSteps 100000000
def QCc:TT false Tryz.f103:=⟨_,by cbv⟩
def tf103:o6:=QCc.1
theorem Qx0:QT Tryz.prog Tryz.f103=some tf103.erase:=by kernel_rfl
def QCd:TT false Tryz.f104:=⟨_,by cbv⟩
def tf104:o6:=QCd.1
theorem Qx1:QT Tryz.prog Tryz.f104=some tf104.erase:=by kernel_rfl
def QCe:TT false Tryz.f105:=⟨_,by cbv⟩
def tf105:o6:=QCe.1
theorem Qx2:QT Tryz.prog Tryz.f105=some tf105.erase:=by kernel_rfl
set_option cbv.maxSteps 100000000
def t71:TT false Tryz.f71:=⟨_,by cbv⟩
def tf71:o6:=t71.1
theorem QDW:QT Tryz.prog Tryz.f71=some tf71.erase:=by kernel_rfl
def t72:TT false Tryz.f72:=⟨_,by cbv⟩
def tf72:o6:=t72.1
theorem QDX:QT Tryz.prog Tryz.f72=some tf72.erase:=by kernel_rfl
def QB9:TT false Tryz.f100:=⟨_,by cbv⟩
def tf100:o6:=QB9.1
theorem QxX:QT Tryz.prog Tryz.f100=some tf100.erase:=by kernel_rfl
def QCD:TT false Tryz.f149:=⟨_,by cbv⟩
def tf149:o6:=QCD.1
theorem Qyr:QT Tryz.prog Tryz.f149=some tf149.erase:=by kernel_rfl
set_option cbv.maxSteps 100000000
def t44:TT false Tryz.f44:=⟨_,by cbv⟩
def tf44:o6:=t44.1
theorem QDH:QT Tryz.prog Tryz.f44=some tf44.erase:=by kernel_rfl
set_option cbv.maxSteps 100000000
def t41:TT false Tryz.f41:=⟨_,by cbv⟩
def tf41:o6:=t41.1
theorem QDG:QT Tryz.prog Tryz.f41=some tf41.erase:=by kernel_rfl
def t75:TT false Tryz.f75:=⟨_,by cbv⟩
def tf75:o6:=t75.1
theorem QzU:QT Tryz.prog Tryz.f75=some tf75.erase:=by kernel_rfl
def t76:TT false Tryz.f76:=⟨_,by cbv⟩
def tf76:o6:=t76.1
theorem Qy7:QT Tryz.prog Tryz.f76=some tf76.erase:=by kernel_rfl
def QCg:TT false Tryz.f107:=⟨_,by cbv⟩
def tf107:o6:=QCg.1
theorem Qx4:QT Tryz.prog Tryz.f107=some tf107.erase:=by kernel_rfl
set_option cbv.maxSteps 100000000
def t34:TT false Tryz.f34:=⟨_,by cbv⟩
def tf34:o6:=t34.1
theorem QDD:QT Tryz.prog Tryz.f34=some tf34.erase:=by kernel_rfl
open M3
set_option maxRecDepth 4000
set_option maxHeartbeats 1000000
variable {a a' b b' c c' e:Int} {f:Bool} {p p' q q':List UInt8}
theorem JZ (hp:p.length<=1048576) (hq:q.length<=1048576) (Y:p'.length<=1048576) (V:q'.length<=1048576):Ok Tryz.prog 201 [.agg [.int .i64 e,.int .i64 a,.int .i64 b,.int .i64 c,.str p,.str q,.bool f],.agg [.int .i64 a',.int .i64 b',.int .i64 c',.str p',.str q']] (.bool (J4 e a b c p q f a' b' c' p' q')):=by
 refine Ok.n7 tfol Tryz.func201 QyU (QEi Z) ?_;show TW _ _ tf201.body _ _;refine Qd λK C=>Zu Z Z Z (Zu Z Z Z (Qb Z (kc2 C Z Z (Qw (Qd λK C=>QB (cs:=[_,_,_,_,_,_,_]) Z Z Z Z (QA (Yx Wa Wa) Z Z (.inr Z) (Zp Z (Qb Z (Qq (g:=9) Z (λU=>?_) (λU=>?_))))))))));rw[U];simp only[qB]at U;refine gn3 Z Z Z (Qh Z Z (kc3 C Z Z Z (Zb Z (Qd λK C=>Qb Z (kc1 C Z (Qv (Qi (Qg Z ?_))))))))
 grind [J4]
 rw[U];simp only[qB]at U;refine Qc Z (QB (cs:=[_,_,_,_,_]) Z Z Z Z (Qc Z (QA (Z0 Wa Wa) Z Z (.inr Z) (Qc Z (Zp Z (Qh Z Z (kc3 C Z Z Z (Qs Z (λT=>?_) (λT=>?_)))))))));rw[T];simp only[qB]at T;refine Qd λK C=>Qb Z (kc1 C Z (Qv (Qi (Qg Z ?_))))
 grind [J4]
 rw[T];simp only[qB]at T;refine Qp (ks2 Z Z (Qw (Qd λK C=>Qe Z Z (Qr Z Z Z (Ys Z Z (kc3 C Z Z Z (Qs Z (λO=>?_) (λO=>?_))))))));rw[O];simp only[qB]at O;refine Qd λK C=>Qe Z Z (Qr Z Z Z (ZK Z Z (Qb Z (kc1 C Z (Qv (Qi (Qg Z ?_)))))))
 grind [J4]
 rw[O];simp only[qB]at O;refine Qp (ks2 Z Z (Qd λK C=>Qe Z Z (QB (cs:=[_,_,_,_,_]) Z Z Z Z (QB (cs:=[_,_,_,_,_]) Z Z Z Z (QA (Y2 Wa Wa Wa Wa) Z Z (.inr Z) (Qb Z (kc2 C Z Z (Qd λK C=>Qb Z (ZK Z Z (Qb Z (Qq (g:=26) Z (λM=>?_) (λM=>?_))))))))))));rw[M];simp only[qB]at M;refine gn3 Z Z Z (Qy Z (Qy Z (Qy Z (YN Z (Qh Z Z (Qb Z (kc1 C Z (Qv (Qg Z ?_)))))))))
 grind [J4]
 rw[M];simp only[qB]at M;refine Qc Z (Qb Z (Qc Z (Yp Z Z (Qc Z (Qb Z (Qq (g:=29) Z (λG=>?_) (λG=>?_)))))));rw[G];simp only[qB]at G;refine Qc Z (Qe Z Z (Qc Z (Qr Z Z Z (Qc Z (Zp Z (Qc Z (Qh Z Z (Qh Z Z (Qb Z (kc1 C Z (Qv (Qg Z ?_))))))))))))
 grind [J4]
 rw[G];simp only[qB]at G;refine gn3 Z Z Z (Qc Z (Qh Z Z (Qh Z Z (Qb Z (kc1 C Z (Qv (Qg Z ?_)))))))
 grind [J4]
theorem F2 (hp:p.length<=1048576) (Y:q.length<=1048576) {e':Int} {f':Bool} (U:p'.length<=1048576) (T:q'.length<=1048576) {x y z:Int} {r s:List UInt8} (hr:r.length<=1048576) (V:s.length<=1048576):Ok Tryz.prog 163 [.agg [.int .i64 e,.int .i64 a,.int .i64 b,.int .i64 c,.str p,.str q,.bool f,.int .i64 e',.int .i64 a',.int .i64 b',.int .i64 c',.str p',.str q',.bool f'],.agg [.int .i64 x,.int .i64 y,.int .i64 z,.str r,.str s]] (.bool (Fe e a b c p q f e' a' b' c' p' q' f' x y z r s)):=by
 refine Ok.n7 tfol Tryz.func163 QyF (QEi Z) ?_;show TW _ _ tf163.body _ _;refine Qd λK C=>Zu Z Z Z (Zu Z Z Z (Qb Z (kc2 C Z Z (Qd λK C=>QB (cs:=[_,_,_,_,_,_,_,_,_,_,_,_,_,_]) Z Z Z Z (QA (Y4 Wa Wa Wa Wa) Z Z (.inr Z) (Qb Z (Qq (g:=7) Z (λO=>?_) (λO=>?_))))))));rw[O];refine Qc Z (QB (cs:=[_,_,_,_,_]) Z Z Z Z (Qc Z (QA (Z0 Wa Wa) Z Z (.inr Z) (Qh Z Z (Qb Z (Qq (g:=11) Z (λM=>?_) (λM=>?_)))))));rw[M];refine Qc Z (Qe Z Z (Qc Z (QB (cs:=[_,_,_,_,_,_,_]) Z Z Z Z (Qc Z (QB (cs:=[_,_,_,_,_]) Z Z Z Z (Qc Z (QA (JZ Wa Wa Wa Wa) Z Z (.inr Z) (Qh Z Z (Qb Z (Qq (g:=17) Z (λG=>?_) (λG=>?_)))))))))));rw[G];refine Qc Z (Qe Z Z (Qc Z (QB (cs:=[_,_,_,_,_,_,_]) Z Z Z Z (Qc Z (QB (cs:=[_,_,_,_,_]) Z Z Z Z (Qc Z (QA (JZ Wa Wa Wa Wa) Z Z (.inr Z) (Qc Z (Zp Z (Qh Z Z (Qb Z (kc1 C Z (Qv (Qg Z ?_))))))))))))))
 grind [Fe]
 rw[G];refine gn4 Z Z Z Z (YN Z (Qh Z Z (Qb Z (kc1 C Z (Qv (Qg Z ?_))))))
 grind [Fe]
 rw[M];refine gn4 Z Z Z Z (Qh Z Z (Qb Z (gn4 Z Z Z Z (YN Z (Qh Z Z (Qb Z (kc1 C Z (Qv (Qg Z ?_)))))))))
 grind [Fe]
 rw[O];refine gn2 Z Z (Qh Z Z (Qb Z (gn4 Z Z Z Z (Qh Z Z (Qb Z (gn2 Z Z (gn3 Z Z Z (Qh Z Z (Qb Z (kc1 C Z (Qv (Qg Z ?_))))))))))))
 grind [Fe]
end Go.Proofs
namespace M3
open Go Go.Abs
def QBR (p:List UInt8):Int:=
 if p=[48]then 0 else if p=[48,46,48]then 1 else if p=[49]then 2 else if p=[50]then 3 else if p=[49,49]then 4 else if p=[97]then 5 else if p=[97,46,49]then 6
 else if p=[97,46,98]then 7 else if p=[98]then 8 else if p=[114,99,46,49]then 9 else 10
end M3
namespace M3
open Go Go.Abs
def QzX (a b c:Int) (p:List UInt8):Int:=((a*10000+b)*10000+c)*16+QBR p
def cN (x:Cu):Int:=if x.e=0 then 2*QzX x.a x.b x.c x.p+(if x.f=true then 1 else 0)else x.e*1000000000000000
end M3
namespace M3
open Go Go.Abs
theorem Qsd {a b c:Int} {p q:List UInt8}:cN ⟨0,a,b,c,p,q,false⟩=2*QzX a b c p:=by simp[cN]
end M3
namespace M25
open Go Go.Abs M3
theorem Qw1 {H:QEf} {S:Nat->Bool} {k n:Nat} {b:x4} (G:S k=true) (hb:lk H k=some b) (hp:b.pr=true) (C:n=b.rows.length):(D.u4 k n).fz H S=.sl b.rows:=by
 (repeat clear hK K);simp_all [D.fz,D.x7]
def nxI (I:Int):Int:=IntKind.i64.wrap (I+1)
def nx (L:List Int) (I n:Int):Int:=mPl (Qzw L (IntKind.i64.wrap (nxI I - 1))) n
theorem Qbp {i:Nat} (h:i<=62):1<=(2:Int) ^ i/\(2:Int) ^ i<=4611686018427387904:=by
 have C:(2:Nat) ^ i<=2 ^ 62:=QFO Wa h
 grind
end M25
namespace Go.Proofs
open Go Go.Abs M3 M25
variable {a b c:Int} {p q:List UInt8}
theorem KV {l:List (Cu × Cu)} (M:Sm l) (hp:p.length<=1048576) (V:q.length<=1048576):Ok Tryz.prog 124 [ZB l,.agg [.int .i64 a,.int .i64 b,.int .i64 c,.str p,.str q]] (.bool (TF l a b c p q)):=by
 refine Ok.n7 tfol Tryz.func124 Qyl (QEi Z) ?_;show TW _ _ tf124.body _ _;have Y:=M.1;refine Qd λK C=>Zu Z Z Z (Qb Z (kc2 C Z Z (Qw (Qd λK C=>Qb Z (kc3 C Z Z Z (Qu (Q8 (ι:=Nat) (λi=>⟨[(0,ZB l),(3,.ref 3 0 0),(5,.int .i64 i)],[(3,⟨[[.int .i64 a,.int .i64 b,.int .i64 c,.str p,.str q]],5,66,true⟩)]⟩) (λi=>i<=l.length/\(l.take i).any (λs=>SJ s a b c p q)=false) (λi=>l.length - i) 0 ?_ ?_ ?_)))))));exact QM (l:=[0,3,5]) (lH:=[3]) (kp3 Z Z Z) (Qa Z Qf) Z Z Z;simp;intro i U;refine Qw (Qd λK C=>mv2 Z Z (QW Z Z (ZK Z Z (Qb Z (Qq (g:=10) Z (λT=>?_) (λT=>?_))))));rw[T];simp only[qA]at T;refine Qc Z (Qb Z (Qc Z (QA (ZS M) Z Z (.inr Z) (Qh Z Z (kc4 C Z Z Z Z (Qs Z (λO=>?_) (λO=>?_)))))));rw[O];refine Qp (ks3 Z Z Z (Qw (Qu (Qd λK C=>mv2 Z Z (Qt Z Z Z Wa (QH Wa) Z (QY (ds0:=[0]) (cs:=[_,_,_,_,_,_,_,_,_,_,_,_,_,_]) Z Z Z Z Z Z (QY (ds0:=[0]) (cs:=[_,_,_,_,_]) Z Z Z Z Z Z (Zi (ds0:=[]) (F2 (M.at (i:=i) Wa).1.1 (M.at (i:=i) Wa).1.2 (M.at (i:=i) Wa).2.1 (M.at (i:=i) Wa).2.2 hp V) Z Z (.inr Z) Z Z (kc4 C Z Z Z Z (Qs Z (λG=>?_) (λG=>?_)))))))))));rw[G];simp only[qA]at G;refine Qd λK C=>Qb Z (kc1 C Z (Qv (Qm (Qi (QQ (Qm (Qi (Qg Z ?_))))))))
 first
  |exact(Ra (i:=i) Wa U.2).symm
  |exact(Rb O).symm
  |exact(QcF O (i:=i) Wa G).symm
 rw[G];simp only[qA]at G;refine Qp (Qk (ks3 Z Z Z (QJ λK C=>Qb Z (Q2 Z Z Wb (Qb Z (C _ (Qj (i+1) ?_ ?_ ?_)))))));exact QM (l:=[0,3,5]) (lH:=[3]) (kp3 Z Z Z) (Qa Z Qf) Z Z Z;exact⟨Wa,RM Wa U.2 G⟩;omega;rw[O];refine Q3 (QF (Qx (QD (QK (QL) (Qd λK C=>Qb Z (kc1 C Z (Qv (Qg Z ?_))))))))
 grind [Rb]
 rw[T];simp only[qA]at T;refine gn2 Z Z (Qh Z Z (kc4 C Z Z Z Z (Zq Z (Q3 (QF (Qx (QD (QK (QL) (Qd λK C=>Qb Z (kc1 C Z (Qv (Qg Z ?_))))))))))))
 grind [Ra]
theorem KX {s:List (Cu × Cu) × List (Cu × Cu)} (T:Sm s.1) (M:Sm s.2) (hp:p.length<=1048576) (V:q.length<=1048576):Ok Tryz.prog 86 [QnQ s,.agg [.int .i64 a,.int .i64 b,.int .i64 c,.str p,.str q]] (.bool (PV s a b c p q)):=by
 refine Ok.n7 tfol Tryz.func86 QD9 (QEi Z) ?_;show TW _ _ tf86.body _ _;refine Qd λK C=>Zu Z Z Z (Zu Z Z Z (Qb Z (kc2 C Z Z (Qw (Qd λK C=>QB (cs:=[_,_]) Z Z Z Z (QA (KY T M) Z Z (.inr Z) (Zp Z (Qb Z (Qq (g:=8) Z (λU=>?_) (λU=>?_))))))))));rw[U];simp only[qB]at U;refine gn3 Z Z Z (Qh Z Z (kc3 C Z Z Z (Zb Z (Qd λK C=>Qb Z (kc1 C Z (Qv (Qi (Qg Z ?_))))))))
 grind [PV]
 rw[U];simp only[qB]at U;refine Qc Z (QB (cs:=[_,_,_,_,_]) Z Z Z Z (Qc Z (QA (Z0 hp V) Z Z (.inr Z) (Qc Z (Zp Z (Qh Z Z (kc3 C Z Z Z (Qs Z (λO=>?_) (λO=>?_)))))))));rw[O];simp only[qB]at O;refine Qd λK C=>Qb Z (kc1 C Z (Qv (Qi (Qg Z ?_))))
 grind [PV]
 rw[O];simp only[qB]at O;refine Qp (ks2 Z Z (Qw (Qd λK C=>Qe Z Z (Qr Z Z Z (HB Z Z (kc3 C Z Z Z (Qs Z (λG=>?_) (λG=>?_))))))));rw[G];simp only[qB]at G;refine Qd λK C=>Qe Z Z (Qr Z Z Z (QB (cs:=[_,_,_,_,_]) Z Z Z Z (QA (KV T hp V) Z Z (.inr Z) (Qb Z (kc1 C Z (Qv (Qi (Qg Z ?_))))))))
 grind [PV]
 rw[G];simp only[qB]at G;refine Qp (ks2 Z Z (Qd λK C=>Qe Z Z (Qr Z Z Z (QB (cs:=[_,_,_,_,_]) Z Z Z Z (QA (KV M hp V) Z Z (.inr Z) (Qb Z (kc1 C Z (Qv (Qg Z ?_)))))))))
 grind [PV]
end Go.Proofs
namespace M25
open Go Go.Abs M3
variable {n:Nat} {u:Int} {w:Ql}
theorem Qkw (h0:0<=u) (h:u<w.length):TE w u=2 ^ (min (w[u.toNat]'Wa).cs.length 16+1) - 1:=by
 rw[TE,QiI h0 h]
theorem Bv (h:u<0\/(w.length:Int)<=u):TE w u=0:=by rw[TE,QiJ h]
theorem QtE (h:n<=17):1<=(2:Int) ^ n/\(2:Int) ^ n<=131072:=by
 have C:(2:Nat) ^ n<=2 ^ 17:=QFO Wa h
 grind
theorem QkB (s:CC) (l:List CandT) (h:n<=16):0<=HX s l n/\HX s l n<=131070:=by
 obtain⟨G,C⟩:=Dv s l n;have:=QtE (n:=n+1) Wa;omega
def Qbj (w:Ql) (l:List Kq) (t:XT) (c:Int):Option (List Kq):=
 if c<0\/inW w t.u=false then none
 else if IntKind.i64.wrap (Ny w l t.u - Qb2 (Ny w l t.u) t.m)=0\/IntKind.i64.wrap (Ny w l t.u - Qb2 (Ny w l t.u) t.m)=Ny w l t.u then none
 else some (l++[⟨t.u,IntKind.i64.wrap (Ny w l t.u - Qb2 (Ny w l t.u) t.m),Qme l,c⟩])
def Qpn (w:Ql) (db:List (List XT)):Nat->List Kq->List Kq × Int
 |0,out=>(out, -1)
 |n+1,out=>if(Qbl w db out).2<0 then(out,(Qbl w db out).1)
  else Qpn w db n ((Qbj w out ⟨(Qbl w db out).2,Qow w (db.getD (Qbl w db out).1.toNat []) (Qbl w db out).2⟩ (Qbl w db out).1).getD [])
variable {b:x4} {d:D} {i k:Nat} {α:Type}
section
variable {fr:QEg} {H:QEf} {t u:Nat}
theorem Qjt (hb:lk H k=some b) (hp:b.pr=true) (C:n=b.rows.length) (hd:.sl b.rows=d):XX ⟨fr,H⟩ (.u4 k n)=d:=by
 unfold XX;rw[Qw1 (S:=Jt) rfl hb hp C];exact hd
theorem Kh {e:AExit} (h:lk fr t=some (.u4 k n)) (hb:lk H k=some b) (hp:b.pr=true) (C:n=b.rows.length) (hd:.sl b.rows=d) (he:e=.ret\/e=.normal:=by first |exact .inl rfl |exact .inr rfl):ua [.tmp t] d e ⟨fr,H⟩:=
 ZU h (Qjt hb hp C hd) he
end
theorem Qak {a b:List α} (ha:i<a.length) (hb:i<b.length) (h:a.take i=b.take i) (he:a[i]=b[i]):a.take (i+1)=b.take (i+1):=by
 grind [List.take_succ_eq_append_getElem]
theorem same_no [DecidableEq α] {a b:List α} (ha:i<a.length) (hb:i<b.length) (he:¬a[i]=b[i]):decide (a=b)=false:=decide_eq_false λe=>he Wc
theorem min16 (n:Nat):(min (n:Int) 16+1).toNat=min n 16+1:=Wa
theorem Qi2 {n:Nat} (h:n<=62):IntKind.i64.wrap ((2:Int) ^ n - 1)=2 ^ n - 1:=by
 have:=Qbp h;grind [Qn]
theorem QtF (i:Nat):(2:Int) ^ ((i:Int)+1).toNat=2 ^ (i+1):=by rfl
theorem Qlz (s:CC) (l:List CandT) {i:Nat} (h:i<16):IntKind.i64.wrap (HX s l i+(2:Int) ^ ((i:Int)+1).toNat)=HX s l i+2 ^ (i+1):=by
 rw[QtF];have G:=QkB s l (n:=i) Wa;have C:=QtE (n:=i+1) Wa
 grind [Qn]
theorem QlA {e:Int} (G:0<=e) (C:e<=18446744073709551615):IntKind.u64.wrap e=e:=by
 unfold IntKind.wrap;simp only[IntKind.bits,IntKind.signed,Bool.false_and,QEq,if_false];omega
theorem Qi3 {p:Nat} (h:p<=60):IntKind.i64.wrap ((2:Int)*2 ^ min ((p:Nat):Int).toNat IntKind.i64.bits)=2*2 ^ p:=by
 rw[show min ((p:Nat):Int).toNat IntKind.i64.bits=p from by grind [IntKind.bits]];have:=Qbp (i:=p+1) Wa
 grind [Qn]
theorem Qd6 (w:Ql) (l:List Kq) (t:XT) (c:Int):((Qbj w l t c).getD []).length<=l.length+1:=by
 grind [Qbj]
theorem DW {w:Ql} {db:List (List XT)}:∀(n:Nat) (out:List Kq),(Qpn w db n out).1.length<=out.length+n
 |0,out=>QEI _
 |n+1,out=>by
  rw[Qpn];split;simp;refine QEB (DW n _) ?_
  grind [Qd6]
end M25
namespace Go.Proofs
open Go Go.Abs M3 M25
theorem Kt {v:Int} (h0:0<=v) (M:v<=61):Ok Tryz.prog 149 [.int .i64 v] (.int .i64 (2 ^ v.toNat)):=by
 refine Ok.n7 tfol Tryz.func149 Qyr (QEi Z) ?_;show TW _ _ tf149.body _ _;refine Qd λK C=>Qb Z (kc1 C Z (Qd λK C=>Qb Z (kc2 C Z Z (Qw (Qd λK C=>Qb Z (kc3 C Z Z Z (Qu (Q8 (ι:=Nat) (λi=>⟨[(0,.int .i64 v),(3,.int .i64 (2 ^ i)),(4,.int .i64 i)],[]⟩) (λi=>(i:Int)<=v) (λi=>v.toNat - i) 0 ?_ ?_ ?_))))))));exact Zn (kp3 Z Z Z);omega;intro i O;have hp:=Qbp (i:=i+1) Wa;rw[Int.pow_succ]at hp;refine Qw (Qd λK C=>mv2 Z Z (ZK Z Z (kc4 C Z Z Z Z (Qs Z (λG=>?_) (λG=>?_)))));rw[G];simp only[qB]at G;refine Qp (ks3 Z Z Z (Qw (Qu (QJ λK C=>Qb Z (Qe3 Z Z (Qn Wa Wa) (Qb Z (C _ (Qk (ks3 Z Z Z (QJ λK C=>Qb Z (Q2 Z Z (Qn Wa Wa) (Qb Z (C _ (Qj (i+1) ?_ ?_ ?_))))))))))))));exact QM (l:=[0,3,4]) (lH:=[]) (kp3 Z Z Z) Qf Wg Z Z;omega;omega;rw[G];simp only[qB]at G;refine Q3 (QF (Qx (QD (ks1 Z (Qd λK C=>mv2 Z Z (kc1 C Z (Qv (QR Z ?_))))))))
 grind
variable {w:Ql}
theorem FZ (hw:WSm w) {u:Int}:Ok Tryz.prog 101 [Q9 w,.int .i64 u] (.int .i64 (TE w u)):=by
 refine Ok.n7 tfol Tryz.func101 QxY (QEi Z) ?_;show TW _ _ tf101.body _ _;refine Qd λK C=>Zu Z Z Z (Qb Z (kc2 C Z Z (Qw (Qd λK C=>Qb Z (ZK Z Z (Qb Z (Qq (g:=7) Z (λM=>?_) (λM=>?_))))))));rw[M];simp only[qA]at M;refine gn4 Z Z Z Z (YN Z (Qh Z Z (kc3 C Z Z Z (Zb Z (Qd λK C=>Qb Z (kc1 C Z (Qv (Qi (QR Z ?_)))))))))
 grind [Bv]
 rw[M];simp only[qA]at M;refine Qc Z (Qb Z (Qc Z (Qe Z Z (Qc Z (Qr Z Z Z (Qc Z (QW Z Z (Qc Z (Gw Z Z (Qh Z Z (kc3 C Z Z Z (Qs Z (λG=>?_) (λG=>?_)))))))))))));rw[G];simp only[qA]at G;refine Qd λK C=>Qb Z (kc1 C Z (Qv (Qi (QR Z ?_))))
 grind [Bv]
 rw[G];simp only[qA]at G;refine Qp (ks2 Z Z (Qd λK C=>Qe Z Z (Qr Z Z Z (Qb Z (Qt Z Z Z Wa (Q5 Wa Wa) Z (Q7 Z Z (Qr Z Z Z (QW Z Z (Qjn Z Z (Q2 Z Z Wb (QA (Kt Wa Wa) Z Z (.inr Z) (J7 Z Z (Qi2 Wa) (Qb Z (kc1 C Z (Qv (QR Z ?_))))))))))))))))
 grind [Qkw]
theorem Nu (hw:WSm w) {x:Zj} (hx:Sm x.s.1/\Sm x.s.2):Ok Tryz.prog 148 [Q9 w,.agg (F5 x)] (.int .i64 (Qi8 w x)):=by
 refine Ok.n7 tfol Tryz.func148 Qyq (QEi Z) ?_;show TW _ _ tf148.body _ _;refine Qd λK C=>Zu Z Z Z (Zu Z Z Z (Qb Z (kc2 C Z Z (Qw (Qd λK C=>Qe Z Z (Qr Z Z Z (ZK Z Z (Qb Z (Qq (g:=11) Z (λU=>?_) (λU=>?_))))))))));rw[U];simp only[qA]at U;refine gn4 Z Z Z Z (gn2 Z Z (Qh Z Z (kc3 C Z Z Z (Zb Z (Qd λK C=>Qb Z (kc1 C Z (Qv (Qi (QR Z ?_)))))))))
 grind [Dp]
 rw[U];simp only[qA]at U;refine Qc Z (Qe Z Z (Qc Z (Qr Z Z Z (Qc Z (Qe Z Z (Qc Z (Qr Z Z Z (Qc Z (QW Z Z (Qc Z (Gw Z Z (Qh Z Z (kc3 C Z Z Z (Qs Z (λT=>?_) (λT=>?_)))))))))))))));rw[T];simp only[qA]at T;refine Qd λK C=>Qb Z (kc1 C Z (Qv (Qi (QR Z ?_))))
 grind [Dp]
 rw[T];simp only[qA]at T;refine Qp (ks2 Z Z (Qd λK C=>Qb Z (kc3 C Z Z Z (Qd λK C=>Qe Z Z (Qr Z Z Z (Qe Z Z (Qr Z Z Z (Qt Z Z Z Wa (Q5 Wa Wa) Z (Q7 Z Z (Qr Z Z Z (Qb Z (kc3 C Z Z Z (Qw (Qd λK C=>Qb Z (kc4 C Z Z Z Z (Qu (Q8 (ι:=Nat) (λi=>⟨[(3,.ref 3 0 0),(5,.int .i64 (HX x.s (w[x.u.toNat]'Wa).cs i)),(6,G0 (w[x.u.toNat]'Wa).cs),(7,.int .i64 i)],[(3,⟨[[.int .i64 (x).u,ZB (x).s.1,ZB (x).s.2]],3,82,true⟩)]⟩) (λi=>i<=(min (w[x.u.toNat]'Wa).cs.length 16)) (λi=>(min (w[x.u.toNat]'Wa).cs.length 16) - i) 0 ?_ ?_ ?_)))))))))))))))));exact QM (l:=[3,5,6,7]) (lH:=[3]) (kp4 Z Z Z Z) (Qa Z Qf) Z Z Z;omega;intro i V;refine Qw (Qd λK C=>mv2 Z Z (QW Z Z (ZK Z Z (Qb Z (Qq (g:=30) Z (λO=>?_) (λO=>?_))))));rw[O];simp only[qA]at O;refine Qc Z (Qb Z (Qc Z (ZK Z Z (Qh Z Z (kc5 C Z Z Z Z Z (Qs Z (λM=>?_) (λM=>?_)))))));rw[M];simp only[qA]at M;refine Qp (ks4 Z Z Z Z (Qw (Qu (Qd λK C=>Qe Z Z (QY (ds0:=[0]) (cs:=[_,_]) Z Z Z Z Z Z (mv2 Z Z (Qt Z Z Z Wa (QH Wa) Z (Q7 Z Z (QY (ds0:=[0]) (cs:=[_,_,_,_,_]) Z Z Z Z Z Z (Zi (ds0:=[]) (KX hx.1 hx.2 (hw.vs _ (QEn _) _ (QEn Wa)).1 (hw.vs _ (QEn _) _ (QEn Wa)).2) Z Z (.inr Z) Z Z (kc5 C Z Z Z Z Z (Qs Z (λG=>?_) (λG=>?_)))))))))))));rw[G];simp only[qA]at G;refine QJ λK C=>mv2 Z Z (Q2 Z Z Wb (QA (Kt Wa Wa) Z Z (.inr Z) (Q2 Z Z (Qlz _ _ Wa) (Qb Z (C _ (Qk (ks4 Z Z Z Z (QJ λK C=>Qb Z (Q2 Z Z Wb (Qb Z (C _ (Qj (i+1) ?_ ?_ ?_))))))))))));exact QM (l:=[3,5,6,7]) (lH:=[3]) (kp4 Z Z Z Z) (Qa Z Qf) (by rw[BG Wa Wf];rfl) Z Z
 omega;omega;rw[G];simp only[qA]at G;refine Qp (Qk (ks4 Z Z Z Z (QJ λK C=>Qb Z (Q2 Z Z Wb (Qb Z (C _ (Qj (i+1) ?_ ?_ ?_)))))));exact QM (l:=[3,5,6,7]) (lH:=[3]) (kp4 Z Z Z Z) (Qa Z Qf) (by rw[Qc0 Wa Wf];rfl) Z Z
 omega;omega;rw[M];simp only[qA]at M;refine Q3 (QF (Qx (QD (ks1 Z (Qd λK C=>mv2 Z Z (kc1 C Z (Qv (QR Z ?_))))))))
 grind [Do]
 rw[O];simp only[qA]at O;refine gn2 Z Z (Qh Z Z (kc5 C Z Z Z Z Z (Zq Z (Q3 (QF (Qx (QD (ks1 Z (Qd λK C=>mv2 Z Z (kc1 C Z (Qv (QR Z ?_))))))))))))
 grind [Do]
end Go.Proofs
namespace Go.Abs
open Go
section
variable {fr:QEg} {H:QEf}
theorem Qol (k l0 et:Nat) (hk:lk H k=none):St.le ⟨fr,H⟩ ⟨fr,(k,⟨[],l0,et,true⟩)::H⟩:=λE g a w r=>
 let⟨g',_,_,r'⟩:=r.fb (l0:=l0) (et:=et) (t:=k) hk
 ⟨g',r'⟩
end
end Go.Abs
namespace M25
open Go Go.Abs M3
theorem QeN {v:Int} (h:v<=60):IntKind.i64.wrap ((2:Int)*2 ^ min v.toNat IntKind.i64.bits)=2*2 ^ v.toNat:=by
 grind [Qi3,Int.toNat_natCast]
def dMW (w:Ql) (x:Zj):List D:=[.int .i64 x.u,.int .i64 (Qi8 w x)]
def Qi6 (w:Ql) (l:List Zj):D:=.sl (l.map (dMW w))
def QwT (w:Ql) (c:CandT):D:=.sl (c.ns.map λr=>[Qi6 w r])
def Qrt (w:Ql) (u:XU):D:=.sl (u.cs.map λc=>[QwT w c])
def Qrs (w:Ql) (u:XU):D:=.sl (u.cs.map λc=>[Qi6 w c.bs])
def flN (w:Ql) (n:Nat):List Int:=(List.range n).map λu=>TE w ((u:Nat):Int)
theorem Qn5 (w:Ql) (n:Nat):(flN w n).length=n:=by simp[flN]
theorem QsL (w:Ql) (n:Nat):flN w (n+1)=flN w n++[TE w ((n:Nat):Int)]:=by simp[flN,QFX]
def T1 (w:Ql):List D:=[Q0 (flN w w.length),.sl (w.map λu=>[Qrt w u]),.sl (w.map λu=>[Qrs w u])]
theorem Qfe {fr:QEg} {H:QEf} {V U T O M G:Nat} {b1 b2 C:x4} (h1:lk H V=some b1) (p1:b1.pr=true) (l1:O=b1.rows.length) (h2:lk H U=some b2) (p2:b2.pr=true) (l2:M=b2.rows.length) (h3:lk H T=some C) (Y:C.pr=true) (l3:G=C.rows.length):
  XX ⟨fr,H⟩ (.agg [.u4 V O,.u4 U M,.u4 T G])=.agg [.sl b1.rows,.sl b2.rows,.sl C.rows]:=by
 grind [XX,D.fz,D.x7,Jt,D.can,D.x6]
variable {c:List Int} {w:Ql}
theorem QnZ (h:0<c.length) (C:c[0]<0):Jd w c=false:=by
 grind [cA,Jd]
theorem Qf7 (h:0<c.length) (C:¬c[0]<0):Jd w c=(List.range w.length).all (Bb w c):=by
 grind [cA,Jd]
theorem JU {α:Type} {l:List α} {p:α->Bool} {k:Nat} (h:k<l.length) (hp:p l[k]=false):l.all p=false:=by
 grind
theorem Qj7 (h:¬uc w c):Qf8 w c=false:=@decide_eq_false _ (Classical.propDecidable _) h
theorem QsN {i:Nat} (O:i<c.length) (hi:i<w.length) (h:∀j (h:j<c.length) (G:j<w.length),j<i->-1<=c[j]/\c[j]<w[j].cs.length) (h0: -1<=c[i]) (T:c[i]<w[i].cs.length):
  ∀j (h:j<c.length) (G:j<w.length),j<i+1->-1<=c[j]/\c[j]<w[j].cs.length:=λj M C hk=>by
 grind
theorem Du (h:¬uc w c):mayC w c=false:=by rw[mayC,Qj7 h,QFP]
end M25
namespace Go.Proofs
open Go Go.Abs M3 M25
theorem XL {w:Ql} (hw:Xc w) {c:List Int} (hc:c.length<=1048576):Ok Tryz.prog 53 [Q9 w,Q0 c] (.bool (mayC w c)):=by
 refine Ok.n7 tfol Tryz.func53 QDO (QEi Z) ?_;show TW _ _ tf53.body _ _;have hwl:=hw.len;refine Qd λK C=>Zu Z Z Z (Qb Z (kc2 C Z Z (Qw (Qd λK C=>Qb Z (QW Z QE (Qe Z Z (Qr Z Z Z (QW Z QE (Ys Z Z (Qb Z (Qq (g:=12) Z (λU=>?_) (λU=>?_))))))))))));rw[U];simp only[qA]at U;refine gn3 Z Z Z (Qh Z Z (kc3 C Z Z Z (Zb Z (Qd λK C=>Qb Z (kc1 C Z (Qv (Qi (Qg Z ?_))))))));exact(Du λh=>by have:=h.len;omega).symm
 rw[U];simp only[qA]at U;refine Qc Z (QB (cs:=[_]) Z Z Z Z (Qc Z (QA (YS hw) Z Z (.inr Z) (Qc Z (Zp Z (Qh Z Z (kc3 C Z Z Z (Qs Z (λG=>?_) (λG=>?_)))))))));rw[G];simp only[qA]at G;refine Qd λK C=>Qb Z (kc1 C Z (Qv (Qi (Qg Z ?_))))
 (grind [mayC])
 rw[G];simp only[qA]at G;refine Qp (ks2 Z Z (Qw (Qd λK C=>Qb Z (kc3 C Z Z Z (Qu (Q8 (ι:=Nat) (λi=>⟨[(1,Q0 c),(2,.ref 2 0 0),(5,.int .i64 i)],[(2,⟨[[.sl ((w).map Zv)]],1,25,true⟩)]⟩) (λi=>i<=c.length/\∀j (h:j<c.length) (G:j<w.length),j<i->-1<=c[j]/\c[j]<w[j].cs.length) (λi=>c.length - i) 0 ?_ ?_ ?_))))));exact QM (l:=[1,2,5]) (lH:=[2]) (kp3 Z Z Z) (Qa Z Qf) Z Z Z;simp;intro i Y;refine Qw (Qd λK C=>mv2 Z Z (QW Z QE (ZK Z Z (kc4 C Z Z Z Z (Qs Z (λT=>?_) (λT=>?_))))));rw[T];simp only[qA]at T;refine Qp (ks3 Z Z Z (Qw (Qu (Qd λK C=>mv2 Z Z (Qt Z Z Z Wa (QH Wa) Z (QG (ds0:=dn 15) Z Z Z Z Z (ZK Z Z (Qb Z (Qq (g:=28) Z (λO=>?_) (λO=>?_))))))))));rw[O];simp only[qA]at O;refine gn4 Z Z Z Z (gn4 Z Z Z Z (gn4 Z Z Z Z (Qh Z Z (kc4 C Z Z Z Z (Zb Z (Qd λK C=>Qb Z (kc1 C Z (Qv (Qm (Qi (QQ (Qm (Qi (Qg Z ?_))))))))))))));exact(Du λh=>by have:=h.bd i Wa Wa;omega).symm
 rw[O];simp only[qA]at O;refine Qc Z (Qb Z (Qc Z (Qb Z (Qc Z (Qt Z Z Z Wa (QH Wa) Z (Qc Z (QG (ds0:=[1,0]) Z Z Z Z Z (Qc Z (Qe Z Z (Qc Z (QG (ds0:=dn 6) Z Z Z Z Z (Qc Z (Qb Z (Qc Z (Qt Z Z Z Wa (QH Wa) Z (Qc Z (Q7 Z Z (Qc Z (QG (ds0:=[2,1,0]) Z Z Z Z Z (Qc Z (QW Z QE (Qc Z (Gw Z Z (Qh Z Z (kc4 C Z Z Z Z (Qs Z (λM=>?_) (λM=>?_)))))))))))))))))))))))))));rw[M];simp only[qA]at M;refine Qd λK C=>Qb Z (kc1 C Z (Qv (Qm (Qi (QQ (Qm (Qi (Qg Z ?_))))))));exact(Du λh=>by have:=h.bd i Wa Wa;omega).symm
 rw[M];simp only[qA]at M;refine Qp (Qk (ks3 Z Z Z (QJ λK C=>Qb Z (Q2 Z Z Wb (Qb Z (C _ (Qj (i+1) ?_ ?_ ?_)))))));exact QM (l:=[1,2,5]) (lH:=[2]) (kp3 Z Z Z) (Qa Z Qf) Z Z Z;exact⟨Wa,QsN Wa Wa Y.2 Wa Wa⟩;omega;rw[T];simp only[qA]at T;refine Q3 (QF (Qx (QD (QK (QL) (Qd λK C=>Qb Z (kc1 C Z (Qv (Qg Z ?_))))))));exact(GB (Qg4 Wa) ⟨Wa,λj hj V=>Y.2 j V hj Wa⟩).symm
theorem XM {w:Ql} (hw:WSm w) {c:List Int} (G:z6 w c) {x:Zj} (hx:0<=x.u/\x.u<w.length) (T:Sm x.s.1/\Sm x.s.2):Ok Tryz.prog 59 [Q9 w,Q0 c,.agg (F5 x)] (.bool (mtM w c x)):=by
 refine Ok.n7 tfol Tryz.func59 QDT (QEi Z) ?_;show TW _ _ tf59.body _ _;have V:=G.len;have M:x.u.toNat<c.length:=Wa;have hb:=HK G M;refine Qd λK O=>Zu Z Z Z (Zu Z Z Z (Qb Z (kc3 O Z Z Z (Qd λK O=>Qb Z (Qe Z Z (QG (ds0:=dn 24) Z Z Z Z Z (Qt Z Z Z Wa (Q5 Wa Wa) Z (QG (ds0:=dn 22) Z Z Z Z Z (Gw Z Z (Qb Z (Qq (g:=13) Z (λC=>?_) (λC=>?_))))))))))));rw[C];simp only[qA]at C;have U:=Na hb.2 C;refine Qc Z (Qe Z Z (Qc Z (QY (ds0:=[2,1,0]) (cs:=[_,_]) Z Z Z Z Z Z (Qc Z (Qe Z Z (Qc Z (QG (ds0:=[13,12,11,5,4,3,2,1,0]) Z Z Z Z Z (Qc Z (Qe Z Z (Qc Z (QG (ds0:=[13,12,11,5,4,3,2,1,0]) Z Z Z Z Z (Qc Z (Qt Z Z Z Wa (Q5 Wa Wa) Z (Qc Z (Q7 Z Z (Qc Z (QG (ds0:=dn 6) Z Z Z Z Z (Qc Z (Qb Z (Qc Z (Qe Z Z (Qc Z (QG (ds0:=dn 8) Z Z Z Z Z (Qc Z (Qt Z Z Z Wa (Q5 Wa Wa) Z (Qc Z (QG (ds0:=dn 6) Z Z Z Z Z (Qc Z (Qt Z Z Z Wa (Q5 Wa Wa) Z (Qc Z (Q7 Z Z (Qc Z (QY (ds0:=[2,1,0]) (cs:=[_,_,_,_,_]) Z Z Z Z Z Z (Qc Z (Zi (ds0:=[1,0]) (KX (s:=x.s) T.1 T.2 (hw.vs _ (QEn (Wa:x.u.toNat<w.length)) _ (QEn U)).1 (hw.vs _ (QEn (Wa:x.u.toNat<w.length)) _ (QEn U)).2) Z Z (.inr Z) Z Z (Qh Z Z (Qb Z (kc1 O Z (Qv (Qg Z ?_))))))))))))))))))))))))))))))))))))))))
 (rw[Qg9 hw G hx.1 hx.2 M C (Na hb.2 C)];rfl)
 rw[C];simp only[qA]at C;refine gn4 Z Z Z Z (gn4 Z Z Z Z (gn4 Z Z Z Z (gn4 Z Z Z Z (gn2 Z Z (Qh Z Z (Qb Z (kc1 O Z (Qv (Qg Z ?_)))))))))
 grind [Qha]
end Go.Proofs
namespace M25
open Go Go.Abs M3
noncomputable def neededR (w:Ql) (c:List Int):List Bool:=if mayC w c=true then nddL w c else[]
variable {c:List Int} {w:Ql}
theorem Qmr (o:List Bool):Lj o<=o.length:=List.countP_le_length
theorem a9.set {w:Ql} {c:List Int} {o:List Bool} {r:List Zj} {j i:Nat} (hi:i<o.length) (h:a9 w c o r j):a9 w c (o.set i true) r j:=λG M C hm=>by
 rw[Yd hi,h G M C hm,QFA]
theorem gb.none (h0:¬0<=cA c 0):gb w c (List.replicate c.length false) [] λ_=>False:=
 ⟨⟨by simp,λi hi=>(by grind [NB]),λh=>absurd h h0⟩,λv C=>Wc,λi hi=>(by grind [NB]),by grind [Qmr]⟩
theorem gb.first (M:0<c.length) (h0:0<=cA c 0):gb w c ((List.replicate c.length false).set 0 true) [0] λ_=>False:=by
 have C:0<(List.replicate c.length false).length:=by grind
 refine⟨⟨by simp,λi hi=>?_,λ_=>by grind [Yd]⟩,λv G=>?_,λi hi=>.inl ?_, ?_⟩;rw[Yd C,NB,Bool.or_false,decide_eq_true_eq]at hi;subst hi;exact .root h0
 grind [Yd]
 (repeat clear hK K);simp_all [Yd,NB]
 have T:=Pk C Wd;have O:=Qmr (List.replicate c.length false)
 grind
variable {a i j k:Nat} {ns:List (List Zj)} {o o0:List Bool}
theorem SI.len {w:Ql} {c:List Int} {o0 o:List Bool} {i:Nat} (h:SI w c o0 i o):o.length=c.length:=h.nd.len
theorem SR.len {w:Ql} {c:List Int} {o0 o:List Bool} {i a:Nat} {ns:List (List Zj)} (h:SR w c o0 i ns a o):o.length=c.length:=h.si.nd.len
theorem SK.len {w:Ql} {c:List Int} {k:Nat} {o:List Bool} (h:SK w c k o):o.length=c.length:=h.nd.len
theorem SK.ah (h:SK w c k o):SI w c o 0 o:=⟨h.nd,λ_ h=>h,.inl rfl,λ_ h=>absurd h (QFY _)⟩
theorem DZ {b:Bool} (h:k<o.length) (e:o[k]=b):o.set k b=o:=by
 apply QFS;simp
 grind
theorem SI.put {w:Ql} {c:List Int} {o0 o:List Bool} {i k:Nat} (h:SI w c o0 i o) (hk:k<o.length) (he:o[k]=false) (M:Ndd w c k):SI w c o0 i (o.set k true):=by
 have T:=Pk hk he;refine⟨h.nd.put hk M,λj G=>by rw[Yd hk,h.mono j G,QFA],.inr ?_,λj G C=>(h.prev j G C).mono hk⟩;rcases h.lh with rfl |O
 omega;omega
theorem mb.set {w:Ql} {c:List Int} {o:List Bool} {ns:List (List Zj)} {a k:Nat} (hk:k<o.length) (h:mb w c o ns a):mb w c (o.set k true) ns a:=λk' G C x hx hm=>by
 rw[Yd hk,h k' G C x hx hm,QFA]
theorem SR.fi (h:SR w c o0 i ns a o) {r:List Zj} (hr:a9 w c o r j) (C:j<r.length) (hx:onB o r[j].u.toNat=true):SR w c o0 i ns a o/\a9 w c o r (j+1):=
 ⟨h,hr.next C λ_=>hx⟩
theorem SR.th (h:SR w c o0 i ns a o) (ha:a<ns.length) (C:XE w c i=ns) (hr:a9 w c o ns[a] j) (G:j<ns[a].length) (hk:ns[a][j].u.toNat<o.length) (hx:o[ns[a][j].u.toNat]=false):
  SR w c o0 i ns a (o.set ns[a][j].u.toNat (mtM w c ns[a][j]))/\a9 w c (o.set ns[a][j].u.toNat (mtM w c ns[a][j])) ns[a] (j+1):=by
 cases hm:mtM w c ns[a][j]with
 |false=>rw[DZ hk hx];exact⟨h,hr.next G λh=>by grind⟩
 |true=>
  have M:Ndd w c ns[a][j].u.toNat:=.step (h.si.nd.snd _ h.on) (C ▸ QEn ha) (QEn G) hm;exact⟨⟨h.si.put hk hx M,by rw[Yd hk,h.on,QFA],h.rows.set hk⟩,(hr.set hk).next G λ_=>by grind [Yd]⟩
theorem SR.next (h:SR w c o0 i ns a o) (ha:a<ns.length) (hr:a9 w c o ns[a] j) (T:ns[a].length<=j):SR w c o0 i ns (a+1) o:=
 ⟨h.si,h.on,λk' O M x hx hm=>by
  by_cases e:k'=a
  subst e;obtain⟨G,C,rfl⟩:=QFR.1 hx;exact hr G C Wa hm;exact h.rows k' O Wa x hx hm⟩
theorem SR.stop (h:SR w c o0 i ns a o) (ha:ns.length<=a) (C:XE w c i=ns):SI w c o0 (i+1) o:=
 ⟨h.si.nd,h.si.mono,h.si.lh,λj O M=>by
  by_cases e:j=i
  subst e;intro r hr x hx hm;rw[C]at hr;obtain⟨k',G,rfl⟩:=QFR.1 hr;exact h.rows k' G Wa x hx hm;exact h.si.prev j Wa M⟩
theorem SI.skip (h:SI w c o0 i o) (G:onB o i=false):SI w c o0 (i+1) o:=
 ⟨h.nd,h.mono,h.lh,λj M C=>by
  by_cases e:j=i
  subst e;rw[h.mono j C]at G;grind;exact h.prev j Wa C⟩
theorem SI.start (h:SI w c o0 i o) (C:onB o i=true) (ns:List (List Zj)):SR w c o0 i ns 0 o:=⟨h,C,λ_ _ h=>absurd h (QFY _)⟩
theorem SI.done {w:Ql} {c:List Int} {o0 o:List Bool} {i k:Nat} (h:SI w c o0 i o) (hi:c.length<=i) (hk:SK w c k o0):SK w c (k+1) o:=by
 refine⟨h.nd, ?_⟩;have C:∀j,onB o0 j=true->kd w c o j:=λj G=>h.prev j (by have:=BO G;have:=hk.len;omega) G
 rcases h.lh with rfl |U;exact .inl C;rcases hk.cl with O |O
 ·have e:=hk.nd.done O;refine .inl λj G=>C j ?_;have T:=h.nd.snd j G;have M:=BO G;rw[h.len]at M;rw[Nj (by rw[hk.len];omega)]
  grind [nddL,Dy]
 have:=h.len;have:=hk.len;omega
theorem SK.vh (h:SK w c k o) (hk:c.length<=k):o=nddL w c:=by
 rcases h.cl with C |C
 ·exact h.nd.done C
 have:=h.len;omega
theorem SK.first {w:Ql} {c:List Int} (C:0<c.length):SK w c 0 ((List.replicate c.length false).set 0 (decide (0<=cA c 0))):=by
 by_cases h0:0<=cA c 0
 rw[decide_eq_true h0];have h:=gb.first (w:=w) C h0
 refine⟨h.nd,.inr ?_⟩;have:=h.bd
 grind
 rw[decide_eq_false h0,DZ Wc Wd];have h:=gb.none (w:=w) h0;exact⟨h.nd,.inl λi hi=>by grind [NB]⟩
noncomputable def tdAt (w:Ql) (c:List Int) (i:Nat):Int:=if nddB w c i=true then cA c i else -1
theorem Ro (w:Ql) (c:List Int):(nddL w c).length=c.length:=by simp[nddL]
theorem BL (h:mayC w c=true):neededR w c=nddL w c:=if_pos h
theorem BK (h:mayC w c=false):neededR w c=[]:=if_neg Wc
theorem FF (w:Ql) (c:List Int):(neededR w c).length<=c.length:=by
 unfold neededR;split;rw[Ro];omega;simp
theorem Qiq (hi:i<c.length):(tidyM w c).take (i+1)=(tidyM w c).take i++[tdAt w c i]:=by
 grind [List.take_add_one,tidyM,tdAt]
theorem Tm (w:Ql) (c:List Int):(tidyR w c).length=(neededR w c).length:=by
 grind [tidyR,neededR,Jc,Ro]
theorem Qem (h:i<(neededR w c).length):mayC w c=true:=by
 cases e:mayC w c with
 |true=>rfl
 |false=>rw[BK e]at h;grind
theorem XR (h:i<(neededR w c).length):(tidyR w c).take (i+1)=(tidyR w c).take i++[tdAt w c i]:=by
 grind [Qem,FF,Fr,Qiq]
theorem Mo (h:i<(neededR w c).length):(neededR w c)[i]=nddB w c i:=by
 grind [neededR,SQ]
end M25
namespace Go.Proofs
open Go Go.Abs M3 M25
variable {b:Bool} {k:Nat} {o:List Bool}
theorem QbA:(o.map rB).set k [.bool b]=(o.set k b).map rB:=QFQ.symm
theorem Qpt (h:k<o.length) (e:o[k]=b):(o.map rB).set k [.bool b]=o.map rB:=by rw[QbA,DZ h e]
theorem Qhx {a:Nat × x4} {r C:List (List D)} {X:QEf} (h:r=C):a::(18,⟨r,1,4,true⟩)::X=a::(18,⟨C,1,4,true⟩)::X:=by rw[h]
theorem Qj3 {c:List Int} (C:0<c.length):((List.replicate c.length false).map rB).set 0 [.bool (decide (0<=c[0]))]=((List.replicate c.length false).set 0 (decide (0<=cA c 0))).map rB:=by grind [QbA,cA]
theorem Jf {w:Ql} (hw:Xc w) {c:List Int} (hc:c.length<=1048576):Ok Tryz.prog 29 [Q9 w,Q0 c] (R9 (neededR w c)):=by
 refine Ok.n7 tfol Tryz.func29 QDB (QEi Z) ?_;show TW _ _ tf29.body _ _;refine Qd λK C=>Zu Z Z Z (Qb Z (kc2 C Z Z (Qw (Qd λK C=>QB (cs:=[_]) Z Z Z Z (Qb Z (QA (XL hw hc) Z Z (.inr Z) (Zp Z (kc3 C Z Z Z (Qs Z (λh1=>?_) (λh1=>?_))))))))));rw[h1];simp only[qA]at h1;refine Qd λK C=>Qb Z (kc1 C Z (Qv (Qi (ZU Z ?_))));rw[BK Wa];rfl;rw[h1];simp only[qA]at h1;obtain⟨hmw,hfw⟩:=Fh (w:=w) (c:=c) Wa;have hv:=hmw.val hw;have hs:=hv.ud;have hr:=hv.se;have V:=hfw.ch;have hcl:=V.len;have hvl:=hv.len;refine Qp (ks2 Z Z (Qd λK C=>Qb Z (QW Z QE (RF Z Z Z Wa Wa Wa (Qb Z (kc3 C Z Z Z (Qd λK C=>mv2 Z Z (Qt Z Z Z Wa (Q5 Wa Wa) Z (Qr Z Z Z (Gw Z Z (ZE Z Z Z Wd Wa Wa Z (Za Z Z (QhP Wa Wa) Z Z Z Z Z (kc3 C Z Z Z (Qw (Qd λK C=>Qb Z (kc4 C Z Z Z Z (Qu (Q8 (ι:=Nat × List Bool) (λk=>⟨[(1,Q0 c),(2,.ref 2 0 0),(5,.u4 18 (k.2).length),(6,.int .i64 k.1)],[(2,⟨[[.sl ((w).map Zv)]],1,25,true⟩),(18,⟨(k.2).map rB,1,4,true⟩)]⟩) (λk=>k.1<=c.length/\SK w c k.1 k.2) (λk=>c.length - k.1) (0,(List.replicate c.length false).set 0 (decide (0<=cA c 0))) ?_ ?_ ?_))))))))))))))))));exact QM (l:=[1,2,5,6]) (lH:=[2,18]) (kp4 Z Z Z Z) (Qa Z (Qa Z Qf)) Wd (by rw[Qdj];exact Qhx (Qj3 Wa)) Z
 exact⟨QEu _,SK.first Wa⟩;intro k U;have hol0:=U.2.len;refine Qw (Qd λK C=>mv2 Z Z (QW Z QE (ZK Z Z (kc5 C Z Z Z Z Z (Qs Z (λh2=>?_) (λh2=>?_))))));rw[h2];simp only[qA]at h2;refine Qp (ks4 Z Z Z Z (Qw (Qu (Qd λK C=>Qb Z (kc5 C Z Z Z Z Z (Qu (Q8 (ι:=Nat × List Bool) (λi=>⟨[(1,Q0 c),(2,.ref 2 0 0),(5,.u4 18 (i.2).length),(6,.int .i64 k.1),(7,.int .i64 i.1)],[(2,⟨[[.sl ((w).map Zv)]],1,25,true⟩),(18,⟨(i.2).map rB,1,4,true⟩)]⟩) (λi=>i.1<=c.length/\SI w c k.2 i.1 i.2) (λi=>c.length - i.1) (0,k.2) ?_ ?_ ?_)))))));exact QM (l:=[1,2,5,6,7]) (lH:=[2,18]) (kp5 Z Z Z Z Z) (Qa Z (Qa Z Qf)) Z Z Z;exact⟨QEu _,U.2.ah⟩;intro i T;have hol1:=T.2.len;refine Qw (Qd λK C=>mv2 Z Z (QW Z QE (ZK Z Z (kc6 C Z Z Z Z Z Z (Qs Z (λh3=>?_) (λh3=>?_))))));rw[h3];simp only[qA]at h3;refine Qp (ks5 Z Z Z Z Z (Qw (Qu (Qw (Qd λK C=>mv2 Z Z (ZE Z Z Z Wd Wa Wa Z (Qr Z (Xd Z (Q5 Wa Wa)) Z (Zp Z (kc6 C Z Z Z Z Z Z (Qs Z (λh4=>?_) (λh4=>?_)))))))))));rw[h4];simp only[qA]at h4;refine Q3 (QF (QD (ks5 Z Z Z Z Z (QJ λK C=>Qb Z (Q2 Z Z Wb (Qb Z (C _ (Qj (i.1+1,i.2) ?_ ?_ ?_))))))));exact QM (l:=[1,2,5,6,7]) (lH:=[2,18]) (kp5 Z Z Z Z Z) (Qa Z (Qa Z Qf)) Z Z Z;exact⟨Wa,T.2.skip (by grind [Nj])⟩;omega;rw[h4];simp only[qA]at h4;have hon:onB i.2 i.1=true:=(by grind [Nj]);have hN:=T.2.nd.snd _ hon;obtain⟨M,hc0⟩:=Dx hs hr V (Wa:0<c.length) hN;have G:i.1<w.length:=Wa;have hb:=HK V M;have O:=Na hb.2 hc0;have er:=Fp G M O;have hwn:=hs.ns _ (QEn G) _ (QEn O);have hwl:=hs.nl _ (QEn G) _ (QEn O);have Y:=hs.nw _ (QEn G) _ (QEn O);have hrn:=hr.nr _ (QEn G) _ (QEn O);obtain⟨y,hy⟩:∃y,(w[i.1]'G).cs[(c[i.1]'M).toNat]=y:=⟨_,rfl⟩;rw[hy]at er hwn hwl Y hrn;have hst:=T.2.start hon y.ns;refine Qp (ks5 Z Z Z Z Z (Qd λK C=>Qe Z Z (QG (ds0:=[11,10,9,4,3,2,1]) Z Z Z Z Z (Qb Z (Qt Z Z Z Wa (QH Wa) Z (Q7 Z Z (QG (ds0:=[4,3,2,1]) Z Z Z Z Z (mv2 Z Z (Qt Z Z Z Wa (QH Wa) Z (QG (ds0:=[4,3,2,1]) Z Z Z Z Z (Qt Z Z Z Wa (Q5 Wa Wa) Z (Q7 Z Z (QG (ds0:=[1]) Z Z Z Z Z (QW Z QE (Qb Z (kc8 C Z Z Z Z Z Z Z Z (Qu (Q8 (ι:=Nat × List Bool) (λa=>⟨[(1,Q0 c),(2,.ref 2 0 0),(5,.u4 18 (a.2).length),(6,.int .i64 k.1),(7,.int .i64 i.1),(54,Ky y.ns),(55,.int .i64 y.ns.length),(56,.int .i64 a.1)],[(2,⟨[[.sl ((w).map Zv)]],1,25,true⟩),(18,⟨(a.2).map rB,1,4,true⟩)]⟩) (λa=>a.1<=y.ns.length/\SR w c k.2 i.1 y.ns a.1 a.2) (λa=>y.ns.length - a.1) (0,i.2) ?_ ?_ ?_))))))))))))))))));exact QM (l:=[1,2,5,6,7,54,55,56]) (lH:=[2,18]) (kp8 Z Z Z Z Z Z Z Z) (Qa Z (Qa Z Qf)) Wc Z Z
 grind
 intro a hA;have hol2:=hA.2.len;refine Qd λK C=>ZK Z Z (kc9 C Z Z Z Z Z Z Z Z Z (Qw (Qs Z (λh5=>?_) (λh5=>?_))));rw[h5];simp only[qA]at h5;refine Qp (ks8 Z Z Z Z Z Z Z Z (Qw (Qu (Qd λK C=>Qt Z Z Z Wa (QH Wa) Z (Qr Z Z Z (Qb Z (kc9 C Z Z Z Z Z Z Z Z Z (Qd λK C=>Qb Z (QW Z QE (Qb Z (kc C (HA Z Z Z Z Z Z Z Z Z Z Z) (Qu (Q8 (ι:=Nat × List Bool) (λb=>⟨[(1,Q0 c),(2,.ref 2 0 0),(5,.u4 18 (b.2).length),(6,.int .i64 k.1),(7,.int .i64 i.1),(54,Ky y.ns),(55,.int .i64 y.ns.length),(56,.int .i64 a.1),(60,Yg (y.ns[a.1]'Wa)),(61,.int .i64 (y.ns[a.1]'Wa).length),(62,.int .i64 b.1)],[(2,⟨[[.sl ((w).map Zv)]],1,25,true⟩),(18,⟨(b.2).map rB,1,4,true⟩)]⟩) (λb=>b.1<=(y.ns[a.1]'Wa).length/\SR w c k.2 i.1 y.ns a.1 b.2/\a9 w c b.2 (y.ns[a.1]'Wa) b.1) (λb=>(y.ns[a.1]'Wa).length - b.1) (0,a.2) ?_ ?_ ?_)))))))))))));exact QM (l:=[1,2,5,6,7,54,55,56,60,61,62]) (lH:=[2,18]) (HA Z Z Z Z Z Z Z Z Z Z Z) (Qa Z (Qa Z Qf)) Z Z Z;exact⟨QEu _,hA.2,λ_ _ h=>absurd h (QFY _)⟩;intro b hB;have hol3:=hB.2.1.len;refine Qd λK C=>ZK Z Z (kc C (FD Z Z Z Z Z Z Z Z Z Z Z Z) (Qw (Qs Z (λh6=>?_) (λh6=>?_))));rw[h6];simp only[qA]at h6;have hrl:=hwl _ (QEn (Wa:a.1<y.ns.length));have hxu:=hrn _ (QEn (Wa:a.1<y.ns.length)) _ (QEn (Wa:b.1<(y.ns[a.1]'Wa).length));refine Qp (QK (HA Z Z Z Z Z Z Z Z Z Z Z) (Qw (Qu (Qd λK C=>Qt Z Z Z Wa (QH Wa) Z (QB (cs:=[_,_,_]) Z Z Z Z (Zk Z (Za Z Z Z Z Z Z Z Z (kc C (FD Z Z Z Z Z Z Z Z Z Z Z Z) (QJ λK C=>Qb Z (Qe Z Z (QG (ds0:=[1,0,0]) Z Z Z Z Z (Qb Z (Qe Z Z (QG (ds0:=[9,8,7,6,5,4,3,2,0,0]) Z Z Z Z Z (XW (ds0:=[8,7,6,5,4,3,2,0]) Z Z Z Wd Wa Wa Z Z Z (QG (ds0:=[7,6,5,4,3,2,0,0]) Z (Xd Z (Q5 Wa Wa)) Z Z Z (Qb Z (Qq (g:=74) Z (λh7=>?_) (λh7=>?_)))))))))))))))))));rw[h7];refine gn4 Z Z Z Z (Qh Z Z (XW (ds0:=[0]) Z Z Z Wd Wa Wa Z Z Z (YR (ds0:=[]) Z Z (Q5 Wa Wa) Z Z Z Z Z Z Z (C _ (Qk (QK (HA Z Z Z Z Z Z Z Z Z Z Z) (QJ λK C=>Q2 Z Z Wb (Qb Z (C _ (Qj (b.1+1,b.2) ?_ ?_ ?_))))))))));exact QM (l:=[1,2,5,6,7,54,55,56,60,61,62]) (lH:=[2,18]) (HA Z Z Z Z Z Z Z Z Z Z Z) (Qa Z (Qa Z Qf)) Z (Qhx (Qpt Wa h7)) Z;exact⟨Wa,hB.2.1.fi hB.2.2 Wa (by grind [Nj])⟩;omega;rw[h7];refine Qc Z (QY (ds0:=[3,2,0,0]) (cs:=[_]) Z Z Z Z Z Z (Qc Z (Qb Z (Qc Z (QY (ds0:=[3,2,0,0]) (cs:=[_,_,_]) Z Z Z Z Z Z (Qc Z (Zi (ds0:=[2,0]) (XM hs V (hrn _ (QEn (Wa:a.1<y.ns.length)) _ (QEn (Wa:b.1<(y.ns[a.1]'Wa).length))) (Y _ (QEn (Wa:a.1<y.ns.length)) _ (QEn (Wa:b.1<(y.ns[a.1]'Wa).length)))) Z Z (.inr Z) Z Z (Qh Z Z (XW (ds0:=[0]) Z Z Z Wd Wa Wa Z Z Z (YR (ds0:=[]) Z Z (Q5 Wa Wa) Z Z Z Z Z Z Z (C _ (Qk (QK (HA Z Z Z Z Z Z Z Z Z Z Z) (QJ λK C=>Q2 Z Z Wb (Qb Z (C _ (Qj (b.1+1,b.2.set ((y.ns[a.1]'Wa)[b.1]'Wa).u.toNat (mtM w c ((y.ns[a.1]'Wa)[b.1]'Wa))) ?_ ?_ ?_)))))))))))))))))
 exact QM (l:=[1,2,5,6,7,54,55,56,60,61,62]) (lH:=[2,18]) (HA Z Z Z Z Z Z Z Z Z Z Z) (Qa Z (Qa Z Qf)) Wd (Qhx QbA) Z;exact⟨Wa,hB.2.1.th Wa er hB.2.2 Wa Wa h7⟩;omega;rw[h6];simp only[qA]at h6;refine Q3 (QF (Qx (QD (Qk (ks8 Z Z Z Z Z Z Z Z (QJ λK C=>Q2 Z Z Wb (Qb Z (C _ (Qj (a.1+1,b.2) ?_ ?_ ?_)))))))));exact QM (l:=[1,2,5,6,7,54,55,56]) (lH:=[2,18]) (kp8 Z Z Z Z Z Z Z Z) (Qa Z (Qa Z Qf)) Z Z Z
 ·exact⟨Wa,hB.2.1.next Wa hB.2.2 Wa⟩
 omega;rw[h5];simp only[qA]at h5;refine Q3 (QF (Qx (QD (Qk (ks5 Z Z Z Z Z (QJ λK C=>Qb Z (Q2 Z Z Wb (Qb Z (C _ (Qj (i.1+1,a.2) ?_ ?_ ?_))))))))));exact QM (l:=[1,2,5,6,7]) (lH:=[2,18]) (kp5 Z Z Z Z Z) (Qa Z (Qa Z Qf)) Z Z Z;exact⟨Wa,hA.2.stop Wa er⟩;omega;rw[h3];simp only[qA]at h3;refine Q3 (QF (Qx (QD (Qk (ks4 Z Z Z Z (QJ λK C=>Qb Z (Q2 Z Z Wb (Qb Z (C _ (Qj (k.1+1,i.2) ?_ ?_ ?_))))))))));exact QM (l:=[1,2,5,6]) (lH:=[2,18]) (kp4 Z Z Z Z) (Qa Z (Qa Z Qf)) Z Z Z
 ·exact⟨Wa,T.2.done Wa U.2⟩
 omega;rw[h2];simp only[qA]at h2;refine Q3 (QF (Qx (QD (ks1 Z (Qd λK C=>mv2 Z Z (kc1 C Z (Qv ?_)))))));exact Kh Z Z Z Wd (by rw[BL Wa,<- U.2.vh Wa];rfl)
variable {w:Ql}
theorem JC (hw:WSm w) {l:List Zj} (M:l.length<=1000) (hx:∀x∈l,Sm x.s.1/\Sm x.s.2):Ok Tryz.prog 100 [Q9 w,Yg l] (Qi6 w l):=by
 refine Ok.n7 tfol Tryz.func100 QxX (QEi Z) ?_;show TW _ _ tf100.body _ _;refine Qd λK C=>Zu Z Z Z (Qb Z (kc2 C Z Z (Qd λK C=>Qb Z (kc3 C Z Z Z (Qw (Qd λK C=>Qb Z (kc4 C Z Z Z Z (Qu (Q8 (ι:=Nat) (λi=>⟨[(1,Yg l),(2,.ref 2 0 0),(5,.u4 5 (l.take i).length),(6,.int .i64 i)],[(2,⟨[[.sl ((w).map Zv)]],1,25,true⟩),(5,⟨(l.take i).map (dMW w),2,238,true⟩)]⟩) (λi=>i<=l.length) (λi=>l.length - i) 0 ?_ ?_ ?_)))))))));exact le_trans (Z1 5 5 2 238 Z Z) (QM (l:=[1,2,5,6]) (lH:=[2,5]) (kp4 Z Z Z Z) (Qa Z (Qa Z Qf)) Z Z Z);omega;intro i O;have hlen:(l.take i).length=i:=by grind
 refine Qw (Qd λK C=>mv2 Z Z (QW Z QE (ZK Z Z (kc5 C Z Z Z Z Z (Qs Z (λG=>?_) (λG=>?_))))));rw[G];simp only[qA]at G;refine Qp (ks4 Z Z Z Z (Qw (Qu (QJ λK C=>mv2 Z Z (Qb Z (Qt Z Z Z Wa (QH Wa) Z (Q7 Z Z (QG (ds0:=dn 4) Z Z Z Z Z (QY (ds0:=dn 5) (cs:=[_]) Z Z Z Z Z Z (mv2 Z Z (Qt Z Z Z Wa (QH Wa) Z (QY (ds0:=dn 5) (cs:=[_,_,_]) Z Z Z Z Z Z (Zi (ds0:=dn 4) (Nu hw (hx _ (QEn (Wa:i<l.length)))) Z Z (.inr Z) Z Z (Zz Z Z (QZ Z Z (Jg (ds0:=[0]) Z Z Wf ⟨_,rfl,rfl,rfl,rfl,rfl⟩ Z Z Wd Z Z Wc Wc Z Z (Qb Z (C _ (Qk (ks4 Z Z Z Z (QJ λK C=>Qb Z (Q2 Z Z Wb (Qb Z (C _ (Qj (i+1) ?_ ?_ ?_)))))))))))))))))))))))));exact le_trans (G9 (l:=[1,2,6]) (lH:=[2]) 27 5 5 (kp3 Z Z Z) (Qa Z Qf) Z Z Z Z Z Z Z) (QM (l:=[1,2,5,6]) (lH:=[2,5]) (kp4 Z Z Z Z) (Qa Z (Qa Z Qf)) Wc (by rw[Jb (Wa:i<l.length)]<;>rfl) Z)
 omega;omega;rw[G];simp only[qA]at G;refine Q3 (QF (Qx (QD (ks1 Z (Qd λK C=>mv2 Z Z (kc1 C Z (Qv ?_)))))));exact Kh Z Z Z Wd (by rw[QEy Wa];rfl)
theorem GH (hw:WSm w):Ok Tryz.prog 70 [Q9 w] (.agg (T1 w)):=by
 refine Ok.n7 tfol Tryz.func70 QDV (QEi Z) ?_;show TW _ _ tf70.body _ _;have hwl:=hw.len;refine Qd λK C=>Zu Z Z Z (Zk Z (kc2 C Z Z (Qd λK C=>Zk Z (kc3 C Z Z Z (Qw (Qd λK C=>Qb Z (kc4 C Z Z Z Z (Qu (Q8 (ι:=Nat) (λu=>⟨[(1,.ref 1 0 0),(2,.ref 2 0 0),(3,.ref 3 0 0),(4,.int .i64 u)],[(1,⟨[[.sl ((w).map Zv)]],1,25,true⟩),(2,⟨[[.u7 [],.u7 [],.u7 []]],3,132,true⟩),(3,⟨[[.u4 100 (flN w u).length,.u4 101 (w.take u).length,.u4 102 (w.take u).length]],3,132,false⟩),(100,⟨(flN w u).map (λx=>[.int .i64 x]),1,3,true⟩),(101,⟨(w.take u).map (λx=>[Qrt w x]),1,130,true⟩),(102,⟨(w.take u).map (λx=>[Qrs w x]),1,173,true⟩)]⟩) (λu=>u<=w.length) (λu=>w.length - u) 0 ?_ ?_ ?_)))))))));exact le_trans (le_trans (XD 3 0 100 1 3 Z Z Z Z) (le_trans (XD 3 1 101 1 130 Z Z Z Z) (XD 3 2 102 1 173 Z Z Z Z))) (QM (l:=[1,2,3,4]) (lH:=[1,2,3,100,101,102]) (kp4 Z Z Z Z) (Qa Z (Qa Z (Qa Z (Qa Z (Qa Z (Qa Z Qf)))))) Z Z Z);omega;intro u hI;have hlen:=Qn5 w u;have Y:(w.take u).length=u:=by grind
 refine Qw (Qd λK C=>Qb Z (Qe Z Z (Qr Z Z Z (QW Z QE (ZK Z Z (kc5 C Z Z Z Z Z (Qs Z (λO=>?_) (λO=>?_))))))));rw[O];simp only[qA]at O;refine Qp (ks4 Z Z Z Z (Qw (Qu (Qd λK C=>Qb Z (kc5 C Z Z Z Z Z (Qd λK C=>Qb Z (kc6 C Z Z Z Z Z Z (Qw (Qd λK C=>Qb Z (kc7 C Z Z Z Z Z Z Z (Qu ?_)))))))))));have hcs:=hw.cs _ (QEn (Wa:u<w.length));refine Q8 (ι:=Nat) (λi=>⟨[(1,.ref 1 0 0),(2,.ref 2 0 0),(3,.ref 3 0 0),(4,.int .i64 u),(5,.u4 5 ((w[u]'Wa).cs.take i).length),(6,.u4 6 ((w[u]'Wa).cs.take i).length),(7,.int .i64 i)],[(1,⟨[[.sl ((w).map Zv)]],1,25,true⟩),(2,⟨[[.u7 [],.u7 [],.u7 []]],3,132,true⟩),(3,⟨[[.u4 100 (flN w u).length,.u4 101 (w.take u).length,.u4 102 (w.take u).length]],3,132,false⟩),(5,⟨((w[u]'Wa).cs.take i).map (λx=>[QwT w x]),1,173,true⟩),(6,⟨((w[u]'Wa).cs.take i).map (λx=>[Qi6 w x.bs]),1,174,true⟩),(100,⟨(flN w u).map (λx=>[.int .i64 x]),1,3,true⟩),(101,⟨(w.take u).map (λx=>[Qrt w x]),1,130,true⟩),(102,⟨(w.take u).map (λx=>[Qrs w x]),1,173,true⟩)]⟩) (λi=>i<=(w[u]'Wa).cs.length) (λi=>(w[u]'Wa).cs.length - i) 0 ?_ ?_ ?_;exact le_trans (le_trans (Z1 5 5 1 173 Z Z) (Z1 6 6 1 174 Z Z)) (QM (l:=[1,2,3,4,5,6,7]) (lH:=[1,2,3,5,6,100,101,102]) (kp7 Z Z Z Z Z Z Z) (Qa Z (Qa Z (Qa Z (Qa Z (Qa Z (Qa Z (Qa Z (Qa Z Qf)))))))) Z Z Z);omega;intro i hI2;have V:((w[u]'Wa).cs.take i).length=i:=by grind
 refine Qw (Qd λK C=>Qb Z (Qe Z Z (Qr Z Z Z (Qb Z (Qt Z Z Z Wa (QH Wa) Z (Q7 Z Z (Qr Z Z Z (QW Z QE (ZK Z Z (kc8 C Z Z Z Z Z Z Z Z (Qs Z (λM=>?_) (λM=>?_))))))))))));rw[M];simp only[qA]at M;refine Qp (ks7 Z Z Z Z Z Z Z (Qw (Qu (Qd λK C=>Qe Z Z (Qr Z Z Z (Qb Z (Qt Z Z Z Wa (QH Wa) Z (Q7 Z Z (Qr Z Z Z (Qb Z (Qt Z Z Z Wa (QH Wa) Z (QB (cs:=[_,_,_,_,_,_,_,_]) Z Z Z Z (Zk Z (Za Z Z Z Z Z Z Z Z (kc8 C Z Z Z Z Z Z Z Z (Qd λK C=>Qb Z (kc9 C Z Z Z Z Z Z Z Z Z (Qw (Qd λK C=>Qb Z (kc C (GI Z Z Z Z Z Z Z Z Z Z) (Qu ?_)))))))))))))))))))));have hns:=hw.ns _ (QEn (Wa:u<w.length)) _ (QEn (Wa:i<(w[u]'Wa).cs.length));refine Q8 (ι:=Nat) (λk=>⟨[(1,.ref 1 0 0),(2,.ref 2 0 0),(3,.ref 3 0 0),(4,.int .i64 u),(5,.u4 5 ((w[u]'Wa).cs.take i).length),(6,.u4 6 ((w[u]'Wa).cs.take i).length),(7,.int .i64 i),(8,.ref 8 0 0),(9,.u4 9 (((w[u]'Wa).cs[i]'Wa).ns.take k).length),(10,.int .i64 k)],[(1,⟨[[.sl ((w).map Zv)]],1,25,true⟩),(2,⟨[[.u7 [],.u7 [],.u7 []]],3,132,true⟩),(3,⟨[[.u4 100 (flN w u).length,.u4 101 (w.take u).length,.u4 102 (w.take u).length]],3,132,false⟩),(5,⟨((w[u]'Wa).cs.take i).map (λx=>[QwT w x]),1,173,true⟩),(6,⟨((w[u]'Wa).cs.take i).map (λx=>[Qi6 w x.bs]),1,174,true⟩),(8,⟨[Jm ((w[u]'Wa).cs[i]'Wa)],8,70,true⟩),(9,⟨(((w[u]'Wa).cs[i]'Wa).ns.take k).map (λx=>[Qi6 w x]),1,174,true⟩),(100,⟨(flN w u).map (λx=>[.int .i64 x]),1,3,true⟩),(101,⟨(w.take u).map (λx=>[Qrt w x]),1,130,true⟩),(102,⟨(w.take u).map (λx=>[Qrs w x]),1,173,true⟩)]⟩) (λk=>k<=((w[u]'Wa).cs[i]'Wa).ns.length) (λk=>((w[u]'Wa).cs[i]'Wa).ns.length - k) 0 ?_ ?_ ?_;exact le_trans (Z1 9 9 1 174 Z Z) (QM (l:=[1,2,3,4,5,6,7,8,9,10]) (lH:=[1,2,3,5,6,8,9,100,101,102]) (GI Z Z Z Z Z Z Z Z Z Z) (Qa Z (Qa Z (Qa Z (Qa Z (Qa Z (Qa Z (Qa Z (Qa Z (Qa Z (Qa Z Qf)))))))))) Z Z Z);omega;intro k hI3;have U:(((w[u]'Wa).cs[i]'Wa).ns.take k).length=k:=by grind
 refine Qw (Qd λK C=>Qb Z (Qe Z Z (Qr Z Z Z (QW Z QE (ZK Z Z (kc C (HA Z Z Z Z Z Z Z Z Z Z Z) (Qs Z (λG=>?_) (λG=>?_))))))));rw[G];simp only[qA]at G;refine Qp (QK (GI Z Z Z Z Z Z Z Z Z Z) (Qw (Qu (QJ λK C=>Qb Z (QY (ds0:=dn 4) (cs:=[_]) Z Z Z Z Z Z (Qe Z Z (QG (ds0:=dn 6) Z Z Z Z Z (Qb Z (Qt Z Z Z Wa (QH Wa) Z (QG (ds0:=dn 4) Z Z Z Z Z (Zi (ds0:=[2,1,0]) (JC hw (hw.nl _ (QEn (Wa:u<w.length)) _ (QEn (Wa:i<(w[u]'Wa).cs.length)) _ (QEn (Wa:k<((w[u]'Wa).cs[i]'Wa).ns.length))) (hw.nw _ (QEn (Wa:u<w.length)) _ (QEn (Wa:i<(w[u]'Wa).cs.length)) _ (QEn (Wa:k<((w[u]'Wa).cs[i]'Wa).ns.length)))) Z Z (.inl Z) Z Z (QZ Z Z (Jg (ds0:=[0]) Z Z Wf ⟨_,rfl,rfl,rfl,rfl,rfl⟩ Z Z Wd Z Z Wc Wc Z Z (Qb Z (C _ (Qk (QK (GI Z Z Z Z Z Z Z Z Z Z) (QJ λK C=>Qb Z (Q2 Z Z Wb (Qb Z (C _ (Qj (k+1) ?_ ?_ ?_))))))))))))))))))))));exact le_trans (G9 (l:=[1,2,3,4,5,6,7,8,10]) (lH:=[1,2,3,5,6,8,100,101,102]) 54 9 9 (kp9 Z Z Z Z Z Z Z Z Z) (Qa Z (Qa Z (Qa Z (Qa Z (Qa Z (Qa Z (Qa Z (Qa Z (Qa Z Qf))))))))) Z Z Z Z Z Z Z) (QM (l:=[1,2,3,4,5,6,7,8,9,10]) (lH:=[1,2,3,5,6,8,9,100,101,102]) (GI Z Z Z Z Z Z Z Z Z Z) (Qa Z (Qa Z (Qa Z (Qa Z (Qa Z (Qa Z (Qa Z (Qa Z (Qa Z (Qa Z Qf)))))))))) Wc (by rw[Jb (Wa:k<((w[u]'Wa).cs[i]'Wa).ns.length)]<;>rfl) Z)
 omega;omega;rw[G];simp only[qA]at G;refine Q3 (QF (Qx (QD (ks9 Z Z Z Z Z Z Z Z Z (MO (Mf (l:=[1,2,3,4,5,6,7,8]) (lH:=[1,2,3,5,6,8,100,101,102]) 9 9 (kp8 Z Z Z Z Z Z Z Z) (Qa Z (Qa Z (Qa Z (Qa Z (Qa Z (Qa Z (Qa Z (Qa Z (Qa Z Qf))))))))) Z Z Z Wd Z Z Z Z) (QJ λK C=>mv2 Z Z (QZ Z Z (Jg (ds0:=[1]) Z Z Wf ⟨_,rfl,rfl,rfl,rfl,rfl⟩ Z Z Wd Z Z Wc Wc Z Z (Qb Z (QY (ds0:=[4,3,2,0]) (cs:=[_]) Z Z Z Z Z Z (Qe Z Z (QG (ds0:=[4,3,2,0]) Z Z Z Z Z (Zi (ds0:=[3,2,0]) (JC hw Wa (hw.bw _ (QEn (Wa:u<w.length)) _ (QEn (Wa:i<(w[u]'Wa).cs.length)))) Z Z (.inl Z) Z Z (QZ Z Z (Jg (ds0:=[0]) Z Z Wf ⟨_,rfl,rfl,rfl,rfl,rfl⟩ Z Z Wd Z Z Wc Wc Z Z (mv2 Z Z (C _ (Qk (ks7 Z Z Z Z Z Z Z (QJ λK C=>Qb Z (Q2 Z Z Wb (Qb Z (C _ (Qj (i+1) ?_ ?_ ?_))))))))))))))))))))))));exact le_trans (le_trans (G9 (l:=[1,2,3,4,6,7]) (lH:=[1,2,3,65,100,101,102]) 58 5 5 (kp6 Z Z Z Z Z Z) (Qa Z (Qa Z (Qa Z (Qa Z (Qa Z (Qa Z (Qa Z Qf))))))) Z Z Z Z Z Z Z) (G9 (l:=[1,2,3,4,5,7]) (lH:=[1,2,3,5,100,101,102]) 65 6 6 (kp6 Z Z Z Z Z Z) (Qa Z (Qa Z (Qa Z (Qa Z (Qa Z (Qa Z (Qa Z Qf))))))) Z Z Z Z Z Z Z)) (QM (l:=[1,2,3,4,5,6,7]) (lH:=[1,2,3,5,6,100,101,102]) (kp7 Z Z Z Z Z Z Z) (Qa Z (Qa Z (Qa Z (Qa Z (Qa Z (Qa Z (Qa Z (Qa Z Qf)))))))) Wc (by rw[QEy (Wa:((w[u]'Wa).cs[i]'Wa).ns.length<=k),Jb (Wa:i<(w[u]'Wa).cs.length),Jb (Wa:i<(w[u]'Wa).cs.length)]<;>rfl) Z)
 omega;omega;rw[M];simp only[qA]at M;refine Q3 (QF (Qx (QD (ks6 Z Z Z Z Z Z (MO (Mf (l:=[1,2,3,4,6]) (lH:=[1,2,3,6,100,101,102]) 5 5 (kp5 Z Z Z Z Z) (Qa Z (Qa Z (Qa Z (Qa Z (Qa Z (Qa Z (Qa Z Qf))))))) Z Z Z Wd Z Z Z Z) (MO (Mf (l:=[1,2,3,4,5]) (lH:=[1,2,3,100,101,102]) 6 6 (kp5 Z Z Z Z Z) (Qa Z (Qa Z (Qa Z (Qa Z (Qa Z (Qa Z Qf)))))) Z Z Z Wd Z Z Z Z) (QJ λK C=>Qe Z Z (QG (ds0:=[16,4,4,2,0]) Z Z Z Z Z (QY (ds0:=[18,17,16,4,4,2,0]) (cs:=[_]) Z Z Z Z Z Z (Qb Z (Zi (ds0:=[17,16,4]) (FZ hw) Z Z (.inr Z) Z Z (QZ Z Z (Jg (ds0:=[4]) Z Z Wf ⟨_,rfl,rfl,rfl,rfl,rfl⟩ Z Z Wd Z Z Wc Wc Z Z (Qe Z Z (QG (ds0:=[11,2,4,2,0]) Z Z Z Z Z (Qb Z (QZ Z Z (Jg (ds0:=[2]) Z Z Wf ⟨_,rfl,rfl,rfl,rfl,rfl⟩ Z Z Wd Z Z Wc Wc Z Z (Qe Z Z (QG (ds0:=[6,0,4,2,0]) Z Z Z Z Z (Qb Z (QZ Z Z (Jg (ds0:=[0]) Z Z Wf ⟨_,rfl,rfl,rfl,rfl,rfl⟩ Z Z Wd Z Z Wc Wc Z Z (Qe Z Z (YR (ds0:=[2,0]) Z Z Z Z Z Z Z Z Z Z (Qe Z Z (YR (ds0:=[0]) Z Z Z Z Z Z Z Z Z Z (Qe Z Z (YR (ds0:=[]) Z Z Z Z Z Z Z Z Z Z (C _ (Qk (ks4 Z Z Z Z (QJ λK C=>Qb Z (Q2 Z Z Wb (Qb Z (C _ (Qj (u+1) ?_ ?_ ?_)))))))))))))))))))))))))))))))))))));exact le_trans (Mg (l:=[1,2,3,4]) (lH:=[1,2,77,82]) 72 100 3 (kp4 Z Z Z Z) (Qa Z (Qa Z (Qa Z (Qa Z Qf)))) Z Z Z Z Z Z Z Z) (le_trans (Mg (l:=[1,2,3,4]) (lH:=[1,2,100,82]) 77 101 3 (kp4 Z Z Z Z) (Qa Z (Qa Z (Qa Z (Qa Z Qf)))) Z Z Z Z Z Z Z Z) (le_trans (Mg (l:=[1,2,3,4]) (lH:=[1,2,100,101]) 82 102 3 (kp4 Z Z Z Z) (Qa Z (Qa Z (Qa Z (Qa Z Qf)))) Z Z Z Z Z Z Z Z) (QM (l:=[1,2,3,4]) (lH:=[1,2,3,100,101,102]) (kp4 Z Z Z Z) (Qa Z (Qa Z (Qa Z (Qa Z (Qa Z (Qa Z Qf)))))) Z (by rw[QEy (Wa:(w[u]'Wa).cs.length<=i),FO (Wa:u<w.length),Jb (Wa:u<w.length),Jb (Wa:u<w.length),QsL,QFm,QEY]<;>rfl) Z)))
 omega;omega;rw[O];simp only[qA]at O;refine Q3 (QF (Qx (QD (ks2 Z Z (Qd λK C=>QB (cs:=[_,_,_]) Z Z Z Z (Za Z Z Z Z Z Z Z Z (kc1 C Z (Qv ?_))))))));have T:u=w.length:=Wa;subst T;refine H4 (cs:=[.u4 100 (flN w w.length).length,.u4 101 (w.take w.length).length,.u4 102 (w.take w.length).length]) Z Z Z Z ?_;rw[Qfe rfl rfl Wd rfl rfl Wd rfl rfl Wd];simp only[List.take_length];rfl
variable {c:List Int}
theorem GX (hw:WSm w) (C:z6 w c) {x:Zj} (hx:0<=x.u/\x.u<w.length):Ok Tryz.prog 150 [Q0 c,.agg (dMW w x)] (.bool (mtM w c x)):=by
 refine Ok.n7 tfol Tryz.func150 Qys (QEi Z) ?_;show TW _ _ tf150.body _ _;have T:=C.len;have O:x.u.toNat<c.length:=Wa;have hb:=HK C O;have U:=hw.cs _ (QEn (Wa:x.u.toNat<w.length));refine Qd λK M=>Zu Z Z Z (Qb Z (kc2 M Z Z (Qd λK M=>Qb Z (Qe Z Z (QG (ds0:=dn 17) Z Z Z Z Z (Qt Z Z Z Wa (Q5 Wa Wa) Z (QG (ds0:=dn 15) Z Z Z Z Z (Gw Z Z (Qb Z (Qq (g:=11) Z (λG=>?_) (λG=>?_)))))))))));rw[G];simp only[qA]at G;refine Qc Z (Qe Z Z (Qc Z (QG (ds0:=dn 4) Z Z Z Z Z (Qc Z (Qb Z (Qc Z (Qe Z Z (Qc Z (QG (ds0:=dn 8) Z Z Z Z Z (Qc Z (Qt Z Z Z Wa (Q5 Wa Wa) Z (Qc Z (QG (ds0:=dn 6) Z Z Z Z Z (Qc Z (Qe1 Z (QlA Wa Wa) (Qc Z (Qwm Z Z Wa (QeN Wa) (Qc Z (Qwk Z Z (Qc Z (Ys Z Z (Qh Z Z (Qb Z (kc1 M Z (Qv (Qg Z ?_))))))))))))))))))))))))))
 grind [Qml]
 rw[G];simp only[qA]at G;refine gn4 Z Z Z Z (gn4 Z Z Z Z (gn3 Z Z Z (Qh Z Z (Qb Z (kc1 M Z (Qv (Qg Z ?_)))))))
 grind [Qha]
theorem JY (hw:WSm w) (O:z6 w c) {l:List Zj} (T:l.length<=1000) (hx:∀x∈l,0<=x.u/\x.u<w.length):Ok Tryz.prog 102 [Q0 c,Qi6 w l] (.bool (YO w c l)):=by
 refine Ok.n7 tfol Tryz.func102 QxZ (QEi Z) ?_;show TW _ _ tf102.body _ _;refine Qd λK C=>Qb Z (kc2 C Z Z (Qw (Qd λK C=>Qb Z (kc3 C Z Z Z (Qu (Q8 (ι:=Nat) (λi=>⟨[(0,Q0 c),(1,Qi6 w l),(5,.int .i64 i)],[]⟩) (λi=>i<=l.length/\(l.take i).any (mtM w c)=false) (λi=>l.length - i) 0 ?_ ?_ ?_))))));exact Zn (kp3 Z Z Z);simp;intro i U;refine Qw (Qd λK C=>mv2 Z Z (QW Z QE (ZK Z Z (kc4 C Z Z Z Z (Qs Z (λG=>?_) (λG=>?_))))));rw[G];simp only[qA]at G;refine Qp (ks3 Z Z Z (Qw (Qu (Qd λK C=>mv2 Z Z (Qb Z (Qt Z Z Z Wa (QH Wa) Z (QB (cs:=[_,_]) Z Z Z Z (QA (GX hw O (hx _ (QEn (Wa:i<l.length)))) Z Z (.inr Z) (kc4 C Z Z Z Z (Qs Z (λM=>?_) (λM=>?_)))))))))));rw[M];refine Qd λK C=>Qb Z (kc1 C Z (Qv (Qm (Qi (QQ (Qm (Qi (Qg Z ?_))))))));exact(QFy.2 ⟨_,QEn (Wa:i<l.length),M⟩).symm;rw[M];refine Qp (Qk (ks3 Z Z Z (QJ λK C=>Qb Z (Q2 Z Z Wb (Qb Z (C _ (Qj (i+1) ?_ ?_ ?_)))))));exact Zn (kp3 Z Z Z)
 grind [RM]
 omega;rw[G];simp only[qA]at G;refine Q3 (QF (Qx (QD (QK (QL) (Qd λK C=>Qb Z (kc1 C Z (Qv (Qg Z ?_))))))))
 grind [YO]
theorem F0 {w:Ql} (hw:WSm w) (hr:WIn w) {c:List Int} (M:z6 w c) (h0:0<w.length):Ok Tryz.prog 71 [.agg (T1 w),Q0 c] (.bool (Jd w c)):=by
 refine Ok.n7 tfol Tryz.func71 QDW (QEi Z) ?_;show TW _ _ tf71.body _ _;have hcl:=M.len;have hwl:=hw.len;refine Qd λK C=>Zu Z Z Z (Qb Z (kc2 C Z Z (Qw (Qd λK C=>Qb Z (Qt Z Z Z Wa (Q5 Wa Wa) Z (Qr Z Z Z (ZK Z Z (kc3 C Z Z Z (Qs Z (λT=>?_) (λT=>?_))))))))));rw[T];simp only[qA]at T;refine Qd λK C=>Qb Z (kc1 C Z (Qv (Qi (Qg Z ?_))))
 grind [QnZ]
 rw[T];simp only[qA]at T;refine Qp (ks2 Z Z (Qw (Qd λK C=>Qb Z (kc3 C Z Z Z (Qu (Q8 (ι:=Nat) (λi=>⟨[(1,Q0 c),(2,.ptr [Q0 (flN w w.length),.sl (w.map λu=>[Qrt w u]),.sl (w.map λu=>[Qrs w u])]),(5,.int .i64 i)],[]⟩) (λi=>i<=c.length/\(List.range i).all (Bb w c)=true) (λi=>c.length - i) 0 ?_ ?_ ?_))))));exact le_trans (G8 2 _ We) (QM (l:=[1,2,5]) (lH:=[]) (kp3 Z Z Z) Qf Z Z Z);simp;intro i hI;refine Qw (Qd λK C=>mv2 Z Z (QW Z QE (ZK Z Z (kc4 C Z Z Z Z (Qs Z (λh2=>?_) (λh2=>?_))))));rw[h2];simp only[qA]at h2;refine Qp (ks3 Z Z Z (Qw (Qu (Qw (Qd λK C=>mv2 Z Z (Qt Z Z Z Wa (QH Wa) Z (Qr Z Z Z (ZK Z Z (kc4 C Z Z Z Z (Qs Z (λO=>?_) (λO=>?_)))))))))));rw[O];simp only[qA]at O;refine Q3 (QF (QD (ks3 Z Z Z (QJ λK C=>Qb Z (Q2 Z Z Wb (Qb Z (C _ (Qj (i+1) ?_ ?_ ?_))))))));exact Zn (kp3 Z Z Z)
 grind [Bc]
 omega;rw[O];simp only[qA]at O;have hb:=HK M (Wa:i<c.length);have hcs:=hw.cs _ (QEn (Wa:i<w.length));have G:=Na hb.2 (by omega:0<=c[i]'Wa);have hnl:=(hw.ns _ (QEn (Wa:i<w.length)) _ (QEn G)).1;have hbl:=(hw.ns _ (QEn (Wa:i<w.length)) _ (QEn G)).2;refine Qp (ks3 Z Z Z (Qd λK C=>Q7 Z Z (QG (ds0:=[20,19,14,13,1]) Z Z Z Z Z (Qb Z (Qt Z Z Z Wa (QH Wa) Z (QG (ds0:=[14,13,1]) Z Z Z Z Z (mv2 Z Z (Qt Z Z Z Wa (QH Wa) Z (QG (ds0:=[14,13,1]) Z Z Z Z Z (Qt Z Z Z Wa (Q5 Wa Wa) Z (QG (ds0:=[1]) Z Z Z Z Z (Q7 Z Z (QG (ds0:=[9,8,3,2,0]) Z Z Z Z Z (Qb Z (Qt Z Z Z Wa (QH Wa) Z (QG (ds0:=[3,2,0]) Z Z Z Z Z (mv2 Z Z (Qt Z Z Z Wa (QH Wa) Z (QG (ds0:=[3,2,0]) Z Z Z Z Z (Qt Z Z Z Wa (Q5 Wa Wa) Z (QG (ds0:=[0]) Z Z Z Z Z (mv2 Z Z (kc5 C Z Z Z Z Z (Qw (Qd λK C=>Qb Z (kc6 C Z Z Z Z Z Z (Qu (Q8 (ι:=Nat) (λk=>⟨[(1,Q0 c),(2,.ptr [Q0 (flN w w.length),.sl (w.map λu=>[Qrt w u]),.sl (w.map λu=>[Qrs w u])]),(5,.int .i64 i),(6,.sl ((w[i]'Wa).cs[(c[i]'Wa).toNat].ns.map λr=>[Qi6 w r])),(7,Qi6 w (w[i]'Wa).cs[(c[i]'Wa).toNat].bs),(8,.int .i64 k)],[]⟩) (λk=>k<=(w[i]'Wa).cs[(c[i]'Wa).toNat].ns.length/\((w[i]'Wa).cs[(c[i]'Wa).toNat].ns.take k).all (YO w c)=true) (λk=>(w[i]'Wa).cs[(c[i]'Wa).toNat].ns.length - k) 0 ?_ ?_ ?_))))))))))))))))))))))))))));exact Zn (kp6 Z Z Z Z Z Z);simp;intro k hQ;refine Qw (Qd λK C=>mv2 Z Z (QW Z QE (ZK Z Z (kc7 C Z Z Z Z Z Z Z (Qs Z (λY=>?_) (λY=>?_))))));rw[Y];simp only[qA]at Y;refine Qp (ks6 Z Z Z Z Z Z (Qw (Qu (Qd λK C=>mv2 Z Z (Qb Z (Qt Z Z Z Wa (QH Wa) Z (Qr Z Z Z (QA (JY hw M (hw.nl _ (QEn (Wa:i<w.length)) _ (QEn G) _ (QEn (Wa:k<(w[i]'Wa).cs[(c[i]'Wa).toNat].ns.length))) (hr.nr _ (QEn (Wa:i<w.length)) _ (QEn G) _ (QEn (Wa:k<(w[i]'Wa).cs[(c[i]'Wa).toNat].ns.length)))) Z Z (.inr Z) (Zp Z (kc7 C Z Z Z Z Z Z Z (Qs Z (λV=>?_) (λV=>?_))))))))))));rw[V];simp only[qA]at V;refine Qd λK C=>Qb Z (kc1 C Z (Qv (Qm (Qi (QQ (Qm (Qi (Qm (Qi (QQ (Qm (Qi (Qg Z ?_)))))))))))));rw[Qf7 Wa T];exact(Xa (i:=i) Wa (by grind [Sl])).symm;rw[V];simp only[qA]at V;refine Qp (Qk (ks6 Z Z Z Z Z Z (QJ λK C=>Qb Z (Q2 Z Z Wb (Qb Z (C _ (Qj (k+1) ?_ ?_ ?_)))))));exact Zn (kp6 Z Z Z Z Z Z)
 grind [ZW]
 omega;rw[Y];simp only[qA]at Y;refine Q3 (QF (Qx (QD (ks4 Z Z Z Z (Qd λK C=>mv2 Z Z (QA (JY hw M (l:=(w[i]'Wa).cs[(c[i]'Wa).toNat].bs) Wa (hr.bw _ (QEn (Wa:i<w.length)) _ (QEn G))) Z Z (.inr Z) (kc4 C Z Z Z Z (Qs Z (λU=>?_) (λU=>?_)))))))));rw[U];refine Qd λK C=>Qb Z (kc1 C Z (Qv (Qm (Qi (QQ (Qm (Qi (Qg Z ?_))))))));rw[Qf7 Wa T];exact(Xa (i:=i) Wa (by rw[Sl Wa Wa O G,show YO w c (w[i]'Wa).cs[(c[i]'Wa).toNat].bs=true from U,Bool.not_true,QFP])).symm;rw[U];refine Qp (Qk (ks3 Z Z Z (QJ λK C=>Qb Z (Q2 Z Z Wb (Qb Z (C _ (Qj (i+1) ?_ ?_ ?_)))))));exact Zn (kp3 Z Z Z);exact⟨Wa,Mw hI.2 (by rw[Sl Wa Wa O G,show YO w c (w[i]'Wa).cs[(c[i]'Wa).toNat].bs=false from U,Bool.not_false,QFj];grind)⟩
 omega;rw[h2];simp only[qA]at h2;refine Q3 (QF (Qx (QD (QK (QL) (Qd λK C=>Qb Z (kc1 C Z (Qv (Qg Z ?_))))))))
 grind [Qf7]
end Go.Proofs
namespace M25
open Go Go.Abs M3
theorem Lv (w:Ql) (c:List Int):(tidyR w c).length<=c.length:=by grind [Tm,FF]
noncomputable def subW (w:Ql) (hi:Bool) (us:List Nat) (q:List Int) (i:Int):List (List Int):=if Y7 w (q++[i]) q.length=true then listW w hi us (q++[i])else[]
theorem listW_cons (w:Ql) (hi:Bool) (n:Nat) (us:List Nat) (q:List Int):listW w hi (n::us) q=(List.range (n+1)).flatMap λj=>subW w hi us q (Zw hi n j):=rfl
theorem Qh1 {σ:Type} {p:PZ σ}:∀{s:σ} {a:List (List Int)} {k:Nat},p.ok s (a.length+k)->p.ok (YY p s a).1 k
 |s,[],k,h=>by grind [YY]
 |s,c::a,k,h=>by
  have C:=p.step (c:=c) (show p.ok s ((a.length+k)+1) from p.mono h Wc);simp only[YY];split;exact Qh1 C;exact p.mono C Wa
section
variable {w:Ql} {c c':List Int} {l:Nat}
theorem Qjq {c:List Int} {l:Nat}:AgL c (c.take (l+1)) l:=λu hu=>by
 unfold cA
 grind
theorem QsH {r:List Zj} {a:Int} {j:Nat} (h:j<r.length):Cs a (r.take (j+1))=max (Cs a (r.take j)) r[j].u:=by
 grind [List.take_succ_eq_append_getElem,Cs]
end
theorem Sd:∀(us:List Nat),(Z9 us).length=us.foldr (λn a=>(n+1)*a) 1
 |[]=>rfl
 |n::us=>by
  simp only[Z9,List.length_flatMap,QFf,List.foldr_cons];rw[List.map_const',List.sum_replicate_nat,List.length_range,Sd us]
theorem D8:∀{w:Ql} {n most:Int},0<=n->szM most w n<most->szM most w n=n*((Z9 (YF w)).length:Int)
 |[],n,most,_,_=>by simp[szM,YF,Z9]
 |u::w,n,most,hn,h=>by
  rw[szM]at h ⊢;split at h;omega;rename_i C;rw[if_neg C];have hk:(0:Int)<=n*((u.cs.length:Int)+1):=Int.mul_nonneg hn Wa;rw[D8 hk h,Sd,Sd];simp only[YF,QEW,List.foldr_cons]
  grind
variable {j n:Nat}
theorem QnE (h:j<n+1): -1<=Zw true n j/\Zw true n j<n:=by
 unfold Zw;omega
theorem QjJ {hi:Bool} (h:j<n+1): -1<=Zw hi n j/\Zw hi n j<n:=by
 cases hi
 exact QaO h;exact QnE h
theorem QhL:(List.range (n+1)).reverse=(List.range (n+1)).map λj=>n - j:=by
 apply QFS;simp;simp
theorem Ld (w:Ql):∀(us:List Nat) (q:List Int),listW w true us q=(listW w false us q).reverse
 |[],q=>by grind [listW]
 |n::us,q=>by
  simp only[listW];rw[List.reverse_flatMap,QhL,List.flatMap_map];refine Ng λj C=>?_;rw[QEE]at C
  have e:Zw false n (n - j)=Zw true n j:=by
   unfold Zw;grind
  simp only[Function.comp];rw[e];split;exact Ld w us _;rfl
variable {c:List Int} {i t:Nat} {us:List Nat}
def QrC (us:List Nat):List Int:=us.map λ_=>-1
def nxU:List Nat->List Int->Option (List Int)
 |n::us,x::c=>match nxU us c with
  |some d=>some (x::d)
  |none=>if x+1<(n:Int)then some ((x+1)::QrC us)else none
 |_,_=>none
def JK (nx:List Int->Option (List Int)):List (List Int)->Option (List Int)->Prop
 |[],_=>True
 |c::l,e=>nx c=(match l with |d::_=>some d |[]=>e)/\JK nx l e
theorem CX {nx:List Int->Option (List Int)}:∀{a b:List (List Int)} {e:Option (List Int)},JK nx a (match b with |d::_=>some d |[]=>e)->JK nx b e->JK nx (a++b) e
 |[],b,e,_,hb=>hb
 |[c],b,e,ha,hb=>by
  grind [JK]
 |c::d::a,b,e,ha,hb=>⟨ha.1,CX (a:=d::a) ha.2 hb⟩
theorem Fy:∀(us:List Nat),∃l,Z9 us=QrC us::l
 |[]=>⟨[],rfl⟩
 |n::us=>by
  obtain⟨l,C⟩:=Fy us;simp only[Z9];rw[List.range_succ_eq_map,QEM,C];exact⟨_,rfl⟩
theorem CY {n:Nat} {us:List Nat} {x:Int}:∀{l:List (List Int)},JK (nxU us) l none->JK (nxU (n::us)) (l.map (x::·)) (if x+1<(n:Int)then some ((x+1)::QrC us)else none)
 |[],_=>trivial
 |[c],h=>by
  simp only[JK]at h
  (repeat clear hK K);simp_all [JK,nxU]
 |c::d::l,h=>⟨by
   have C:nxU us c=some d:=h.1
   grind [nxU],CY (l:=d::l) h.2⟩
theorem Sc:∀(us:List Nat),JK (nxU us) (Z9 us) none
 |[]=>⟨rfl,trivial⟩
 |n::us=>by
  have O:=Sc us;obtain⟨M,C⟩:=Fy us;simp only[Z9]
  have key:∀k,k<=n+1->JK (nxU (n::us)) ((List.range' (n+1 - k) k).flatMap λj=>(Z9 us).map λr=>Zw false n j::r) none:=by
   intro k
   induction k with
   |zero=>intro _;trivial
   |succ k ihk=>
    intro hk;rw[show List.range' (n+1 - (k+1)) (k+1)=(n - k)::List.range' (n+1 - k) k by grind [List.range'_succ],QEM];refine CX ?_ (ihk Wa)
    have e:(if Zw false n (n - k)+1<(n:Int)then some ((Zw false n (n - k)+1)::QrC us)else none)=(match(List.range' (n+1 - k) k).flatMap λj=>(Z9 us).map λr=>Zw false n j::r with |d::_=>some d |[]=>none):=by
     have G:Zw false n (n - k)+1=((n - k:Nat):Int):=by unfold Zw;simp
     rw[G];cases k with
     |zero=>simp
     |succ k=>
      rw[if_pos Wa,QFn,QEM,C];simp only[QEW,QFi];have:Zw false n (n+1 - (k+1))=((n - (k+1):Nat):Int):=by unfold Zw;grind
      grind
    grind [CY]
  have:=key (n+1) (QEI _)
  (repeat clear hK K);simp_all [QFw]
theorem Qd1 {nx:List Int->Option (List Int)} {l:List (List Int)} (h:JK nx l none) (C:t<l.length):nx l[t]=l[t+1]?:=by
 induction l generalizing t with
 |nil=>grind
 |cons c l ih=>
  cases t with
  |zero=>
   have:=h.1
   grind
  |succ t=>
   have:=ih h.2 (t:=t) Wc
   grind
theorem C4 {w:Ql} (C:t<(Z9 (YF w)).length):nxU (YF w) (Z9 (YF w))[t]=(Z9 (YF w))[t+1]?:=Qd1 (Sc _) C
theorem Qmp:∀(us:List Nat) (c d:List Int) (i:Nat),us.length=c.length->i<=c.length->nxU (us.drop i) (c.drop i)=some d->nxU us c=some (c.take i++d)
 |us,c,d,0,_,_,h=>by grind
 |[],c,d,i+1,hl,hi,h=>by grind
 |n::us,[],d,i+1,hl,_,_=>by grind
 |n::us,x::c,d,i+1,hl,hi,h=>by
  have:=Qmp us c d i Wc Wc Wc
  grind [nxU]
theorem Qxl (hu:i<us.length) (hi:i<c.length) (h:nxU (us.drop (i+1)) (c.drop (i+1))=none) (hx:¬c[i]+1<(us[i]:Int)):nxU (us.drop i) (c.drop i)=none:=by
 rw[QEz hu,QEz hi]
 (repeat clear hK K);simp_all [nxU]
theorem Qtq (C:us.length=c.length) (hi:i<c.length) (h:nxU (us.drop (i+1)) (c.drop (i+1))=none) (hx:c[i]+1<(us[i]:Int)):nxU us c=some (c.take i++(c[i]+1)::List.replicate (c.length - (i+1)) (-1)):=by
 refine Qmp us c _ i C Wa ?_;rw[QEz (Wa:i<us.length),QEz hi]
 (repeat clear hK K);simp_all [nxU,QrC,List.map_const']
theorem Qtp (h:nxU (us.drop 0) (c.drop 0)=none):nxU us c=none:=by grind
theorem QkH (C:us.length=c.length):nxU (us.drop c.length) (c.drop c.length)=none:=by
 rw[<- C,List.drop_length];rfl
end M25
namespace Go.Proofs
open Go Go.Abs M3 M25
theorem CP {w:Ql} (hw:Xc w) {most:Int} (hm:most<=9223372036854775807):Ok Tryz.prog 73 [Q9 w,.int .i64 most,gD] (.int .i64 (szT w most)):=by
 refine Ok.b9 (ds:=[Q9 w,.int .i64 most]) (dg:=gD) tfol Tryz.func73 QDY (QEi Z) ?_;show TW _ _ tf73.body _ _;have hwl:=hw.len;refine Qd λK C=>Zu Z Z Z (Qb Z (kc3 C Z Z Z (Qw (Qd λK C=>Qb Z (Cr Z Z (Qb Z (Qq (g:=11) Z (λU=>?_) (λU=>?_))))))));rw[U];simp only[qA]at U;refine gn3 Z Z Z (Qh Z Z (kc3 C Z Z Z (Zb Z (Qd λK C=>Qb Z (kc1 C Z (Qv (Qi (QR Z ?_))))))))
 grind [Qlb]
 rw[U];simp only[qA]at U;refine Qc Z (QB (cs:=[_]) Z Z Z Z (Qc Z (QA (Jk hw) Z Z (.inr Z) (Qc Z (Zp Z (Qh Z Z (kc3 C Z Z Z (Qs Z (λT=>?_) (λT=>?_)))))))));rw[T];simp only[qA]at T;refine Qd λK C=>Qb Z (kc1 C Z (Qv (Qi (QR Z ?_))))
 grind [Qlb]
 rw[T];simp only[qA]at T;refine Qp (ks2 Z Z (Qd λK C=>Qb Z (kc3 C Z Z Z (Qw (Qd λK C=>Qe Z Z (Qr Z Z Z (QW Z QE (Qb Z (kc5 C Z Z Z Z Z (Qu (Q8 (ι:=Nat × Int) (λk=>⟨[(1,.int .i64 most),(5,.int .i64 k.2),(17,.sl (w.map Zv)),(18,.int .i64 w.length),(19,.int .i64 k.1)],[]⟩) (λk=>k.1<=w.length/\(1<=k.2/\k.2<=most)/\szM most w 1=szM most (w.drop k.1) k.2) (λk=>w.length - k.1) (0,1) ?_ ?_ ?_)))))))))));exact QM (l:=[1,5,17,18,19]) (lH:=[]) (kp5 Z Z Z Z Z) Qf Z Z Z
 grind
 intro k G;have V:=λ(h:k.1<w.length)=>hw.cl _ (QEn h);refine Qd λK C=>ZK Z Z (kc6 C Z Z Z Z Z Z (Qw (Qs Z (λO=>?_) (λO=>?_))));rw[O];simp only[qA]at O;refine Qp (ks5 Z Z Z Z Z (Qw (Qu (Qd λK C=>Qt Z Z Z Wa (QH Wa) Z (QB (cs:=[_,_,_]) Z Z Z Z (Zk Z (Za Z Z Z Z Z Z Z Z (kc6 C Z Z Z Z Z Z (Qd λK C=>Qe Z Z (Qr Z Z Z (QW Z QE (Q2 Z Z (Qn Wa Wc) (Qb Z (kc6 C Z Z Z Z Z Z (Qw (Qd λK C=>mv2 Z Z (Qb Z (QrT Z Z Wa (QdL Wa hm Wa) (Jh Z Z (kc7 C Z Z Z Z Z Z Z (Qs Z (λM=>?_) (λM=>?_))))))))))))))))))))));rw[M];simp only[qA]at M;have Y:=V Wa;refine Qd λK C=>mv2 Z Z (kc1 C Z (Qv (Qi (Qm (Qi (QQ (Qm (Qi (QR Z ?_)))))))))
 grind [Qah,QmH]
 rw[M];simp only[qA]at M;refine Qp (ks6 Z Z Z Z Z Z (QJ λK C=>mv2 Z Z (Qe3 Z Z (Qn (by have:=(QeI Wa Wa G.2.1 G.2.2 Wa).1;omega) (by have:=(QeI Wa Wa G.2.1 G.2.2 Wa).1;omega)) (Qb Z (C _ ?_)))))
 refine Qk (ks5 Z Z Z Z Z (QJ λK C=>Q2 Z Z (Qn Wa Wa) (Qb Z (C _ (Qj (k.1+1,k.2*(((w[k.1]'Wa).cs.length:Int)+1)) ?_ ?_ ?_)))));exact QM (l:=[1,5,17,18,19]) (lH:=[]) (kp5 Z Z Z Z Z) Qf Z Z Z;exact⟨Wa,QeI Wa Wa G.2.1 G.2.2 Wa⟩;omega;rw[O];simp only[qA]at O;refine Q3 (QF (Qx (QD (ks2 Z Z (Qd λK C=>mv2 Z Z (Qjn Z Z (Qb Z (kc1 C Z (Qv (QR Z ?_))))))))))
 (grind [Qah,Qij])
end Go.Proofs
namespace M25
open Go Go.Abs M3
section
variable {w:Ql} {x:Zj}
theorem Ql5 (h:x.u.toNat<w.length):hsL w x=(w[x.u.toNat]).cs.map λk=>Qgu x.s k.v:=by
 rw[hsL,QE8 h]
theorem Dh (h:x.u.toNat<w.length):(hsL w x).length=(w[x.u.toNat]).cs.length:=by rw[Ql5 h,QFf]
theorem Qw5 (h:x.u.toNat<w.length) {i:Nat} (hi:i<(w[x.u.toNat]).cs.length):(hsL w x).take (i+1)=(hsL w x).take i++[Qgu x.s (w[x.u.toNat]).cs[i].v]:=by
 grind [List.take_succ_eq_append_getElem,Ql5]
end
theorem Qfd {fr:QEg} {H:QEf} {G C:Nat} {b2:x4} {z:Int} {rows:List (List D)} (M:lk H G=some b2) (p2:b2.pr=true) (l2:C=b2.rows.length) (e:b2.rows=rows):XX ⟨fr,H⟩ (.agg [.int .i64 z,.u4 G C])=.agg [.int .i64 z,.sl rows]:=by
 grind [XX,D.fz,D.x7,Jt,D.can,D.x6]
end M25
namespace Go.Proofs
open Go Go.Abs M3 M25
theorem TU {w:Ql} (hw:WSm w) {x:Zj} (hx:0<=x.u/\x.u<w.length) (M:Sm x.s.1/\Sm x.s.2):Ok Tryz.prog 103 [Q9 w,.agg (F5 x),gD] (.agg (dWk w x)):=by
 refine Ok.b9 (ds:=[Q9 w,.agg (F5 x)]) (dg:=gD) tfol Tryz.func103 Qx0 (QEi Z) ?_;show TW _ _ tf103.body _ _;have O:=hw.cs _ (QEn (Wa:x.u.toNat<w.length));have T:=Dh (Wa:x.u.toNat<w.length);refine Qd λK C=>Zu Z Z Z (Zu Z Z Z (Zk Z (kc4 C Z Z Z Z (Qd λK C=>Qe Z Z (Qr Z Z Z (Zz Z Z (Zk Z (Za Z Z Z Z Z Z Z Z (kc5 C Z Z Z Z Z (Qw (Qd λK C=>Qe Z Z (Qr Z Z Z (Qe Z Z (Qr Z Z Z (Qt Z Z Z Wa (Q5 Wa Wa) Z (Q7 Z Z (Qr Z Z Z (QW Z QE (Qb Z (kc7 C Z Z Z Z Z Z Z (Qu (Q8 (ι:=Nat) (λi=>⟨[(3,.ref 3 0 0),(4,.ref 4 0 0),(5,.ref 5 0 0),(17,G0 (w[x.u.toNat]'Wa).cs),(18,.int .i64 (w[x.u.toNat]'Wa).cs.length),(19,.int .i64 i),(900000,gD)],[(3,⟨[F5 x],3,82,true⟩),(4,⟨[[.int .i64 0,.u7 []]],2,186,true⟩),(5,⟨[[.int .i64 x.u,.u4 100 ((hsL w x).take i).length]],2,186,false⟩),(100,⟨((hsL w x).take i).map rB,1,4,true⟩)]⟩) (λi=>i<=(w[x.u.toNat]'Wa).cs.length) (λi=>(w[x.u.toNat]'Wa).cs.length - i) 0 ?_ ?_ ?_))))))))))))))))))))));exact le_trans (XD 5 1 100 1 4 Z Z Z Z) (QM (l:=[3,4,5,17,18,19,900000]) (lH:=[3,4,5,100]) (kp7 Z Z Z Z Z Z Z) (Qa Z (Qa Z (Qa Z (Qa Z Qf)))) Z Z Z);omega;intro i U;have hlen:((hsL w x).take i).length=i:=by grind
 refine Qd λK C=>ZK Z Z (kc8 C Z Z Z Z Z Z Z Z (Qw (Qs Z (λG=>?_) (λG=>?_))));rw[G];simp only[qA]at G;refine Qp (ks7 Z Z Z Z Z Z Z (Qw (Qu (Qd λK C=>Qt Z Z Z Wa (QH Wa) Z (QB (cs:=[_,_,_,_,_,_,_,_]) Z Z Z Z (Zk Z (Za Z Z Z Z Z Z Z Z (kc8 C Z Z Z Z Z Z Z Z (QJ λK C=>Qe Z Z (QG (ds0:=[2,0,0]) Z Z Z Z Z (Qe Z Z (QY (ds0:=[4,3,2,0,0]) (cs:=[_,_]) Z Z Z Z Z Z (Qe Z Z (QY (ds0:=[4,3,2,0,0]) (cs:=[_,_,_,_,_]) Z Z Z Z Z Z (Zi (ds0:=[3,2,0]) (CN M.1 M.2 (hw.vs _ (QEn (Wa:x.u.toNat<w.length)) _ (QEn (Wa:i<(w[x.u.toNat]'Wa).cs.length))).1 (hw.vs _ (QEn (Wa:x.u.toNat<w.length)) _ (QEn (Wa:i<(w[x.u.toNat]'Wa).cs.length))).2) Z Z (.inr Z) Z Z (QZ Z Z (Jg (ds0:=[0]) Z Z Wf ⟨_,rfl,rfl,rfl,rfl,rfl⟩ Z Z Wd Z Z Wc Wc Z Z (Qe Z Z (YR (ds0:=[]) Z Z Z Z Z Z Z Z Z Z (C _ (Qk (ks7 Z Z Z Z Z Z Z (QJ λK C=>Q2 Z Z Wb (Qb Z (C _ (Qj (i+1) ?_ ?_ ?_))))))))))))))))))))))))));exact le_trans (Mg (l:=[3,4,5,17,18,19,900000]) (lH:=[3,4]) 31 100 5 (kp7 Z Z Z Z Z Z Z) (Qa Z (Qa Z Qf)) Z Z Z Z Z Z Z Z) (QM (l:=[3,4,5,17,18,19,900000]) (lH:=[3,4,5,100]) (kp7 Z Z Z Z Z Z Z) (Qa Z (Qa Z (Qa Z (Qa Z Qf)))) Z (by rw[Qw5 Wa Wa,QFm,QEY]<;>rfl) Z)
 omega;omega;rw[G];simp only[qA]at G;refine Q3 (QF (Qx (QD (ks2 Z Z (Qd λK C=>QB (cs:=[_,_]) Z Z Z Z (Za Z Z Z Z Z Z Z Z (kc1 C Z (Qv (H4 (cs:=[.int .i64 x.u,.u4 100 ((hsL w x).take i).length]) Z Z Z Z ?_)))))))));exact Qfd Z Z Wd (by rw[QEy Wa];rfl)
end Go.Proofs
namespace M25
open Go Go.Abs M3
variable {a u:Int} {b:Bool} {i j k:Nat} {ns:List (List Zj)} {o:List Bool} {q:List Int} {r:List Zj} {y:CandT} {α:Type}
section
variable {w:Ql} {c:List Int} {l:Nat} {x:Zj}
theorem QoE (C:x.u.toNat<c.length) (h0:0<=c[x.u.toNat]) (G:c[x.u.toNat].toNat<(hsL w x).length):(hsL w x)[c[x.u.toNat].toNat]=mtP w c x:=by
 (repeat clear hK K);simp_all [mtP,Qfr]
theorem Qti (C:x.u.toNat<c.length) (h0:¬0<=c[x.u.toNat]):mtP w c x=false:=by
 grind [mtP,Qfr]
theorem Qg6 (h:x.u<=(l:Int)):mtL w c l x=mtP w c x:=by rw[mtL,decide_eq_true h,QE7]
theorem Qg7 (h:¬x.u<=(l:Int)):mtL w c l x=false:=by grind [mtL]
theorem Fu {r:List α} {p:α->Bool} (h:j<r.length):(r.take (j+1)).any p=((r.take j).any p||p r[j]):=by
 grind [List.take_succ_eq_append_getElem]
theorem QbV {r:List α} {p:α->Bool} (h:j<r.length):(r.take (j+1)).all p=((r.take j).all p&&p r[j]):=by
 grind [List.take_succ_eq_append_getElem]
theorem QbX {r:List α} {p:α->Bool} {d:Bool} (h:j<r.length) (hb:b=(r.take j).any p) (hd:(b||p r[j])=d):d=(r.take (j+1)).any p:=by
 grind [Fu]
theorem Qf0 (h:j<r.length) (ha:a=Cs u (r.take j)):max a r[j].u=Cs u (r.take (j+1)):=by
 grind [QsH]
theorem Qjr {r:List α} {p:α->Bool} (h:(r.take j).all p=true) (C:r.length<=j):r.all p=true:=by grind [List.take_of_length_le]
theorem QbW {r:List α} {p:α->Bool} (h:(r.take j).any p=b) (C:r.length<=j):r.any p=b:=by grind [List.take_of_length_le]
section
variable {u:Nat} (hu:u<w.length) (huc:u<c.length) (hk:c[u].toNat<w[u].cs.length)
include hu huc hk
theorem QbB:QeF w c l u=(w[u].cs[c[u].toNat].ns.all (Qev w c l u)&&!(w[u].cs[c[u].toNat].bs.any (mtL w c l))):=by
 grind [QeF,Ym]
theorem Qgy (C:w[u].cs[c[u].toNat]=y) (G:u<=l) (M:¬c[u]<0) (O:k<y.ns.length) (hr:y.ns[k]=r) (U:Cs (u:Int) r<=(l:Int)) (T:r.any (mtL w c l)=false):XC w c l=false:=by
 rw[QFW];intro h;rw[XC,QEs]at h;have:=h u (QEE.2 Wa);rw[F7,Ym huc,decide_eq_false M,QEX,QbB hu huc hk,C,QEm,QEs]at this
 grind [List.getElem_mem,Qev]
theorem Qgw (C:w[u].cs[c[u].toNat]=y) (G:u<=l) (M:¬c[u]<0) (O:k<y.bs.length) (T:mtL w c l y.bs[k]=true):XC w c l=false:=by
 rw[QFW];intro h;rw[XC,QEs]at h;have:=h u (QEE.2 Wa);rw[F7,Ym huc,decide_eq_false M,QEX,QbB hu huc hk,C,QEm,QFv]at this
 grind
theorem Qkj (C:w[u].cs[c[u].toNat]=y) (h:(List.range u).all (F7 w c l)=true) (M:y.ns.all (Qev w c l u)=true) (G:y.bs.any (mtL w c l)=false):(List.range (u+1)).all (F7 w c l)=true:=by
 rw[QFX,QFK,h,QE7]
 (repeat clear hK K);simp_all [F7,QbB]
end
theorem Qeh {u:Nat} (huc:u<c.length) (h:(List.range u).all (F7 w c l)=true) (C:c[u]<0):(List.range (u+1)).all (F7 w c l)=true:=by
 (repeat clear hK K);simp_all [QFX,F7,Ym]
theorem Qgx {u:Nat} (h:(List.range u).all (F7 w c l)=true) (hu:(u:Int)=l+1):XC w c l=true:=by
 have:u=l+1:=Wa;subst this;exact h
theorem Qpj {u:Nat} (ha:a=Cs (u:Int) r) (hb:b=r.any (mtL w c l)) (h:¬a<=(l:Int)\/b=true):Qev w c l u r=true:=by
 (repeat clear hK K);simp_all [Qev]
theorem QhU {u:Nat} (ha:a=Cs (u:Int) (r.take j)) (hb:b=(r.take j).any (mtL w c l)) (C:r.length<=j) (h:¬a<=(l:Int)\/b=true):Qev w c l u r=true:=by
 (repeat clear hK K);simp_all [QEy,Qpj]
theorem Qej {u:Nat} (hu:u<w.length) (huc:u<c.length) (hk:c[u].toNat<w[u].cs.length) (M:w[u].cs[c[u].toNat]=y) (C:u<=l) (O:¬c[u]<0) (G:k<y.ns.length) (ha:a=Cs (u:Int) (y.ns[k].take j)) (hb:b=(y.ns[k].take j).any (mtL w c l)) (T:y.ns[k].length<=j) (V:a<=(l:Int)) (U:b=false):XC w c l=false:=by
 rw[QEy T]at ha hb;exact Qgy hu huc hk M C O G rfl Wa Wc
section
variable {u:Nat} (hu:u<w.length)
include hu
theorem Cj (hk:k<w[u].cs.length):Pv w c l u k=((decide (l<u)||decide (cA c u=(k:Int)))&&w[u].cs[k].ns.any λr=>r.any (isW w c l)):=by
 grind [Pv]
theorem Qlv {k:Nat} (hk:k<w[u].cs.length) (G:l<u\/cA c u=(k:Int)) {a:Nat} (ha:a<w[u].cs[k].ns.length) (hr:w[u].cs[k].ns[a]=r) {b:Nat} (hb:b<r.length) (C:isW w c l r[b]=true):Pw w c l=true:=by
 rw[Pw,QFy];refine⟨u,QEE.2 hu, ?_⟩;rw[Ck,QE8 hu];simp only;rw[QFy];refine⟨k,QEE.2 hk, ?_⟩;rw[Cj hu hk,QEm,QFu,decide_eq_true_eq,decide_eq_true_eq,QFy]
 grind [List.getElem_mem]
theorem QeL {k:Nat} (hk:k<w[u].cs.length) (h:(List.range k).any (Pv w c l u)=false) (G:¬l<u) (C:cA c u≠(k:Int)):(List.range (k+1)).any (Pv w c l u)=false:=by
 rw[QFX,List.any_append,h,QEX];simp only[List.any_cons,List.any_nil,Bool.or_false]
 grind [Cj]
theorem Qls (hk:k<w[u].cs.length) (h:(List.range k).any (Pv w c l u)=false) (C:(w[u].cs[k].ns.any λr=>r.any (isW w c l))=false):(List.range (k+1)).any (Pv w c l u)=false:=by
 rw[QFX,List.any_append,h,QEX];simp only[List.any_cons,List.any_nil,Bool.or_false];rw[Cj hu hk,C,QFP]
theorem Qlt (hk:(w[u].cs.length:Int)<=k) (C:k<=w[u].cs.length) (h:(List.range u).any (Ck w c l)=false) (G:(List.range k).any (Pv w c l u)=false):(List.range (u+1)).any (Ck w c l)=false:=by
 have:k=w[u].cs.length:=Wa
 (repeat clear hK K);simp_all [QFX,Ck]
end
theorem Qlu {u:Nat} (h:(List.range u).any (Ck w c l)=false) (hu:(w.length:Int)<=u) (C:u<=w.length):Pw w c l=false:=by
 have:u=w.length:=Wa;subst this;exact h
theorem QgH (C:l<c.length) (hx:x.u=(l:Int)) (G:c[l].toNat<(hsL w x).length):(hsL w x)[c[l].toNat]=isW w c l x:=by
 (repeat clear hK K);simp_all [isW,Ym]
theorem Qs5 (hx:¬x.u=(l:Int)):isW w c l x=false:=by grind [isW]
theorem Qw4 (C:l<w.length) (hx:x.u=(l:Int)):(hsL w x).length=w[l].cs.length:=by
 grind [Dh]
noncomputable def tidyB (w:Ql) (c:List Int):Bool:=@decide (tidyM w c=c) (Classical.propDecidable _)
theorem QbL (h:tidyM w c=c):tidyB w c=true:=@decide_eq_true _ (Classical.propDecidable _) h
theorem QqZ (h:¬tidyM w c=c):tidyB w c=false:=@decide_eq_false _ (Classical.propDecidable _) h
theorem Qiu:tidyB w c=true↔tidyM w c=c:=⟨λh=>@of_decide_eq_true _ (Classical.propDecidable _) h,QbL⟩
theorem Qq1 (h:j<c.length) (h0:0<=c[j]) (C:nddB w c j=false):tidyB w c=false:=QqZ λhe=>by
 have:(tidyM w c)[j]?=c[j]?:=by rw[he]
 rw[tidyM,QE4,QE5 h,QE8 h]at this
 grind
theorem Qlg (hb:∀j (h:j<c.length), -1<=c[j]) (h:∀j (h:j<c.length),0<=c[j]->nddB w c j=true):tidyB w c=true:=QbL <| by
 apply QFS;simp[tidyM];intro j G C
 grind [tidyM,Ym]
theorem BQ.len {o:List Bool} {q:List Int} {i:Nat} (h:BQ w c o q i):o.length=c.length:=h.nd.len
theorem BQ.zg (h:BQ w c o q i):q.length<=c.length:=by have:=h.nh;omega
theorem BQ.at {o:List Bool} {q:List Int} {i:Nat} (h:BQ w c o q i) {j:Nat} (G:j<q.length):0<=q[j]/\q[j].toNat<c.length/\Ndd w c q[j].toNat:=by
 obtain⟨M,C⟩:=h.on j G;have:=BO C;rw[h.len]at this;exact⟨M,this,h.nd.snd _ C⟩
theorem QoQ (n:Nat):Lj (List.replicate n false)=n:=by
 grind [Lj,List.countP_replicate]
theorem BQ.first (h0:0<c.length) (C:0<=cA c 0):BQ w c ((List.replicate c.length false).set 0 true) [0] 0 where
 nd:=⟨by simp,λi hi=>by
  rw[Yd Wc,NB,Bool.or_false,decide_eq_true_eq]at hi;subst hi;exact .root C,λ_=>by grind [Yd]⟩
 nh:=by
  have:=Pk (o:=List.replicate c.length false) (i:=0) Wc Wd
  grind [QoQ]
 on:=λj G=>by
  have:j=0:=by grind
  (repeat clear hK K);simp_all [Yd]
 all:=λu hu=>by
  rw[Yd Wc,NB,Bool.or_false,decide_eq_true_eq]at hu;subst hu;simp
 cl:=λj _ h=>Wa
theorem BQ.start (h:BQ w c o q i) (hi:i<q.length) (ns:List (List Zj)):vf w c o q i q[i] ns 0:=⟨h,hi,rfl,λ_ _ h=>absurd h (QFY _)⟩
theorem vf.next (h:vf w c o q i u ns k) (hk:k<ns.length) (hr:a9 w c o ns[k] j) (M:ns[k].length<=j):vf w c o q i u ns (k+1):=⟨h.b,h.hi,h.cur,λk' G O x hx hm=>by
 by_cases e:k'=k
 subst e;obtain⟨m,C,rfl⟩:=QFR.1 hx;exact hr m C Wa hm;exact h.rows k' G Wa x hx hm⟩
theorem vf.stop (h:vf w c o q i u ns k) (hk:ns.length<=k) (C:XE w c u.toNat=ns):BQ w c o q (i+1):=⟨h.b.nd,h.b.nh,h.b.on,h.b.all,λj O M=>by
 by_cases e:j=i
 subst e;rw[h.cur];intro r hr x hx hm;rw[C]at hr;obtain⟨m,G,rfl⟩:=QFR.1 hr;exact h.rows m G Wa x hx hm;exact h.b.cl j O Wa⟩
theorem vf.put {o:List Bool} {q:List Int} {i:Nat} {u:Int} {ns:List (List Zj)} {k j:Nat} (h:vf w c o q i u ns k) (hk:k<ns.length) (hns:XE w c u.toNat=ns) (hr:a9 w c o ns[k] j) (hj:j<ns[k].length) (hx0:0<=ns[k][j].u) (G:ns[k][j].u.toNat<o.length) (U:o[ns[k][j].u.toNat]=false) (hm:mtM w c ns[k][j]=true):
  vf w c (o.set ns[k][j].u.toNat true) (q++[ns[k][j].u]) i u ns k/\a9 w c (o.set ns[k][j].u.toNat true) ns[k] (j+1):=by
 have V:Ndd w c ns[k][j].u.toNat:=by
  refine .step (i:=u.toNat) ?_ Wc (QEn hj) hm;have:=(h.b.at h.hi).2.2
  rwa [h.cur]at this
 have hcnt:=Pk G U;have C:∀v,onB o v=true->onB (o.set ns[k][j].u.toNat true) v=true:=λv T=>by rw[Yd G,T,QFA]
 refine⟨⟨⟨h.b.nd.put G V,by have:=h.b.nh;grind,λm M=>?_,λv T=>?_,λm M Y=>?_⟩,by rw[QEY];have:=h.hi;omega,by rw[List.getElem_append_left h.hi];exact h.cur,λk' h1 h2 x hx O=>C _ (h.rows k' h1 h2 x hx O)⟩,λm M hm2 O=>?_⟩
 by_cases e:m<q.length
 rw[List.getElem_append_left e];exact⟨(h.b.on m e).1,C _ (h.b.on m e).2⟩
 grind [Yd]
 rw[Yd G,QFu,decide_eq_true_eq]at T;rcases T with rfl |T
 exact⟨q.length,by simp,by grind⟩;obtain⟨m,M,hm2⟩:=h.b.all v T;exact⟨m,by grind,by grind⟩;have e:m<q.length:=by have:=h.hi;omega
 rw[List.getElem_append_left e];exact(h.b.cl m e Y).mono G
 by_cases e:m=j
 grind [Yd]
 exact C _ (hr m M Wa O)
theorem a9.skip (hr:a9 w c o r j) (C:j<r.length) (h:mtM w c r[j]=true->onB o r[j].u.toNat=true):a9 w c o r (j+1):=hr.next C h
theorem BQ.stop (h:BQ w c o q i) (hi:q.length<=i):o=nddL w c:=h.nd.done λu hu=>by
 obtain⟨j,C,e⟩:=h.all u hu;have:=h.cl j C Wa
 grind
theorem Qmm (ho:o=nddL w c) (h:j<o.length):o[j]=nddB w c j:=by
 grind [SQ]
end
end M25
namespace Go.Proofs
open Go Go.Abs M3 M25
variable {c:List Int} {hb:Bool} {w:Ql} {x:Zj}
theorem Xe (O:x.u.toNat<c.length) (M:0<=x.u) (hk:0<=c[x.u.toNat]->c[x.u.toNat].toNat<(hsL w x).length):Ok Tryz.prog 151 [.ptr [ZQ w,Q0 c,.bool hb,.z7],.agg (dWk w x)] (.bool (mtP w c x)):=by
 refine Ok.n7 tfol Tryz.func151 Qyt (QEi Z) ?_;show TW _ _ tf151.body _ _;refine Qd λK G=>Zu Z Z Z (Qb Z (kc2 G Z Z (Qd λK G=>Qb Z (Zm Z Z (Q7 Z Z (QG (ds0:=dn 18) Z Z Z Z Z (Qe Z Z (QG (ds0:=dn 18) Z Z Z Z Z (Qt Z Z Z Wa (Q5 Wa Wa) Z (QG (ds0:=dn 16) Z Z Z Z Z (Gw Z Z (Qb Z (Qq (g:=14) Z (λC=>?_) (λC=>?_))))))))))))));rw[C];simp only[qA]at C;refine Qc Z (Qe Z Z (Qc Z (QG (ds0:=dn 4) Z Z Z Z Z (Qc Z (Qb Z (Qc Z (Zm Z Z (Qc Z (Q7 Z Z (Qc Z (QG (ds0:=dn 6) Z Z Z Z Z (Qc Z (Qe Z Z (Qc Z (QG (ds0:=dn 6) Z Z Z Z Z (Qc Z (Qt Z Z Z Wa (Q5 Wa Wa) Z (Qc Z (QG (ds0:=dn 4) Z Z Z Z Z (Qc Z (Qt Z Z Z Wa (Q5 Wa Wa) Z (Qc Z (QG (ds0:=[1,0]) Z Z Z Z Z (Qh Z Z (Qb Z (kc1 G Z (Qv (Qg Z ?_))))))))))))))))))))))))))))
 grind [QoE]
 rw[C];simp only[qA]at C;refine gn4 Z Z Z Z (gn4 Z Z Z Z (gn4 Z Z Z Z (Qh Z Z (Qb Z (kc1 G Z (Qv (Qg Z ?_)))))))
 grind [Qti]
theorem Qfw {l:Nat} (C:c.length=w.length) (G:∀u (h:u<w.length) (M:u<c.length),u<=l->c[u]<w[u].cs.length) (hx:0<=x.u/\x.u<w.length) (hle:x.u<=(l:Int)):Ok Tryz.prog 151 [.ptr [ZQ w,Q0 c,.bool hb,.z7],.agg (dWk w x)] (.bool (mtP w c x)):=
 Xe Wa hx.1 λh0=>by
  grind [Dh]
theorem JJ (hw:WSm w) (hr:WIn w) (hcl:c.length=w.length) {l:Nat} (hl:l<w.length) (T:∀u (h:u<w.length) (Y:u<c.length),u<=l->c[u]<w[u].cs.length):Ok Tryz.prog 106 [.ptr [ZQ w,Q0 c,.bool hb,.z7],.int .i64 l] (.bool (XC w c l)):=by
 refine Ok.n7 tfol Tryz.func106 Qx3 (QEi Z) ?_;show TW _ _ tf106.body _ _;have hwl:=hw.len;refine Qd λK C=>Qb Z (kc2 C Z Z (Qw (Qd λK C=>Qb Z (kc3 C Z Z Z (Qu (Q8 (ι:=Nat) (λu=>⟨[(0,.ptr [ZQ w,Q0 c,.bool hb,.z7]),(1,.int .i64 l),(5,.int .i64 u)],[]⟩) (λu=>u<=l+1/\(List.range u).all (F7 w c l)=true) (λu=>l+1 - u) 0 ?_ ?_ ?_))))));exact Zn (kp3 Z Z Z);simp;intro u hI;refine Qw (Qd λK C=>mv2 Z Z (Cr Z Z (kc4 C Z Z Z Z (Qs Z (λh1=>?_) (λh1=>?_)))));rw[h1];simp only[qA]at h1;refine Qp (ks3 Z Z Z (Qw (Qu (Qw (Qd λK C=>Qb Z (Zm Z Z (Q7 Z Z (Qr Z Z Z (Qb Z (Qt Z Z Z Wa (QH Wa) Z (Qr Z Z Z (ZK Z Z (kc4 C Z Z Z Z (Qs Z (λY=>?_) (λY=>?_)))))))))))))));rw[Y];simp only[qA]at Y;refine Q3 (QF (QD (ks3 Z Z Z (QJ λK C=>Qb Z (Q2 Z Z Wb (Qb Z (C _ (Qj (u+1) ?_ ?_ ?_))))))));exact Zn (kp3 Z Z Z)
 grind [Qeh]
 omega;rw[Y];simp only[qA]at Y;have G:u<w.length:=Wa;have huc:u<c.length:=Wa;have hk0:=T u G huc Wa;have hp:c[u].toNat<w[u].cs.length:=Wa;have hns:=hw.ns _ (QEn G) _ (QEn hp);have hnl:=hw.nl _ (QEn G) _ (QEn hp);have hnr:=hr.nr _ (QEn G) _ (QEn hp);have hbr:=hr.bw _ (QEn G) _ (QEn hp);obtain⟨y,hy⟩:∃y,w[u].cs[c[u].toNat]=y:=⟨_,rfl⟩;rw[hy]at hns hnl hnr hbr;refine Qp (ks3 Z Z Z (Qd λK C=>Qb Z (Zm Z Z (Q7 Z Z (QG (ds0:=[12,11,3,2,0,0]) Z Z Z Z Z (Qb Z (Qt Z Z Z Wa (QH Wa) Z (QG (ds0:=[3,2,0,0]) Z Z Z Z Z (Qb Z (Zm Z Z (Q7 Z Z (QG (ds0:=[5,4,3,2,0,0]) Z Z Z Z Z (Qb Z (Qt Z Z Z Wa (QH Wa) Z (QG (ds0:=[3,2,0,0]) Z Z Z Z Z (Qt Z Z Z Wa (Q5 Wa Wa) Z (QY (ds0:=[0,0]) (cs:=[_,_]) Z Z Z Z Z Z (Zk Z (YR (ds0:=[]) Z Z Z Z Z Z Z Z Z Z (kc4 C Z Z Z Z (Qw (Qd λK C=>Qe Z Z (Qr Z Z Z (QW Z QE (Qb Z (kc7 C Z Z Z Z Z Z Z (Qu (Q8 (ι:=Nat) (λk=>⟨[(0,.ptr [ZQ w,Q0 c,.bool hb,.z7]),(1,.int .i64 l),(5,.int .i64 u),(6,.ref 6 0 0),(45,.sl (y.ns.map λr=>[Tz w r])),(46,.int .i64 y.ns.length),(47,.int .i64 k)],[(6,⟨[[.sl (y.ns.map λr=>[Tz w r]),Tz w y.bs]],2,184,true⟩)]⟩) (λk=>k<=y.ns.length/\(y.ns.take k).all (Qev w c l u)=true) (λk=>y.ns.length - k) 0 ?_ ?_ ?_))))))))))))))))))))))))))));exact QM (l:=[0,1,5,6,45,46,47]) (lH:=[6]) (kp7 Z Z Z Z Z Z Z) (Qa Z Qf) Wc (by rw[<- hy]<;>rfl) Z
 simp;intro k hQ;have hnk:=λ(h:k<y.ns.length)=>hnl _ (QEn h);refine Qd λK C=>ZK Z Z (kc8 C Z Z Z Z Z Z Z Z (Qw (Qs Z (λh3=>?_) (λh3=>?_))));rw[h3];simp only[qA]at h3;refine Qp (ks7 Z Z Z Z Z Z Z (Qw (Qu (Qd λK C=>Qt Z Z Z Wa (QH Wa) Z (Qr Z Z Z (Qb Z (kc8 C Z Z Z Z Z Z Z Z (Qd λK C=>mv2 Z Z (Qb Z (kc C (GI Z Z Z Z Z Z Z Z Z Z) (Qw (Qd λK C=>Qb Z (QW Z QE (Qb Z (kc C (FD Z Z Z Z Z Z Z Z Z Z Z Z) (Qu (Q8 (ι:=Nat × Int × Bool) (λj=>⟨[(0,.ptr [ZQ w,Q0 c,.bool hb,.z7]),(1,.int .i64 l),(5,.int .i64 u),(6,.ref 6 0 0),(9,.int .i64 j.2.1),(10,.bool j.2.2),(45,.sl (y.ns.map λr=>[Tz w r])),(46,.int .i64 y.ns.length),(47,.int .i64 k),(52,Tz w (y.ns[k]'Wa)),(53,.int .i64 (y.ns[k]'Wa).length),(54,.int .i64 j.1)],[(6,⟨[[.sl (y.ns.map λr=>[Tz w r]),Tz w y.bs]],2,184,true⟩)]⟩) (λj=>j.1<=(y.ns[k]'Wa).length/\j.2.1=Cs (u:Int) ((y.ns[k]'Wa).take j.1)/\j.2.2=((y.ns[k]'Wa).take j.1).any (mtL w c l)) (λj=>(y.ns[k]'Wa).length - j.1) (0,(u:Int),false) ?_ ?_ ?_)))))))))))))))));exact QM (l:=[0,1,5,6,9,10,45,46,47,52,53,54]) (lH:=[6]) (FD Z Z Z Z Z Z Z Z Z Z Z Z) (Qa Z Qf) Z Z Z;exact⟨QEu _,rfl,rfl⟩;intro j M;have hnk1:=hnk Wa;refine Qd λK C=>ZK Z Z (kc C (QgO Z Z Z Z Z Z Z Z Z Z Z Z Z) (Qw (Qs Z (λh4=>?_) (λh4=>?_))));rw[h4];simp only[qA]at h4;refine Qp (QK (FD Z Z Z Z Z Z Z Z Z Z Z Z) (Qw (Qu (Qd λK C=>Qt Z Z Z Wa (QH Wa) Z (QB (cs:=[_,_]) Z Z Z Z (Zk Z (Za Z Z Z Z Z Z Z Z (kc C (QgO Z Z Z Z Z Z Z Z Z Z Z Z Z) (Qd λK C=>Qb Z (Qe Z Z (Qr Z Z Z (Qjm Z Z (Qb Z (kc C (QgO Z Z Z Z Z Z Z Z Z Z Z Z Z) (QJ λK C=>mv2 Z Z (Qq (g:=63) Z (λh5=>?_) (λh5=>?_)))))))))))))))));rw[h5];refine gn4 Z Z Z Z (YN Z (Qy Z (Qy Z (Qy Z (YN Z (Qh Z Z (Qb Z (C _ (Qk (QK (FD Z Z Z Z Z Z Z Z Z Z Z Z) (QJ λK C=>Q2 Z Z Wb (Qb Z (C _ (Qj (j.1+1,max j.2.1 ((y.ns[k]'Wa)[j.1]'Wa).u,true) ?_ ?_ ?_))))))))))))));exact QM (l:=[0,1,5,6,9,10,45,46,47,52,53,54]) (lH:=[6]) (FD Z Z Z Z Z Z Z Z Z Z Z Z) (Qa Z Qf) Z Z Z;exact⟨Wa,Qf0 Wa M.2.1,QbX Wa M.2.2 Wc⟩;omega;rw[h5];refine Qc Z (Qe Z Z (Qc Z (Qr Z Z Z (Qc Z (Qb Z (Qc Z (Cr Z Z (Qc Z (Qb Z (Qq (g:=68) Z (λh6=>?_) (λh6=>?_)))))))))));rw[h6];simp only[qA]at h6;refine Qc Z (Qb Z (Qc Z (QB (cs:=[_,_]) Z Z Z Z (Qc Z (QA (Qfw hcl T (hnr _ (QEn (Wa:k<y.ns.length)) _ (QEn (Wa:j.1<(y.ns[k]'Wa).length))) Wa) Z Z (.inr Z) (Qc Z (Qh Z Z (Qh Z Z (Qb Z (C _ (Qk (QK (FD Z Z Z Z Z Z Z Z Z Z Z Z) (QJ λK C=>Q2 Z Z Wb (Qb Z (C _ (Qj (j.1+1,max j.2.1 ((y.ns[k]'Wa)[j.1]'Wa).u,mtP w c ((y.ns[k]'Wa)[j.1]'Wa)) ?_ ?_ ?_))))))))))))))));exact QM (l:=[0,1,5,6,9,10,45,46,47,52,53,54]) (lH:=[6]) (FD Z Z Z Z Z Z Z Z Z Z Z Z) (Qa Z Qf) Z Z Z
 exact⟨Wa,Qf0 Wa M.2.1,QbX Wa M.2.2 (by simp_all [Qg6])⟩;omega;rw[h6];simp only[qA]at h6;refine gn3 Z Z Z (Qc Z (Qh Z Z (Qh Z Z (Qb Z (C _ (Qk (QK (FD Z Z Z Z Z Z Z Z Z Z Z Z) (QJ λK C=>Q2 Z Z Wb (Qb Z (C _ (Qj (j.1+1,max j.2.1 ((y.ns[k]'Wa)[j.1]'Wa).u,false) ?_ ?_ ?_)))))))))));exact QM (l:=[0,1,5,6,9,10,45,46,47,52,53,54]) (lH:=[6]) (FD Z Z Z Z Z Z Z Z Z Z Z Z) (Qa Z Qf) Z Z Z;exact⟨Wa,Qf0 Wa M.2.1,QbX Wa M.2.2 (by simp_all [Qg7])⟩;omega;rw[h4];simp only[qA]at h4;refine Q3 (QF (Qx (QD (ks9 Z Z Z Z Z Z Z Z Z (Qd λK C=>mv2 Z Z (Cr Z Z (Qb Z (Qq (g:=78) Z (λh7=>?_) (λh7=>?_)))))))));rw[h7];simp only[qA]at h7;refine Qc Z (Qb Z (Qc Z (Zp Z (Qh Z Z (kc8 C Z Z Z Z Z Z Z Z (Qs Z (λV=>?_) (λV=>?_)))))));rw[V];simp only[qA]at V;refine Qd λK C=>Qb Z (kc1 C Z (Qv (Qm (Qi (QQ (Qm (Qi (Qm (Qi (QQ (Qm (Qi (Qg Z ?_)))))))))))));exact(Qej G huc hp hy Wa Wa Wa M.2.1 M.2.2 Wa Wa V).symm;rw[V];simp only[qA]at V;refine Qp (Qk (ks7 Z Z Z Z Z Z Z (QJ λK C=>Q2 Z Z Wb (Qb Z (C _ (Qj (k+1) ?_ ?_ ?_))))));exact QM (l:=[0,1,5,6,45,46,47]) (lH:=[6]) (kp7 Z Z Z Z Z Z Z) (Qa Z Qf) Z Z Z;exact⟨Wa,by rw[QbV (r:=y.ns) (j:=k) Wa,hQ.2,QE7];exact QhU M.2.1 M.2.2 Wa Wc⟩
 omega;rw[h7];simp only[qA]at h7;refine gn2 Z Z (Qh Z Z (kc8 C Z Z Z Z Z Z Z Z (Zq Z (Qp (Qk (ks7 Z Z Z Z Z Z Z (QJ λK C=>Q2 Z Z Wb (Qb Z (C _ (Qj (k+1) ?_ ?_ ?_))))))))));exact QM (l:=[0,1,5,6,45,46,47]) (lH:=[6]) (kp7 Z Z Z Z Z Z Z) (Qa Z Qf) Z Z Z;exact⟨Wa,by rw[QbV (r:=y.ns) (j:=k) Wa,hQ.2,QE7];exact QhU M.2.1 M.2.2 Wa Wa⟩
 omega;rw[h3];simp only[qA]at h3;refine Q3 (QF (Qx (QD (ks4 Z Z Z Z (Qd λK C=>Qe Z Z (Qr Z Z Z (QW Z QE (Qb Z (kc6 C Z Z Z Z Z Z (Qu (Q8 (ι:=Nat) (λi=>⟨[(0,.ptr [ZQ w,Q0 c,.bool hb,.z7]),(1,.int .i64 l),(5,.int .i64 u),(84,Tz w y.bs),(85,.int .i64 y.bs.length),(86,.int .i64 i)],[]⟩) (λi=>i<=y.bs.length/\(y.bs.take i).any (mtL w c l)=false) (λi=>y.bs.length - i) 0 ?_ ?_ ?_)))))))))));exact QM (l:=[0,1,5,84,85,86]) (lH:=[]) (kp6 Z Z Z Z Z Z) Qf Z Z Z;simp;intro i hB;refine Qd λK C=>ZK Z Z (kc7 C Z Z Z Z Z Z Z (Qw (Qs Z (λh9=>?_) (λh9=>?_))));rw[h9];simp only[qA]at h9;refine Qp (ks6 Z Z Z Z Z Z (Qw (Qu (Qd λK C=>Qt Z Z Z Wa (QH Wa) Z (QB (cs:=[_,_]) Z Z Z Z (Zk Z (Za Z Z Z Z Z Z Z Z (kc7 C Z Z Z Z Z Z Z (Qd λK C=>Qe Z Z (Qr Z Z Z (Qb Z (Cr Z Z (Qb Z (Qq (g:=94) Z (λO=>?_) (λO=>?_)))))))))))))));rw[O];simp only[qA]at O;refine Qc Z (Qb Z (Qc Z (QB (cs:=[_,_]) Z Z Z Z (Qc Z (QA (Qfw hcl T (hbr _ (QEn (Wa:i<y.bs.length))) Wa) Z Z (.inr Z) (Qh Z Z (kc7 C Z Z Z Z Z Z Z (Qs Z (λU=>?_) (λU=>?_)))))))));rw[U];refine Qd λK C=>Qb Z (kc1 C Z (Qv (Qm (Qi (QQ (Qm (Qm (Qi (QQ (Qm (Qi (Qg Z ?_))))))))))));exact(Qgw (k:=i) G huc hp hy Wa Wa Wa (by grind [Qg6])).symm;rw[U];refine Qp (Qk (ks6 Z Z Z Z Z Z (QJ λK C=>Q2 Z Z Wb (Qb Z (C _ (Qj (i+1) ?_ ?_ ?_))))));exact QM (l:=[0,1,5,84,85,86]) (lH:=[]) (kp6 Z Z Z Z Z Z) Qf Z Z Z;exact⟨Wa,by rw[Fu (r:=y.bs) (j:=i) Wa,hB.2,QEX,Qg6 Wa];omega⟩
 omega;rw[O];simp only[qA]at O;refine gn3 Z Z Z (Qh Z Z (kc7 C Z Z Z Z Z Z Z (Zq Z (Qp (Qk (ks6 Z Z Z Z Z Z (QJ λK C=>Q2 Z Z Wb (Qb Z (C _ (Qj (i+1) ?_ ?_ ?_))))))))));exact QM (l:=[0,1,5,84,85,86]) (lH:=[]) (kp6 Z Z Z Z Z Z) Qf Z Z Z;exact⟨Wa,by rw[Fu (r:=y.bs) (j:=i) Wa,hB.2,QEX,Qg7 Wa]⟩;omega;rw[h9];simp only[qA]at h9;refine Q3 (QF (Qx (QD (Qk (ks3 Z Z Z (QJ λK C=>Qb Z (Q2 Z Z Wb (Qb Z (C _ (Qj (u+1) ?_ ?_ ?_))))))))));exact Zn (kp3 Z Z Z);exact⟨Wa,Qkj G huc hp hy hI.2 (Qjr hQ.2 Wa) (QbW hB.2 Wa)⟩;omega;rw[h1];simp only[qA]at h1;refine Q3 (QF (Qx (QD (QK (QL) (Qd λK C=>Qb Z (kc1 C Z (Qv (Qg Z ?_))))))))
 grind [Qgx]
theorem Jz {w:Ql} (hw:WSm w) (hr:WIn w) {c:List Int} (hcl:c.length=w.length) {hb:Bool} {l:Nat} (hl:l<w.length) (hc0:0<=c[l]'Wa) (hck:(c[l]'Wa)<(w[l]'Wa).cs.length):Ok Tryz.prog 107 [.ptr [ZQ w,Q0 c,.bool hb,.z7],.int .i64 l] (.bool (Pw w c l)):=by
 refine Ok.n7 tfol Tryz.func107 Qx4 (QEi Z) ?_;show TW _ _ tf107.body _ _;have hwl:=hw.len;refine Qd λK C=>Qb Z (kc2 C Z Z (Qw (Qd λK C=>Qb Z (Zm Z Z (Q7 Z Z (Qr Z Z Z (QW Z QE (Qb Z (kc5 C Z Z Z Z Z (Qu (Q8 (ι:=Nat) (λu=>⟨[(0,.ptr [ZQ w,Q0 c,.bool hb,.z7]),(1,.int .i64 l),(16,ZQ w),(17,.int .i64 w.length),(18,.int .i64 u)],[]⟩) (λu=>u<=w.length/\(List.range u).any (Ck w c l)=false) (λu=>w.length - u) 0 ?_ ?_ ?_)))))))))));exact Zn (kp5 Z Z Z Z Z);simp;intro u hI;have hcu:=λ(h:u<w.length)=>hw.cs _ (QEn h);refine Qd λK C=>ZK Z Z (kc6 C Z Z Z Z Z Z (Qw (Qs Z (λY=>?_) (λY=>?_))));rw[Y];simp only[qA]at Y;refine Qp (ks5 Z Z Z Z Z (Qw (Qu (Qd λK C=>Qb Z (Qt Z Z Z Wa (QH Wa) Z (Qr Z Z Z (mv2 Z Z (kc7 C Z Z Z Z Z Z Z (Qd λK C=>Qb Z (QW Z QE (Qb Z (kc9 C Z Z Z Z Z Z Z Z Z (Qu (Q8 (ι:=Nat) (λk=>⟨[(0,.ptr [ZQ w,Q0 c,.bool hb,.z7]),(1,.int .i64 l),(5,.int .i64 u),(16,ZQ w),(17,.int .i64 w.length),(18,.int .i64 u),(23,Hk w (w[u]'Wa)),(24,.int .i64 (w[u]'Wa).cs.length),(25,.int .i64 k)],[]⟩) (λk=>k<=(w[u]'Wa).cs.length/\(List.range k).any (Pv w c l u)=false) (λk=>(w[u]'Wa).cs.length - k) 0 ?_ ?_ ?_))))))))))))));exact QM (l:=[0,1,5,16,17,18,23,24,25]) (lH:=[]) (kp9 Z Z Z Z Z Z Z Z Z) Qf Z Z Z;simp;intro k hQ;have hcu1:=hcu Wa;have hns:=λ(h:k<(w[u]'Wa).cs.length)=>hw.ns _ (QEn (Wa:u<w.length)) _ (QEn h);have hnl:=λ(h:k<(w[u]'Wa).cs.length)=>hw.nl _ (QEn (Wa:u<w.length)) _ (QEn h);refine Qd λK C=>ZK Z Z (kc C (GI Z Z Z Z Z Z Z Z Z Z) (Qw (Qs Z (λV=>?_) (λV=>?_))));rw[V];simp only[qA]at V;refine Qp (ks9 Z Z Z Z Z Z Z Z Z (Qw (Qu (Qd λK C=>Qb Z (Qt Z Z Z Wa (QH Wa) Z (QB (cs:=[_,_]) Z Z Z Z (Zk Z (Qb Z (Za Z Z Z Z Z Z Z Z (kc C (HA Z Z Z Z Z Z Z Z Z Z Z) (HD (ι:=Unit) (λ_=>⟨[(0,.ptr [ZQ w,Q0 c,.bool hb,.z7]),(1,.int .i64 l),(5,.int .i64 u),(8,.ref 8 0 0),(16,ZQ w),(17,.int .i64 w.length),(18,.int .i64 u),(23,Hk w (w[u]'Wa)),(24,.int .i64 (w[u]'Wa).cs.length),(25,.int .i64 k)],[(8,⟨[[.sl ((((w[u]'Wa).cs[k]'Wa).ns).map λr=>[Tz w r]),Tz w ((w[u]'Wa).cs[k]'Wa).bs]],2,184,true⟩)]⟩) (λ_=>(l<u\/cA c u=(k:Int))) ?_ ?_)))))))))))
 skip
 refine Qd λK C=>mv2 Z Z (Cr Z Z (Qb Z (Qq (g:=33) Z (λU=>?_) (λU=>?_))));rw[U];simp only[qA]at U;refine Qc Z (Qb Z (Qc Z (Zm Z Z (Qc Z (Q7 Z Z (Qc Z (Qr Z Z Z (Qc Z (Qb Z (Qc Z (Qt Z Z Z Wa (QH Wa) Z (Qc Z (Qr Z Z Z (Qc Z (Qb Z (Qc Z (Ys Z Z (Qh Z Z (kc C (HA Z Z Z Z Z Z Z Z Z Z Z) (Qs Z (λT=>?_) (λT=>?_)))))))))))))))))))));rw[T];simp only[qA]at T;refine Q3 (G5 (QD (ks9 Z Z Z Z Z Z Z Z Z (QJ λK C=>Q2 Z Z Wb (Qb Z (C _ (Qj (k+1) ?_ ?_ ?_)))))));exact QM (l:=[0,1,5,16,17,18,23,24,25]) (lH:=[]) (kp9 Z Z Z Z Z Z Z Z Z) Qf Z Z Z
 grind [QeL,Ym]
 omega;rw[T];simp only[qA]at T;refine Qp (Zl () ?_ ?_);exact QM (l:=[0,1,5,8,16,17,18,23,24,25]) (lH:=[8]) (GI Z Z Z Z Z Z Z Z Z Z) (Qa Z Qf) Z Z Z
 grind [Ym]
 rw[U];simp only[qA]at U;refine gn4 Z Z Z Z (gn4 Z Z Z Z (YN Z (Qh Z Z (kc C (HA Z Z Z Z Z Z Z Z Z Z Z) (Zq Z (Qp (Zl () ?_ ?_)))))));exact QM (l:=[0,1,5,8,16,17,18,23,24,25]) (lH:=[8]) (GI Z Z Z Z Z Z Z Z Z Z) (Qa Z Qf) Z Z Z;omega;intro _ hJ;refine Qd λK C=>Qe Z Z (Qr Z Z Z (QW Z QE (Qb Z (kc C (FD Z Z Z Z Z Z Z Z Z Z Z Z) (Qu ?_)))));have hns1:=hns Wa;refine Q8 (ι:=Nat) (λa=>⟨[(0,.ptr [ZQ w,Q0 c,.bool hb,.z7]),(1,.int .i64 l),(5,.int .i64 u),(16,ZQ w),(17,.int .i64 w.length),(18,.int .i64 u),(23,Hk w (w[u]'Wa)),(24,.int .i64 (w[u]'Wa).cs.length),(25,.int .i64 k),(45,.sl ((((w[u]'Wa).cs[k]'Wa).ns).map λr=>[Tz w r])),(46,.int .i64 (((w[u]'Wa).cs[k]'Wa).ns).length),(47,.int .i64 a)],[]⟩) (λa=>a<=(((w[u]'Wa).cs[k]'Wa).ns).length/\((((w[u]'Wa).cs[k]'Wa).ns).take a).any (λr=>r.any (isW w c l))=false) (λa=>(((w[u]'Wa).cs[k]'Wa).ns).length - a) 0 ?_ ?_ ?_;exact QM (l:=[0,1,5,16,17,18,23,24,25,45,46,47]) (lH:=[]) (FD Z Z Z Z Z Z Z Z Z Z Z Z) Qf Z Z Z;simp;intro a hA;have hra:=λ(h:a<(((w[u]'Wa).cs[k]'Wa).ns).length)=>hnl Wa _ (QEn h);refine Qd λK C=>ZK Z Z (kc C (QgO Z Z Z Z Z Z Z Z Z Z Z Z Z) (Qw (Qs Z (λO=>?_) (λO=>?_))));rw[O];simp only[qA]at O;refine Qp (QK (FD Z Z Z Z Z Z Z Z Z Z Z Z) (Qw (Qu (Qd λK C=>Qt Z Z Z Wa (QH Wa) Z (Qr Z Z Z (Qb Z (kc C (QgO Z Z Z Z Z Z Z Z Z Z Z Z Z) (Qd λK C=>Qb Z (QW Z QE (Qb Z (kc C (Qav Z Z Z Z Z Z Z Z Z Z Z Z Z Z Z) (Qu ?_))))))))))));have hra1:=hra Wa;refine Q8 (ι:=Nat) (λb=>⟨[(0,.ptr [ZQ w,Q0 c,.bool hb,.z7]),(1,.int .i64 l),(5,.int .i64 u),(16,ZQ w),(17,.int .i64 w.length),(18,.int .i64 u),(23,Hk w (w[u]'Wa)),(24,.int .i64 (w[u]'Wa).cs.length),(25,.int .i64 k),(45,.sl ((((w[u]'Wa).cs[k]'Wa).ns).map λr=>[Tz w r])),(46,.int .i64 (((w[u]'Wa).cs[k]'Wa).ns).length),(47,.int .i64 a),(51,Tz w ((((w[u]'Wa).cs[k]'Wa).ns)[a]'Wa)),(52,.int .i64 ((((w[u]'Wa).cs[k]'Wa).ns)[a]'Wa).length),(53,.int .i64 b)],[]⟩) (λb=>b<=((((w[u]'Wa).cs[k]'Wa).ns)[a]'Wa).length/\(((((w[u]'Wa).cs[k]'Wa).ns)[a]'Wa).take b).any (isW w c l)=false) (λb=>((((w[u]'Wa).cs[k]'Wa).ns)[a]'Wa).length - b) 0 ?_ ?_ ?_;exact QM (l:=[0,1,5,16,17,18,23,24,25,45,46,47,51,52,53]) (lH:=[]) (Qav Z Z Z Z Z Z Z Z Z Z Z Z Z Z Z) Qf Z Z Z;simp;intro b hB;refine Qd λK C=>ZK Z Z (kc C (Ql9 Z Z Z Z Z Z Z Z Z Z Z Z Z Z Z Z) (Qw (Qs Z (λM=>?_) (λM=>?_))));rw[M];simp only[qA]at M;refine Qp (QK (Qav Z Z Z Z Z Z Z Z Z Z Z Z Z Z Z) (Qw (Qu (Qd λK C=>Qt Z Z Z Wa (QH Wa) Z (QB (cs:=[_,_]) Z Z Z Z (Zk Z (Za Z Z Z Z Z Z Z Z (kc C (Ql9 Z Z Z Z Z Z Z Z Z Z Z Z Z Z Z Z) (Qd λK C=>Qe Z Z (QG (ds0:=dn 14) Z Z Z Z Z (Qb Z (Yp Z Z (Qb Z (Qq (g:=61) Z (λG=>?_) (λG=>?_)))))))))))))));rw[G]
 simp only[qA]at G;refine Qc Z (Qe Z Z (Qc Z (QG (ds0:=[2,1,0]) Z Z Z Z Z (Qc Z (Qb Z (Qc Z (Zm Z Z (Qc Z (Q7 Z Z (Qc Z (QG (ds0:=dn 5) Z Z Z Z Z (Qc Z (Qb Z (Qc Z (Qt Z Z Z Wa (QH Wa) Z (Qc Z (QG (ds0:=[2,1,0]) Z Z Z Z Z (Qc Z (Qt Z Z Z Wa (Q5 Wa (by grind [Qw4])) Z (Qc Z (QG (ds0:=[0]) Z Z Z Z Z (Qh Z Z (kc C (Ql9 Z Z Z Z Z Z Z Z Z Z Z Z Z Z Z Z) ?_)))))))))))))))))))))));refine Qs Z (λh8=>?_) (λh8=>?_);rw[h8];refine Qd λK C=>Qb Z (kc1 C Z (Qv (Qm (Qi (QQ (Qm (Qm (Qi (QQ (Qm (Qm (Qi (QQ (Qm (Qm (Qi (QQ (Qm (Qi (Qg Z ?_))))))))))))))))))));exact(Qlv (u:=u) (k:=k) (a:=a) (b:=b) Wa Wa hJ Wa Z Wa (((QgH Wa G Wc)).symm.trans h8)).symm;rw[h8];refine Qp (Qk (QK (Qav Z Z Z Z Z Z Z Z Z Z Z Z Z Z Z) (QJ λK C=>Q2 Z Z Wb (Qb Z (C _ (Qj (b+1) ?_ ?_ ?_))))));exact QM (l:=[0,1,5,16,17,18,23,24,25,45,46,47,51,52,53]) (lH:=[]) (Qav Z Z Z Z Z Z Z Z Z Z Z Z Z Z Z) Qf Z Z Z;exact⟨Wa,by rw[Fu (r:=((((w[u]'Wa).cs[k]'Wa).ns)[a]'Wa)) (j:=b) Wa,hB.2,QEX];grind [QgH]⟩
 omega;rw[G];simp only[qA]at G;refine gn4 Z Z Z Z (gn4 Z Z Z Z (gn3 Z Z Z (Qh Z Z (kc C (Ql9 Z Z Z Z Z Z Z Z Z Z Z Z Z Z Z Z) (Zq Z (Qp (Qk (QK (Qav Z Z Z Z Z Z Z Z Z Z Z Z Z Z Z) (QJ λK C=>Q2 Z Z Wb (Qb Z (C _ (Qj (b+1) ?_ ?_ ?_))))))))))));exact QM (l:=[0,1,5,16,17,18,23,24,25,45,46,47,51,52,53]) (lH:=[]) (Qav Z Z Z Z Z Z Z Z Z Z Z Z Z Z Z) Qf Z Z Z;exact⟨Wa,by rw[Fu (r:=((((w[u]'Wa).cs[k]'Wa).ns)[a]'Wa)) (j:=b) Wa,hB.2,QEX];exact Qs5 G⟩
 omega;rw[M];simp only[qA]at M;refine Q3 (QF (Qx (QD (Qk (QK (FD Z Z Z Z Z Z Z Z Z Z Z Z) (QJ λK C=>Q2 Z Z Wb (Qb Z (C _ (Qj (a+1) ?_ ?_ ?_)))))))));exact QM (l:=[0,1,5,16,17,18,23,24,25,45,46,47]) (lH:=[]) (FD Z Z Z Z Z Z Z Z Z Z Z Z) Qf Z Z Z;exact⟨Wa,by rw[Fu (r:=(((w[u]'Wa).cs[k]'Wa).ns)) (j:=a) Wa,hA.2,QEX];grind⟩
 omega;rw[O];simp only[qA]at O;refine Q3 (QF (Qx (QD (Qk (ks9 Z Z Z Z Z Z Z Z Z (QJ λK C=>Q2 Z Z Wb (Qb Z (C _ (Qj (k+1) ?_ ?_ ?_)))))))));exact QM (l:=[0,1,5,16,17,18,23,24,25]) (lH:=[]) (kp9 Z Z Z Z Z Z Z Z Z) Qf Z Z Z;exact⟨Wa,Qls Wa Wa hQ.2 (QbW hA.2 Wa)⟩;omega;rw[V];simp only[qA]at V;refine Q3 (QF (Qx (QD (Qk (ks5 Z Z Z Z Z (QJ λK C=>Q2 Z Z Wb (Qb Z (C _ (Qj (u+1) ?_ ?_ ?_)))))))));exact Zn (kp5 Z Z Z Z Z)
 grind [Qlt]
 omega;rw[Y];simp only[qA]at Y;refine Q3 (QF (Qx (QD (QK (QL) (Qd λK C=>Qb Z (kc1 C Z (Qv (Qg Z ?_))))))))
 grind [Qlu]
end Go.Proofs
namespace Go.Abs
open Go
section
variable {P:Program} {fr:QEg} {H:QEf} {r:List u3} {K:St->Prop} {t t0:Nat} {rows:List (List D)}
theorem Qjk {dr:Dr} {x:y5} {rs:List (List D)} (hx:St.ev ⟨fr,H⟩ x=some (.sl rs)) (C:rs≠[]) (k:run P dr r K ⟨(t,.bool false)::fr,H⟩):
  run P dr (⟨some t,.un .plus x,none⟩::r) K ⟨fr,H⟩:=Zd rfl rfl ⟨_,hx,C,k⟩
end
end Go.Abs
namespace Go.Proofs
open Go Go.Abs M3 M25
variable {c:List Int} {hb:Bool} {w:Ql}
theorem Qnx {x:Zj} (C:z6 w c) (hx:0<=x.u/\x.u<w.length):Ok Tryz.prog 151 [.ptr [ZQ w,Q0 c,.bool hb,.z7],.agg (dWk w x)] (.bool (mtP w c x)):=by
 have G:=C.len;have M:x.u.toNat<c.length:=Wa;refine Xe M hx.1 λh0=>?_
 (repeat clear hK K);simp_all [Dh,HK]
theorem Qr9 {k e t:Nat} {p:Bool} {r C:List (List D)} {X:QEf} (h:r=C):(k,(⟨r,e,t,p⟩:x4))::X=(k,⟨C,e,t,p⟩)::X:=by rw[h]
theorem Qj4 {n:Nat}:(List.replicate ((n:Nat):Int).toNat [D.bool false]).set 0 [.bool true]=((List.replicate n false).set 0 true).map rB:=by rw[Qdj,QdB]
theorem td_up {u:Nat} (h:∀j (h:j<c.length),j<u->0<=c[j]->nddB w c j=true) (hu:u<c.length) (M:0<=c[u]->nddB w c u=true):∀j (h:j<c.length),j<u+1->0<=c[j]->nddB w c j=true:=λj G C h0=>by
 grind
theorem Ka (hw:WSm w) (hr:WIn w) (M:z6 w c) (h0:0<w.length) (hc0:0<=cA c 0):Ok Tryz.prog 104 [.ptr [ZQ w,Q0 c,.bool hb,.z7]] (.bool (tidyB w c)):=by
 refine Ok.n7 tfol Tryz.func104 Qx1 (QEi Z) ?_;show TW _ _ tf104.body _ _;have hwl:=hw.len;have hcl:=M.len;refine Qd λK C=>Qb Z (kc1 C Z (Qd λK C=>Qb Z (Zm Z Z (Q7 Z Z (Qr Z Z Z (QW Z QE (RF Z Z Z Wa Wa Wa (Qb Z (kc2 C Z Z (Qd λK C=>QZ Z Z (Qb Z (kc3 C Z Z Z (Qd λK C=>Qb Z (ZE Z Z Z Wd Wa Wa Z (Za Z Z (QhP Wa Wa) Z Z Z Z Z (kc3 C Z Z Z (Qw (Qd λK C=>Qb Z (kc4 C Z Z Z Z (Qu (Q8 (ι:=Nat × List Bool × List Int) (λi=>⟨[(0,.ptr [ZQ w,Q0 c,.bool hb,.z7]),(3,.u4 18 (i.2.1).length),(4,.u4 19 (i.2.2).length),(5,.int .i64 i.1)],[(18,⟨(i.2.1).map rB,1,4,true⟩),(19,⟨(i.2.2).map rI,1,3,true⟩)]⟩) (λi=>i.1<=i.2.2.length/\BQ w c i.2.1 i.2.2 i.1) (λi=>c.length - i.1) (0,(List.replicate c.length false).set 0 true,[0]) ?_ ?_ ?_)))))))))))))))))))));exact QM (l:=[0,3,4,5]) (lH:=[18,19]) (kp4 Z Z Z Z) (Qa Z (Qa Z Qf)) Wd (Qr9 Qj4) Z;exact⟨QEu _,BQ.first Wa hc0⟩;intro i hI;have hql:=hI.2.zg;refine Qw (Qd λK C=>mv2 Z Z (QW Z Z (ZK Z Z (kc5 C Z Z Z Z Z (Qs Z (λh1=>?_) (λh1=>?_))))));rw[h1];simp only[qA]at h1;have hi1:i.1<i.2.2.length:=Wa;obtain⟨hu0,huc,hun⟩:=hI.2.at hi1;obtain⟨hucl,V⟩:=Dx hw hr M Wa hun;have hb1:=HK M huc;have G:(i.2.2[i.1]'Wa).toNat<w.length:=Wa;have hp:=Na hb1.2 V;have er:=Fp G huc hp;have hns:=(hw.ns _ (QEn G) _ (QEn hp)).1;have hnl:=hw.nl _ (QEn G) _ (QEn hp);have Y:=hr.nr _ (QEn G) _ (QEn hp);obtain⟨y,hy⟩:∃y,(w[(i.2.2[i.1]'Wa).toNat]'G).cs[(c[(i.2.2[i.1]'Wa).toNat]'huc).toNat]'hp=y:=⟨_,rfl⟩;rw[hy]at er hns hnl Y;refine Qp (ks4 Z Z Z Z (Qw (Qu (Qd λK C=>mv2 Z Z (ZE Z Z Z Wd Wa Wa Z (Qr Z (Xd Z (QH Wa)) Z (Qb Z (kc5 C Z Z Z Z Z (Qd λK C=>Qb Z (Zm Z Z (Q7 Z Z (QG (ds0:=[13,12,4,3,2,1]) Z Z Z Z Z (Qb Z (Qt Z Z Z Wa (Q5 Wa Wa) Z (QG (ds0:=[4,3,2,1]) Z Z Z Z Z (Qb Z (Zm Z Z (Q7 Z Z (QG (ds0:=[6,5,4,3,2,1]) Z Z Z Z Z (Qb Z (Qt Z Z Z Wa (Q5 Wa Wa) Z (QG (ds0:=[4,3,2,1]) Z Z Z Z Z (Qt Z Z Z Wa (Q5 Wa Wa) Z (Q7 Z Z (QG (ds0:=[1]) Z Z Z Z Z (QW Z QE (Qb Z (kc7 C Z Z Z Z Z Z Z (Qu (Q8 (ι:=Nat × List Bool × List Int) (λk=>⟨[(0,.ptr [ZQ w,Q0 c,.bool hb,.z7]),(3,.u4 18 (k.2.1).length),(4,.u4 19 (k.2.2).length),(5,.int .i64 i.1),(48,.sl (y.ns.map λr=>[Tz w r])),(49,.int .i64 y.ns.length),(50,.int .i64 k.1)],[(18,⟨(k.2.1).map rB,1,4,true⟩),(19,⟨(k.2.2).map rI,1,3,true⟩)]⟩) (λk=>k.1<=y.ns.length/\vf w c k.2.1 k.2.2 i.1 (i.2.2[i.1]'Wa) y.ns k.1) (λk=>y.ns.length - k.1) (0,i.2) ?_ ?_ ?_))))))))))))))))))))))))))))));exact QM (l:=[0,3,4,5,48,49,50]) (lH:=[18,19]) (kp7 Z Z Z Z Z Z Z) (Qa Z (Qa Z Qf)) Wc Z Z;exact⟨QEu _,hI.2.start hi1 _⟩;intro k hQ;have hnk:=λ(h:k.1<y.ns.length)=>hnl _ (QEn h);refine Qd λK C=>ZK Z Z (kc8 C Z Z Z Z Z Z Z Z ?_)
 refine Qw (Qs Z (λh2=>?_) (λh2=>?_));rw[h2];simp only[qA]at h2;refine Qp (ks7 Z Z Z Z Z Z Z (Qw (Qu (Qd λK C=>Qt Z Z Z Wa (QH Wa) Z (Qr Z Z Z (Qb Z (kc8 C Z Z Z Z Z Z Z Z (Qd λK C=>Qb Z (QW Z QE (Qb Z (kc C (GI Z Z Z Z Z Z Z Z Z Z) (Qu ?_))))))))))));have hnk1:=hnk Wa;refine Q8 (ι:=Nat × List Bool × List Int) (λj=>⟨[(0,.ptr [ZQ w,Q0 c,.bool hb,.z7]),(3,.u4 18 (j.2.1).length),(4,.u4 19 (j.2.2).length),(5,.int .i64 i.1),(48,.sl (y.ns.map λr=>[Tz w r])),(49,.int .i64 y.ns.length),(50,.int .i64 k.1),(54,Tz w (y.ns[k.1]'Wa)),(55,.int .i64 (y.ns[k.1]'Wa).length),(56,.int .i64 j.1)],[(18,⟨(j.2.1).map rB,1,4,true⟩),(19,⟨(j.2.2).map rI,1,3,true⟩)]⟩) (λj=>j.1<=(y.ns[k.1]'Wa).length/\vf w c j.2.1 j.2.2 i.1 (i.2.2[i.1]'Wa) y.ns k.1/\a9 w c j.2.1 (y.ns[k.1]'Wa) j.1) (λj=>(y.ns[k.1]'Wa).length - j.1) (0,k.2) ?_ ?_ ?_;exact QM (l:=[0,3,4,5,48,49,50,54,55,56]) (lH:=[18,19]) (GI Z Z Z Z Z Z Z Z Z Z) (Qa Z (Qa Z Qf)) Z Z Z;exact⟨QEu _,hQ.2,λ_ _ h=>absurd h (QFY _)⟩;intro j O;have hol:=O.2.1.b.len;have hqj:=O.2.1.b.zg;refine Qd λK C=>ZK Z Z (kc C (HA Z Z Z Z Z Z Z Z Z Z Z) (Qw (Qs Z (λh3=>?_) (λh3=>?_))));rw[h3];simp only[qA]at h3;have U:=Y _ (QEn (Wa:k.1<y.ns.length)) _ (QEn (Wa:j.1<(y.ns[k.1]'Wa).length));refine Qp (QK (GI Z Z Z Z Z Z Z Z Z Z) (Qw (Qu (Qd λK C=>Qt Z Z Z Wa (QH Wa) Z (QB (cs:=[_,_]) Z Z Z Z (Zk Z (Za Z Z Z Z Z Z Z Z (kc C (HA Z Z Z Z Z Z Z Z Z Z Z) (Qd λK C=>Qb Z (Qe Z Z (Qr Z Z Z (ZE Z Z Z Wd Wa Wa Z (Qr Z (Xd Z (Q5 Wa Wa)) Z (Zp Z (Qb Z (Qq (g:=66) Z (λT=>?_) (λT=>?_)))))))))))))))));rw[T];simp only[qA]at T;refine Qc Z (Qb Z (Qc Z (QB (cs:=[_,_]) Z Z Z Z (Qc Z (QA (Qnx M U) Z Z (.inr Z) (Qh Z Z (kc C (FD Z Z Z Z Z Z Z Z Z Z Z Z) (Qs Z (λh5=>?_) (λh5=>?_)))))))));rw[h5];refine Qd λK C=>Qb Z (Qe Z Z (Qr Z Z Z (ZE Z Z Z Wd Wa Wa Z (Za Z Z (Q5 Wa Wa) Z Z Z Z Z (kc C (HA Z Z Z Z Z Z Z Z Z Z Z) (QJ λK C=>Qb Z (Qe Z Z (Qr Z Z Z (QZ Z Z (Yl Z Z (λ_ h=>YZ Z Z Z h) Z Wd Z Z Z Wc Wc (Qb Z (C _ (Qk (QK (GI Z Z Z Z Z Z Z Z Z Z) (QJ λK C=>Q2 Z Z Wb (Qb Z (C _ (Qj (j.1+1,j.2.1.set ((y.ns[k.1]'Wa)[j.1]'Wa).u.toNat true,j.2.2++[((y.ns[k.1]'Wa)[j.1]'Wa).u]) ?_ ?_ ?_))))))))))))))))));exact QM (l:=[0,3,4,5,48,49,50,54,55,56]) (lH:=[18,19]) (GI Z Z Z Z Z Z Z Z Z Z) (Qa Z (Qa Z Qf)) (by simp only[QEY,QFU]<;>rfl) (by rw[QFm,<- QdB]<;>rfl) Z
 exact⟨Wa,O.2.1.put Wa er O.2.2 Wa U.1 Wa T (by grind [Fi])⟩;omega;rw[h5];refine Qp (Qk (QK (GI Z Z Z Z Z Z Z Z Z Z) (QJ λK C=>Q2 Z Z Wb (Qb Z (C _ (Qj (j.1+1,j.2) ?_ ?_ ?_))))));exact QM (l:=[0,3,4,5,48,49,50,54,55,56]) (lH:=[18,19]) (GI Z Z Z Z Z Z Z Z Z Z) (Qa Z (Qa Z Qf)) Z Z Z;exact⟨Wa,O.2.1,O.2.2.skip Wa (λh=>by grind [Fi])⟩;omega;rw[T];simp only[qA]at T;refine gn3 Z Z Z (Qh Z Z (kc C (FD Z Z Z Z Z Z Z Z Z Z Z Z) (Zq Z (Qp (Qk (QK (GI Z Z Z Z Z Z Z Z Z Z) (QJ λK C=>Q2 Z Z Wb (Qb Z (C _ (Qj (j.1+1,j.2) ?_ ?_ ?_))))))))));exact QM (l:=[0,3,4,5,48,49,50,54,55,56]) (lH:=[18,19]) (GI Z Z Z Z Z Z Z Z Z Z) (Qa Z (Qa Z Qf)) Z Z Z;exact⟨Wa,O.2.1,O.2.2.skip Wa (λ_=>by grind [Nj])⟩;omega;rw[h3];simp only[qA]at h3;refine Q3 (QF (Qx (QD (Qk (ks7 Z Z Z Z Z Z Z (QJ λK C=>Q2 Z Z Wb (Qb Z (C _ (Qj (k.1+1,j.2) ?_ ?_ ?_)))))))));exact QM (l:=[0,3,4,5,48,49,50]) (lH:=[18,19]) (kp7 Z Z Z Z Z Z Z) (Qa Z (Qa Z Qf)) Z Z Z
 ·exact⟨Wa,O.2.1.next Wa O.2.2 Wa⟩
 omega;rw[h2];simp only[qA]at h2;refine Q3 (QF (Qx (QD (Qk (ks4 Z Z Z Z (QJ λK C=>Qb Z (Q2 Z Z Wb (Qb Z (C _ (Qj (i.1+1,k.2) ?_ ?_ ?_))))))))));exact QM (l:=[0,3,4,5]) (lH:=[18,19]) (kp4 Z Z Z Z) (Qa Z (Qa Z Qf)) Z Z Z;exact⟨(show i.1+1<=k.2.2.length from hQ.2.hi),hQ.2.stop Wa er⟩;omega;rw[h1];simp only[qA]at h1;refine Q3 (QF (Qx (QD (ks2 Z Z (Qw (Qd λK C=>Qb Z (Zm Z Z (Q7 Z Z (Qr Z Z Z (QW Z QE (Qb Z (kc4 C Z Z Z Z (Qu ?_)))))))))))));have ho:=hI.2.stop Wa;have hol:=hI.2.len;refine Q8 (ι:=Nat) (λu=>⟨[(3,.u4 18 (i.2.1).length),(85,Q0 c),(86,.int .i64 c.length),(87,.int .i64 u)],[(18,⟨(i.2.1).map rB,1,4,true⟩)]⟩) (λu=>u<=c.length/\(∀j (h:j<c.length),j<u->0<=c[j]->nddB w c j=true)) (λu=>c.length - u) 0 ?_ ?_ ?_;exact QM (l:=[3,85,86,87]) (lH:=[18]) (kp4 Z Z Z Z) (Qa Z Qf) Z Z Z;simp;intro u hU;refine Qd λK C=>ZK Z Z (kc5 C Z Z Z Z Z (Qw (Qs Z (λh6=>?_) (λh6=>?_))));rw[h6];simp only[qA]at h6;refine Qp (ks4 Z Z Z Z (Qw (Qu (Qd λK C=>Qb Z (Qt Z Z Z Wa (QH Wa) Z (Qr Z Z Z (mv2 Z Z (kc6 C Z Z Z Z Z Z (Qd λK C=>Qb Z (Gw Z Z (Qb Z (Qq (g:=94) Z (λh7=>?_) (λh7=>?_)))))))))))));rw[h7];simp only[qA]at h7;refine Qc Z (Qb Z (Qc Z (Qb Z (Qc Z (ZE Z Z Z Wd Wa Wa Z (Qc Z (Qr Z (Xd Z (QH Wa)) Z (Qc Z (Zp Z (Qh Z Z (kc5 C Z Z Z Z Z (Qs Z (λh8=>?_) (λh8=>?_)))))))))))));rw[h8];simp only[qA]at h8;refine Qd λK C=>Qb Z (kc1 C Z (Qv (Qm (Qi (QQ (Qm (Qi (Qg Z ?_))))))));exact(Qq1 (j:=u) Wa Wa (by grind [Qmm])).symm;rw[h8];simp only[qA]at h8;refine Qp (Qk (ks4 Z Z Z Z (QJ λK C=>Q2 Z Z Wb (Qb Z (C _ (Qj (u+1) ?_ ?_ ?_))))));exact QM (l:=[3,85,86,87]) (lH:=[18]) (kp4 Z Z Z Z) (Qa Z Qf) Z Z Z
 grind [Qmm]
 omega;rw[h7];simp only[qA]at h7;refine gn4 Z Z Z Z (YN Z (Qh Z Z (kc5 C Z Z Z Z Z (Zq Z (Qp (Qk (ks4 Z Z Z Z (QJ λK C=>Q2 Z Z Wb (Qb Z (C _ (Qj (u+1) ?_ ?_ ?_)))))))))));exact QM (l:=[3,85,86,87]) (lH:=[18]) (kp4 Z Z Z Z) (Qa Z Qf) Z Z Z
 grind
 omega;rw[h6];simp only[qA]at h6;refine Q3 (QF (Qx (QD (QK (QL) (Qd λK C=>Qb Z (kc1 C Z (Qv (Qg Z ?_))))))));exact(Qlg (λj h=>(HK M h).1) (λj h=>hU.2 j h Wa)).symm
variable {cur:List Int} {most:Int} {rows:List (List Int)}
abbrev bA1 (rows:List (List Int)):x4:=⟨rows.map rL,1,22,true⟩
abbrev bA2 (rows:List (List Int)):x4:=⟨[[.u4 500001 rows.length]],1,61,false⟩
theorem Qfx (h:most<=rows.length):
  o7 Tryz.prog 75 [Q0 c,.ref 2000006 0 0,.ptr [.int .i64 most]] (HW 2000006 2500003 2500000 w cur hb 75 [.ptr [.int .i64 most]] (bA1 rows) (bA2 rows)) (.bool false) (HW 2000006 2500003 2500000 w cur hb 75 [.ptr [.int .i64 most]] (bA1 rows) (bA2 rows)):=by
 refine o7.n7 tfol Tryz.func75 QzU (QEi rfl) (λk _ h=>h) (λk b h=>?_) ?_
 ·simp only[Qz]at h
  (repeat' split at h)<;>first |grind [x4.ids] |(cases h;subst_vars;refine⟨Wa,λj G=>?_⟩;simp[x4.ids,D.y4,ZQ]at G;first |(subst G;rfl) |(rcases G with rfl |rfl<;>rfl)) |cases h
 show TW _ _ tf75.body _ _;refine Qd λK C=>?_;refine Qb rfl (C _ _ (Zt (Qo rfl (Qo rfl (Qo rfl QL))) ?_));clear C K;refine Qw (Qd λK C=>?_);refine Qr rfl rfl rfl (QW rfl rfl (Qr rfl rfl rfl (Gw rfl rfl (C _ _ (Zt (Qo rfl (Qo rfl (Qo rfl QL))) ?_)))));clear C K;refine Qs rfl (λ_=>?_) (λM=>absurd h Wc);refine Qd λK C=>?_;refine Qb rfl (C _ _ (Zt (Qo rfl QL) ?_));clear C K;refine Qv (Qi ?_);exact Yz rfl rfl λk b h=>h
theorem QdY (h:¬most<=rows.length) (M:rows.length<=1048576):
  o7 Tryz.prog 75 [Q0 c,.ref 2000006 0 0,.ptr [.int .i64 most]] (HW 2000006 2500003 2500000 w cur hb 75 [.ptr [.int .i64 most]] (bA1 rows) (bA2 rows)) (.bool true) (HW 2000006 2500003 2500000 w cur hb 75 [.ptr [.int .i64 most]] (bA1 (rows++[c])) (bA2 (rows++[c]))):=by
 refine o7.n7 tfol Tryz.func75 QzU (QEi rfl) (λk hk h=>?_) (λk b h=>?_) ?_
 grind [lk]
 ·simp only[Qz]at h
  (repeat' split at h)<;>first |grind [x4.ids] |(cases h;subst_vars;refine⟨Wa,λj G=>?_⟩;simp[x4.ids,D.y4,ZQ]at G;first |(subst G;rfl) |(rcases G with rfl |rfl<;>rfl)) |cases h
 show TW _ _ tf75.body _ _;refine Qd λK C=>?_;refine Qb rfl (C _ _ (Zt (Qo rfl (Qo rfl (Qo rfl QL))) ?_));clear C K;refine Qw (Qd λK C=>?_);refine Qr rfl rfl rfl (QW rfl rfl (Qr rfl rfl rfl (Gw rfl rfl (C _ _ (Zt (Qo rfl (Qo rfl (Qo rfl QL))) ?_)))));clear C K;refine Qs rfl (λO=>absurd Wc h) (λ_=>?_);refine Qp (QK (Qo rfl (Qo rfl QL)) (Qd λK C=>?_));refine Qr rfl rfl rfl (Qb rfl (Zo rfl rfl (Yl rfl rfl (λ_ h=>Qaf Wd h) rfl Wd rfl rfl rfl Wc Wc (Za rfl rfl rfl rfl rfl rfl rfl rfl (C _ _ (Zt QL ?_))))));clear C K;refine MO (QM (l:=[]) (lH:=[500001,2000006,2500003,2500000]) QL (Qa rfl (Qa rfl (Qa rfl (Qa rfl Qf)))) rfl (H':=HW 2000006 2500003 2500000 w cur hb 75 [.ptr [.int .i64 most]] (bA1 (rows++[c])) (bA2 (rows++[c]))) (by simp only[HW,bA1,bA2,QFm,QEY]<;>rfl) rfl) ?_
 refine Qd λK C=>?_;refine Qb rfl (C _ _ (Zt (Qo rfl QL) ?_));clear C K;refine Qv ?_;exact Yz rfl rfl λk b h=>h
abbrev xF:Option (List Int)->D
 |none=>.u7 []
 |some c=>Q0 c
abbrev bF1:x4:=⟨[],1,22,true⟩
abbrev bF2 (s:Option (List Int)):x4:=⟨[[xF s]],1,22,true⟩
theorem Qsh {s:Option (List Int)}:
  o7 Tryz.prog 77 [Q0 c,.ref 2000006 0 0] (HW 2000006 2500003 2500000 w cur hb 77 [] bF1 (bF2 s)) (.bool false) (HW 2000006 2500003 2500000 w cur hb 77 [] bF1 (bF2 (some c))):=by
 refine o7.n7 tfol Tryz.func77 QD0 (QEi rfl) (λk hk h=>?_) (λk b h=>?_) ?_
 grind [lk]
 ·simp only[Qz]at h
  (repeat' split at h)<;>first |grind [x4.ids] |(cases h;subst_vars;refine⟨Wa,λj G=>?_⟩;simp[x4.ids,D.y4,ZQ]at G;first |(subst G;rfl) |(rcases G with rfl |rfl<;>rfl)) |cases h
 show TW _ _ tf77.body _ _;refine Qd λK C=>?_;refine Qb rfl (C _ _ (Zt (Qo rfl (Qo rfl QL)) ?_));clear C K;refine Qd λK C=>?_;refine Qb rfl (Za rfl rfl rfl rfl rfl rfl rfl rfl (C _ _ (Zt QL ?_)));clear C K;refine MO (QM (l:=[]) (lH:=[500001,2000006,2500003,2500000]) QL (Qa rfl (Qa rfl (Qa rfl (Qa rfl Qf)))) rfl (H':=HW 2000006 2500003 2500000 w cur hb 77 [] bF1 (bF2 (some c))) rfl rfl) (Qd λK C=>?_);refine Qb rfl (C _ _ (Zt (Qo rfl QL) ?_));clear C K;refine Qv ?_;exact Yz rfl rfl λk b h=>h
end Go.Proofs
namespace Go.Abs
open Go
theorem Dl {fr fr1:QEg} {H H1:QEf} {l lH:List Nat} (k k0 j:Nat) {n:Nat} {b:x4} {row row':List D} {e0 t0:Nat} (hf:Zf l fr=fr1) (hH:Yj lH H=H1) (hb:lk H k=some b) (hp:b.pr=true) (hn:n=b.rows.length) (h0:lk H k0=some ⟨[row],e0,t0,false⟩) (T:row[j]?=some (.u4 k n)) (hr:row.set j (.sl b.rows)=row') (C:(row'.all λd=>!d.y4.contains k)=true)
 (c1:(fr1.all λp=>!p.2.ids.contains k)=true) (c2:(H1.all λp=>p.1 != k&&(p.2.pr||!p.2.ids.contains k))=true) (hw:wa ((k0,⟨[row'],e0,t0,false⟩)::H1) fr1=true) (hbk:QeR H ((k0,⟨[row'],e0,t0,false⟩)::H1)=true) (hk:k<1000000:=by decide) (O:k0≠k:=by decide):St.le ⟨fr,H⟩ ⟨fr1,(k0,⟨[row'],e0,t0,false⟩)::H1⟩:=by
 intro E g a w r;obtain⟨g',_,r'⟩:=r.freeze k hk;subst hf hH hr;simp only[wa,QEm,QEs]at hw;simp only[QEs,QFv,QFC,decide_eq_false_iff_not]at c1 C;simp only[QEs,QEm,QFu,QFv,QFC,decide_eq_false_iff_not,bne_iff_ne,ne_eq]at c2
 have hS:∀(x:D),k∉x.ids->x.fz H (·==k)=x:=λx hx=>Bf λi hi=>by
  grind
 have Y:row.map (D.x7 H (·==k))=row.set j (.sl b.rows):=by
  have hjl:j<row.length:=(QEQ.1 T).1;apply QFS;simp;intro i M U;rw[QFT,QFZ];split;rename_i e;subst e
  (repeat clear hK K);simp_all [D.x7]
  ·rename_i e;have hil:i<row.length:=by grind
   have hm:row[i]∈row.set j (.sl b.rows):=by
    grind [List.mem_iff_getElem]
   have:=C _ hm;generalize row[i]=d at this ⊢;cases d<;>try rfl
   all_goals
    simp only[D.y4,QEr]at this;simp only[D.x7]
    grind
 refine⟨g',r'.less (λu d h=>?_) (λG x h=>?_) (λu d h j T=>hw.1 (u,d) (ZJ h) j T) (λj x h i hi=>hw.2 (j,x) (ZJ h) i hi) λG hj2 V=>?_⟩;simp only[St.freeze,Yq];have M:=Xi l fr u d h;rw[M,QE6,hS d (c1 (u,d) (ZJ h))];rw[Qz]at h;simp only[St.freeze,GA];split at h;rename_i e;cases h;subst e;rw[if_neg O,Yq (x4.fz H (·==k)),h0,QE6]
 (repeat clear hK K);simp_all [x4.fz]
 have M:=Jv lH H G x h;have U:=c2 (G,x) (ZJ h);rw[if_neg U.1,Yq (x4.fz H (·==k)),M,QE6]
 congr 1
 refine RW (U.2.imp id λh3 i hi=>?_)
 grind
 have:(lk H G).isSome=true:=by
  simp only[St.freeze,GA]at V;rw[if_neg Wa,Yq (x4.fz H (·==k)),QEA]at V;omega
 grind [Ns]
end Go.Abs
namespace Go.Proofs
open Go Go.Abs M3 M25
variable {c:List Int} {ρ:Nat->Nat}
theorem QjC (M:c≠[]) (G:c.length<=1048576):o7 Tryz.prog 105 [Q0 c] [] (.u4 500000 c.length) [(500000,⟨c.map rI,1,3,true⟩)]:=by
 refine o7.new tfol Tryz.func105 Qx2 (QEi rfl) rfl ?_;show TW _ _ tf105.body _ _;refine Qd λK C=>?_;refine Qb rfl (C _ _ (Zt (Qo rfl (QL)) ?_));clear C K;refine Qw (Qd λK C=>?_);refine Qb rfl (Qjk rfl (by simp_all) ?_);refine C _ _ (Zt (Qo rfl (Qo rfl (QL))) ?_);clear C K;refine Zq rfl (Qp (QK (Qo rfl (QL)) (Qd λK C=>?_)));refine QZ rfl rfl (Qb rfl (Yl rfl rfl (λ_ h=>GE (QhI c) h) rfl Wd rfl rfl rfl Wc Wc (Qb rfl (C _ _ (Zt (Qo rfl (QL)) ?_)))));clear C K;refine MO (G9 (l:=[]) (lH:=[]) 5 500000 2 QL Qf rfl rfl rfl rfl rfl rfl rfl) (Qv ?_);exact Yz rfl (by simp[TQ,D.fz,D.x7,small,D.can,D.x6,Q0]) λk b h=>h
theorem QjB {s:St} (M:c≠[]) (G:c.length<=1048576) (Y:s.ev (.s 25)=some (.u4 1500003 c.length)) (V:lk s.H 1500003=some ⟨c.map rI,1,3,true⟩) (U:lk s.H 26=none):
  Kx Tryz.prog 105 [.s 25] s [(1500003,⟨c.map rI,1,3,true⟩)] [(26,⟨c.map rI,1,3,true⟩)] [] (.u4 26 c.length):=by
 refine⟨[.u4 1500003 c.length],by grind [Zh],λk b hk=>?_,λk b hk j C=>?_,λx hx j C=>?_,(λk b hk=>by cases hk),λk b hk=>?_,λk hk=>?_,.inl ?_⟩;obtain⟨rfl,rfl⟩:=K5 hk;omega;obtain⟨rfl,rfl⟩:=K5 hk;trivial;simp at hx;subst hx;simp[D.ids,D.y4]at C;subst C;rfl;obtain⟨rfl,rfl⟩:=K5 hk;grind [x4.ids];simp[D.ids,D.y4]at hk;subst hk;rfl;have T:=o7.we (QzL (a:=500000) (b:=26) We We) (QjC M G) (ds2:=[Q0 c]) (H2:=[]) (d2:=.u4 26 c.length) (H2':=[(26,⟨c.map rI,1,3,true⟩)]) rfl rfl rfl (by simp only[K7,QEW,QFx,x4.u5,X7];rfl)
 have O:=o7.gg (H:=upH [(1500003,⟨c.map rI,1,3,true⟩)]) (ds:=[D.u4 2500003 c.length]) 3 T (by
  simp only[upH,QEW,QFx,x4.u5,X7,D.mc,D.xc,Qz];simp[upN,rI,D.xc,D.own,Q0]) rfl (λr hr d hd=>by obtain⟨v,_,rfl⟩:=QEw.1 hr;simp[rI]at hd;subst hd;rfl) We rfl
 exact O
section
variable {σ:Type} {w:Ql} {hb:Bool} {p:PZ σ} {B1 B2:σ->x4} {f:Nat} {ps:List D} (hp:s9 w hb p B1 B2 f ps)
include hp
theorem s9.i1 (s:σ):(B1 s).ids=[]:=by unfold x4.ids;rw[hp.p1 s];rfl
theorem s9.i2 (s:σ):∀j∈(B2 s).ids,j=500001:=λj C=>by
 unfold x4.ids at C;split at C
 grind
 obtain⟨r,hr,C⟩:=QEp.1 C;obtain⟨d,hd,C⟩:=QEp.1 C;exact hp.s2 s r hr d hd j C
omit hp in
theorem CH {b:x4} (h:∀r∈b.rows,∀d∈r,∀j∈d.y4,ρ j=j):b.u5 ρ=b:=by
 obtain⟨rows,l0,et,pr⟩:=b;simp only[x4.u5,x4.mk.injEq,and_true]
 have:∀l:List (List D),(∀r∈l,∀d∈r,∀j∈d.y4,ρ j=j)->(l.map λr=>r.map (D.y6 ρ))=l:=by
  intro l
  induction l with
  |nil=>simp
  |cons r l C=>
   intro G;rw[QEW,C λO T=>G O Wc]
   congr 1
   have M:=G r Wd;clear G C
   induction r with
   |nil=>rfl
   |cons d r C=>
    rw[QEW,C λV U=>M V Wc]
    congr 1
    have Y:=M d Wd;cases d<;>first |rfl |(grind [D.y6,D.y4])
 grind
theorem s9.r1 (s:σ):(B1 s).u5 ρ=B1 s:=CH λr hr d hd j C=>by rw[hp.s1 s r hr d hd]at C;grind
theorem s9.r2 (h:ρ 500001=500001) (s:σ):(B2 s).u5 ρ=B2 s:=CH λr hr d hd j C=>by rw[hp.s2 s r hr d hd j C];exact h
theorem Qkk (c:List Int) (s:σ):∀k b,lk (HW 1000006 1500003 1500000 w c hb f ps (B1 s) (B2 s)) k=some b->500000<=k/\∀j∈b.ids,(lk (HW 1000006 1500003 1500000 w c hb f ps (B1 s) (B2 s)) j).isSome=true:=λk b h=>by
 simp only[Qz]at h;split at h;cases h;subst_vars;exact⟨Wa,λj C=>by rw[hp.i1 s]at C;grind⟩
 split at h;cases h;subst_vars;exact⟨Wa,λj C=>by rw[hp.i2 s j C];rfl⟩
 split at h
 grind [x4.ids]
 split at h;cases h;subst_vars;refine⟨Wa,λj C=>?_⟩;simp[x4.ids,D.y4,ZQ]at C;rcases C with rfl |rfl<;>rfl
 trivial
omit hp in
theorem Qa9 {c':List Int} {b1 b2 G C:x4}:∀k,1000000<=k->(lk (HW 1000006 1500003 1500000 w c hb f ps b1 b2) k).isSome=true->(lk (HW 1000006 1500003 1500000 w c' hb f ps G C) k).isSome=true:=λk _ h=>by
 grind [lk]
theorem Mb {s:σ} {fr:QEg} (h:(fr.all λq=>q.2.ids.all λk=>(lk (HW 1000006 1500003 1500000 w c hb f ps (B1 s) (B2 s)) k).isSome)=true):wa (HW 1000006 1500003 1500000 w c hb f ps (B1 s) (B2 s)) fr=true:=by
 simp only[wa,QEm];refine⟨h, ?_⟩;simp only[QFk,List.all_nil,QFj,QEm,QEs];refine⟨λj C=>?_,λj C=>?_,λj C=>?_,λj C=>?_⟩;rw[hp.i1 s]at C;grind;rw[hp.i2 s j C];rfl;trivial;simp[x4.ids,D.y4,ZQ]at C;rcases C with rfl |rfl<;>rfl
end
end Go.Proofs
namespace Go.Proofs
open Go Go.Abs M3 M25
variable {b1 b2:x4} {c:List Int} {w:Ql}
abbrev WB (w:Ql) (c:List Int) (hb:Bool) (f:Nat) (ps:List D):x4:=⟨[[ZQ w,.u4 1500003 c.length,.bool hb,.w8 f 1000006 ps]],4,179,false⟩
theorem up1:upN 500001=1500001:=by rfl
theorem up2:upN 1000006=2000006:=by rfl
theorem up3:upN 1500003=2500003:=by rfl
theorem up4:upN 1500000=2500000:=by unfold upN;rfl
theorem Qeq {ρ:Nat->Nat}:D.y6 ρ (ZQ w)=ZQ w:=rfl
theorem Qot {hb:Bool} {f:Nat} {ps:List D}:D.mc (upH (HW 1000006 1500003 1500000 w c hb f ps b1 b2)) 3 (Qi5 (.ref 1500000 0 0))=.ptr [ZQ w,Q0 c,.bool hb,.z7]:=by
 have C:Qi5 (.ref 1500000 0 0)=.ref 2500000 0 0:=by simp[Qi5,D.u5,D.y6,upN,D.can,D.x6]
 have e0:upH (HW 1000006 1500003 1500000 w c hb f ps b1 b2)=[(1500001,b1.u5 upN),(2000006,b2.u5 upN),(2500003,⟨(c.map rI).map (λr=>r.map (D.y6 upN)),1,3,true⟩),(2500000,⟨[[ZQ w,.u4 2500003 c.length,.bool hb,.w8 f 2000006 ps]],4,179,false⟩)]:=by
  simp only[upH,QEW,QFx,up1,up2,up3,up4];simp only[x4.u5,QEW,QFx,Qeq];simp only[D.y6,up2,up3]
 have e1:lk (upH (HW 1000006 1500003 1500000 w c hb f ps b1 b2)) 2500000=some ⟨[[ZQ w,.u4 2500003 c.length,.bool hb,.w8 f 2000006 ps]],4,179,false⟩:=by rw[e0];simp[Qz]
 have e2:lk (upH (HW 1000006 1500003 1500000 w c hb f ps b1 b2)) 2500003=some ⟨(c.map rI).map (λr=>r.map (D.y6 upN)),1,3,true⟩:=by rw[e0];simp[Qz]
 rw[X7]at e2;rw[C];generalize upH (HW 1000006 1500003 1500000 w c hb f ps b1 b2)=H at e1 e2 ⊢;show D.xc H 3 (.ref 2500000 0 0)=_
 have G:D.xc H 2 (.u4 2500003 c.length)=Q0 c:=by
  unfold D.xc;simp only[e2,QFf,if_true];simp[rI,D.xc,D.own,Q0]
 unfold D.xc;simp only[e1,List.getD_cons_zero,QFh,QEW,QFx,G];rfl
theorem evC {s:St}:∀{ps:List D},Zh s (ps.map .c)=some ps
 |[]=>rfl
 |d::ps=>by simp only[QEW,Zh,St.ev,evC]
section
variable {σ:Type} {w:Ql} {hb:Bool} {p:PZ σ} {B1 B2:σ->x4} {f:Nat} {ps:List D} (hp:s9 w hb p B1 B2 f ps)
include hp
theorem QgA:∀q∈HW 1000006 1500003 1500000 w c hb f ps b1 b2,lk (HW 1000006 1500003 1500000 w c hb f ps b1 b2) q.1=some q.2:=λq C=>by
 simp only[HW,QEk,QEj,or_false]at C;rcases C with rfl |rfl |rfl |rfl<;>rfl
theorem QcL {c':List Int} {G C:x4}:∀j∈(HW 1000006 1500003 1500000 w c hb f ps b1 b2).map Prod.fst,(lk (HW 1000006 1500003 1500000 w c' hb f ps G C) j).isSome=true:=λj M=>by
 simp only[HW,QEW,QFx,QEk,QEj,or_false]at M;rcases M with rfl |rfl |rfl |rfl<;>rfl
theorem Qgz (c:List Int) (s:σ):∀q∈HW 1000006 1500003 1500000 w c hb f ps (B1 s) (B2 s),∀j∈q.2.ids,(lk (HW 1000006 1500003 1500000 w c hb f ps (B1 s) (B2 s)) j).isSome=true:=λq C=>(Qkk hp c s q.1 q.2 (QgA hp q C)).2
variable (hw:WSm w) (hr:WIn w) (h0:0<w.length)
include hw hr h0
theorem Que {s:St} {x:σ} {t:Bool} (C:z6 w c) (G:0<=cA c 0) (M:tidyB w c=t) (T:Zh s [.s 14]=some [.ref 1500000 0 0]) (O:s.H=HW 1000006 1500003 1500000 w c hb f ps (B1 x) (B2 x)):
  Kx Tryz.prog 104 [.s 14] s (HW 1000006 1500003 1500000 w c hb f ps (B1 x) (B2 x)) [] [(1500000,WB w c hb f ps)] (.bool t):=
 QfB 3 (M ▸ Ka hw hr C (hb:=hb) h0 G) T (by rw[O];exact QgA hp) (Qgz hp c x) rfl (by grind [Qot]) rfl rfl rfl rfl
theorem Qrc {x:σ} (G:z6 w c) (M:0<=cA c 0) (O:tidyB w c=false):
  o7 Tryz.prog 76 [.ref 1500000 0 0,.int .i64 w.length] (HW 1000006 1500003 1500000 w c hb f ps (B1 x) (B2 x)) (.bool true) (HW 1000006 1500003 1500000 w c hb f ps (B1 x) (B2 x)):=by
 have T:=G.len;refine o7.n7 tfol Tryz.func76 Qy7 (QEi rfl) (Qa9) (Qkk hp c x) ?_;show TW _ _ tf76.body _ _;refine Qd λK C=>?_;refine Qb rfl (C _ _ (Zt (Qo rfl (Qo rfl (QL))) ?_));clear C K;refine Qw (Qd λK C=>?_);refine Qb rfl (Qb rfl (Zm rfl rfl (Qe rfl rfl (Qr rfl rfl rfl (QW rfl rfl (Yp rfl rfl (C _ _ (Zt (Qo rfl (Qo rfl (Qo rfl (QL)))) ?_))))))));clear C K;refine Qs rfl (λ_=>?_) (λh=>absurd h Wc);refine Qd λK C=>?_;refine Qb rfl (Qe0 (Que hp hw hr h0 G M O rfl rfl) (QcL hp) rfl rfl (Zp rfl (Qb rfl (YN rfl (YN rfl (YN rfl (YN rfl (YN rfl (YN rfl (YN rfl ?_))))))))));refine YN rfl (YN rfl (YN rfl (Qh rfl rfl (Qb rfl (C _ _ (Zt (Qo rfl (QL)) ?_))))));clear C K;refine Qv (Qi (Yz rfl rfl λk b h=>?_));rw[Qz]
 by_cases e:1500000=k
 subst e;trivial
 grind
theorem Qob {x:σ}:((HW 1000006 1500003 1500000 w c hb f ps (B1 x) (B2 x)).all λq=>q.1 != 26&&(q.2.pr||!q.2.ids.contains 26))=true:=by
 simp only[HW,QFk,List.all_nil,QFj,QEm];refine⟨⟨rfl,by rw[hp.p1 x];rfl⟩,⟨rfl, ?_⟩,⟨rfl,rfl⟩,⟨rfl, ?_⟩⟩
 rw[QFu];right;rw[QFv,QFC,decide_eq_false_iff_not];intro h;have:=hp.i2 x 26 h;omega;rfl
theorem Ql6 {x:σ}:∀j,lk (J6 [500001] (HW 1000006 1500003 1500000 w c hb f ps (B1 x) (B2 x))) j=lk (HW 2000006 2500003 2500000 w c hb f ps (B1 x) (B2 x)) j:=λj=>by
 have e:J6 [500001] (HW 1000006 1500003 1500000 w c hb f ps (B1 x) (B2 x))=HW 2000006 2500003 2500000 w c hb f ps (B1 x) (B2 x):=by
  have e1:YM [500001] 500001=500001:=rfl;have e2:YM [500001] 1000006=2000006:=rfl;have C:YM [500001] 1500003=2500003:=rfl;have G:YM [500001] 1500000=2500000:=rfl;simp only[J6,HW,QEW,QFx,e1,e2,C,G,hp.r1,hp.r2 e1];simp only[x4.u5,X7,QEW,QFx,D.y6,e2,C];rfl
 rw[e]
theorem Qlr {x:σ} (M:z6 w c) (U:0<=cA c 0) (ht:tidyB w c=true) (O:p.ok x 1):
  o7 Tryz.prog 76 [.ref 1500000 0 0,.int .i64 w.length] (HW 1000006 1500003 1500000 w c hb f ps (B1 x) (B2 x)) (.bool (p.st x c).2) (HW 1000006 1500003 1500000 w c hb f ps (B1 (p.st x c).1) (B2 (p.st x c).1)):=by
 have hcl:=M.len;have Y:=hw.len;have T:c≠[]:=by grind
 refine o7.n7 tfol Tryz.func76 Qy7 (QEi rfl) (Qa9) (Qkk hp c (p.st x c).1) ?_;show TW _ _ tf76.body _ _;refine Qd λK C=>?_;refine Qb rfl (C _ _ (Zt (Qo rfl (Qo rfl (QL))) ?_));clear C K;refine Qw (Qd λK C=>?_);refine Qb rfl (Qb rfl (Zm rfl rfl (Qe rfl rfl (Qr rfl rfl rfl (QW rfl rfl (Yp rfl rfl (C _ _ (Zt (Qo rfl (Qo rfl (Qo rfl (QL)))) ?_))))))));clear C K;refine Qs rfl (λ_=>?_) (λh=>absurd h Wc)
 (refine QmZ (l1:=(match tf76.body with | .seq _ _ (.seq (.seq _ _ (.cond _ (.seq (.region _ l) _ _) _)) _ _)=>l.take 13 |_=>[])) (l2:=(match tf76.body with | .seq _ _ (.seq (.seq _ _ (.cond _ (.seq (.region _ l) _ _) _)) _ _)=>l.drop 14 |_=>[])) (λK C=>?_))
 refine Qb rfl (Qe0 (Que hp hw hr h0 M U ht rfl rfl) (QcL hp) rfl rfl (Zp rfl (Qb rfl (Qc rfl (Qb rfl (Qc rfl (Zm rfl rfl (Qc rfl (Qe rfl rfl (Qc rfl ?_))))))))));refine QG rfl rfl rfl rfl rfl (Qc rfl (Qb rfl (Qc rfl (Zm rfl rfl (Qc rfl (Qe rfl rfl (Qc rfl (QG rfl rfl rfl rfl rfl (Qc rfl (Qji (QjB T Wa rfl rfl rfl) rfl (λj V=>by simp at V;subst V;rfl) rfl rfl ?_))))))))))
 refine Qaz ?_
 (refine Pl (le_trans (Mf (l:=[17,21]) (lH:=[500001,1000006,1500003,1500000]) 26 26 (Qo rfl (Qo rfl QL)) (Qa rfl (Qa rfl (Qa rfl (Qa rfl Qf)))) rfl rfl rfl Wd rfl (Qob hp hw hr h0) (Mb hp rfl) rfl) (QM (l:=[17,21,26]) (lH:=[500001,1000006,1500003,1500000]) (Qo rfl (Qo rfl (Qo rfl QL))) (Qa rfl (Qa rfl (Qa rfl (Qa rfl Qf)))) rfl rfl (Mb hp (fr:=[(17,.bool false),(21,.w8 f 1000006 ps),(26,Q0 c)]) rfl) rfl)) ?_)
 (refine Qhr (Hr:=HW 1000006 1500003 1500000 w c hb f ps (B1 (p.st x c).1) (B2 (p.st x c).1)) (G:=[500001]) (ds:=Q0 c::.ref 1000006 0 0::ps) rfl rfl rfl (by simp[D.w9,hp.cap]) ?_ rfl rfl rfl rfl rfl ?_ (hp.ok x c c O) (Ql6 hp hw hr h0) (Ql6 hp hw hr h0) ?_)
 simp only[QEW,QFi,QFJ,Zh,St.ev,evC];rfl;rw[QEW,QEW,hp.u5];rfl;refine Qh rfl rfl (Qb rfl (C _ _ (Zt (Qo rfl (QL)) ?_)));clear C K;refine Qv (Qi ?_);exact Yz rfl rfl λk b h=>h
end
end Go.Proofs
namespace M25
open Go Go.Abs M3
variable {hi:Bool} {j n:Nat} {us:List Nat} {σ:Type}
section
variable {σ:Type} {p:PZ σ} {F:Nat->List (List Int)} {s s':σ} {j n:Nat}
theorem QtP (G:j<n) (h:YY p s ((List.range j).flatMap F)=(s',true)) (C:p.ok s ((List.range n).flatMap F).length):p.ok s' (F j).length:=by
 have:=Qh1 (p:=p) (s:=s) (a:=(List.range j).flatMap F) (k:=(F j).length) (p.mono C (by
  rw[S7 G,List.flatMap_append,QEY,QFX,List.flatMap_append,QEY];simp))
 grind
end
section
variable {w:Ql} {c q:List Int} {l:Nat} {x:Int}
theorem FL (C:c.take l=q) (G:l<c.length):(c.set l x).take (l+1)=q++[x]:=by
 (repeat clear hK K);simp_all [QFB,List.take_set_of_le]
theorem Rt (C:c.take l=q) (G:l<c.length):Y7 w (c.set l x) l=Y7 w (q++[x]) l:=by
 grind [Qjq,FL,S2]
theorem Qh9 (hp:va w q) (O:c.take l=q) (G:c.length=w.length) (T:l<w.length) (hx:x<w[l].cs.length):∀u (h:u<w.length) (M:u<(c.set l x).length),u<=l->(c.set l x)[u]<w[u].cs.length:=λu h M C=>by
 rw[QFZ];split
 grind
 rename_i e;have hu:u<q.length:=by grind
 have:=(hp.bd u hu h).2
 grind
theorem QoZ (G:0<c.length) (C:l=0) (h:c[0]<0):Y7 w c l=false:=by
 grind [Y7,Ym]
theorem Qhy (h:XC w c l=false):Y7 w c l=false:=by rw[Y7,h,Bool.false_and,QFP]
theorem Qo0 (G:l<c.length) (C:0<l) (h:0<=c[l]) (M:Pw w c l=false):Y7 w c l=false:=by
 grind [Y7,Ym]
theorem Qo1 (G:0<c.length) (C:l=0) (h:¬c[0]<0) (M:XC w c l=true):Y7 w c l=true:=by
 grind [Y7,Ym]
theorem Qo2 (G:l<c.length) (C:0<l) (h:¬0<=c[l]) (M:XC w c l=true):Y7 w c l=true:=by
 grind [Y7,Ym]
theorem Qo3 (C:0<l) (h:Pw w c l=true) (G:XC w c l=true):Y7 w c l=true:=by
 grind [Y7]
theorem QmF (C:q.length=l) (h:Y7 w (q++[x]) l=true):subW w hi us q x=listW w hi us (q++[x]):=by
 subst C;exact if_pos h
theorem Qu4 {p:PZ σ} {s s':σ} (C:q.length=l) (h:YY p s ((List.range j).flatMap λi=>subW w hi us q (Zw hi n i))=(s',true)) (G:c.take l=q) (M:l<c.length) (O:Y7 w (c.set l (Zw hi n j)) l=false):YY p s ((List.range (j+1)).flatMap λi=>subW w hi us q (Zw hi n i))=(s',true):=by
 rw[DX h]
 grind [YY,subW,Rt]
theorem QBU {p:PZ σ} {s s':σ} (h:YY p s ((List.range j).flatMap λi=>subW w hi us q (Zw hi n i))=(s',true)) (C:(YY p s' (subW w hi us q (Zw hi n j))).2=true):YY p s ((List.range (j+1)).flatMap λi=>subW w hi us q (Zw hi n i))=((YY p s' (subW w hi us q (Zw hi n j))).1,true):=by
 grind [DX]
theorem Qpl {p:PZ σ} {s s':σ} {m:Nat} (C:j<m) (h:YY p s ((List.range j).flatMap λi=>subW w hi us q (Zw hi n i))=(s',true)) (G:(YY p s' (subW w hi us q (Zw hi n j))).2=false):YY p s ((List.range m).flatMap λi=>subW w hi us q (Zw hi n i))=((YY p s' (subW w hi us q (Zw hi n j))).1,false):=by
 grind [DY]
theorem Qaj (C:q.length=l) (h:c.take (l+1)=q++[x]):c.take l=q:=by
 have:=congrArg (List.take l) h
 grind
theorem QfI:Zw hi n j=if hi=true then(n:Int) - 1 - j else(j:Int) - 1:=rfl
end
end M25
namespace Go.Proofs
open Go Go.Abs M3 M25
variable {b1 b2:x4} {c cur:List Int} {fr:QEg} {l:Nat} {o1 o2:y5} {s:St} {t:Bool} {σ:Type}
section
variable {σ:Type} {w:Ql} {hb:Bool} {p:PZ σ} {B1 B2:σ->x4} {f:Nat} {ps:List D} (hp:s9 w hb p B1 B2 f ps)
include hp
variable (hw:WSm w) (hr:WIn w)
include hw hr
theorem Ql4 {x:σ} (C:c.length=w.length) (O:l<w.length) (G:∀u (h:u<w.length) (V:u<c.length),u<=l->c[u]<w[u].cs.length) (M:XC w c l=t) (U:Zh s [o1,o2]=some [.ref 1500000 0 0,.int .i64 l]) (T:∀q∈HW 1000006 1500003 1500000 w c hb f ps (B1 x) (B2 x),lk s.H q.1=some q.2):
  Kx Tryz.prog 106 [o1,o2] s (HW 1000006 1500003 1500000 w c hb f ps (B1 x) (B2 x)) [] [] (.bool t):=
 Qb8 3 (M ▸ JJ hw hr C (hb:=hb) O G) U T (Qgz hp c x) rfl (by rw[QEW,QEW,Qot];rfl) rfl rfl rfl
theorem Qzd {x:σ} (C:c.length=w.length) (T:l<w.length) (M:0<=c[l]'Wa) (G:c[l]'Wa<w[l].cs.length) (O:Pw w c l=t) (V:Zh s [o1,o2]=some [.ref 1500000 0 0,.int .i64 l]) (U:∀q∈HW 1000006 1500003 1500000 w c hb f ps (B1 x) (B2 x),lk s.H q.1=some q.2):
  Kx Tryz.prog 107 [o1,o2] s (HW 1000006 1500003 1500000 w c hb f ps (B1 x) (B2 x)) [] [] (.bool t):=
 Qb8 3 (O ▸ Jz hw hr C (hb:=hb) T M G) V U (Qgz hp c x) rfl (by rw[QEW,QEW,Qot];rfl) rfl rfl rfl
omit hw hr in
theorem QgB {x:σ}:J6 [500001] (HW 1000006 1500003 1500000 w c hb f ps (B1 x) (B2 x))=HW 2000006 2500003 2500000 w c hb f ps (B1 x) (B2 x):=by
 have e1:YM [500001] 500001=500001:=rfl;have e2:YM [500001] 1000006=2000006:=rfl;have C:YM [500001] 1500003=2500003:=rfl;have G:YM [500001] 1500000=2500000:=rfl;simp only[J6,HW,QEW,QFx,e1,e2,C,G,hp.r1,hp.r2 e1];simp only[x4.u5,X7,QEW,QFx,D.y6,e2,C];rfl
omit hw hr in
theorem QgC {x:σ}:K7 Qmy (HW 1000006 1500003 1500000 w c hb f ps (B1 x) (B2 x))=HW 2000006 2500003 2500000 w c hb f ps (B1 x) (B2 x):=by
 have e1:Qmy 500001=500001:=rfl;have e2:Qmy 1000006=2000006:=rfl;have C:Qmy 1500003=2500003:=rfl;have G:Qmy 1500000=2500000:=rfl;simp only[K7,HW,QEW,QFx,e1,e2,C,G,hp.r1,hp.r2 e1];simp only[x4.u5,X7,QEW,QFx,D.y6,e2,C];rfl
end
theorem QsY {w:Ql} {hb:Bool} {f:Nat} {ps:List D} {c':List Int} {rows:List (List D)} {pr:Bool} (h:rows=c'.map rI) (G:c.length=c'.length) (C:pr=true):[(500001,b1),(1000006,b2),(1500003,(⟨rows,1,3,pr⟩:x4)),(1500000,WB w c hb f ps)]=HW 1000006 1500003 1500000 w c' hb f ps b1 b2:=by
 grind
def Qm5 (w:Ql) (hb:Bool) (p:PZ σ) (B1 B2:σ->x4) (f:Nat) (ps:List D) (unit:Nat) (q:List Int) (s:σ) (d:D) (H':QEf):Prop:=
 ∃c':List Int,c'.length=w.length/\c'.take unit=q/\d=.bool (YY p s (listW w hb ((YF w).drop unit) q)).2/\H'=HW 1000006 1500003 1500000 w c' hb f ps (B1 (YY p s (listW w hb ((YF w).drop unit) q)).1) (B2 (YY p s (listW w hb ((YF w).drop unit) q)).1)
def Qm6 (w:Ql) (hb:Bool) (p:PZ σ) (B1 B2:σ->x4) (f:Nat) (ps:List D) (unit:Nat) (cur:List Int) (s:σ):Prop:=
 ∃d H',Qm5 w hb p B1 B2 f ps unit (cur.take unit) s d H'/\o7 Tryz.prog 76 [.ref 1500000 0 0,.int .i64 unit] (HW 1000006 1500003 1500000 w cur hb f ps (B1 s) (B2 s)) d H'
section
variable {σ:Type} {w:Ql} {hb:Bool} {p:PZ σ} {B1 B2:σ->x4} {f:Nat} {ps:List D} (hp:s9 w hb p B1 B2 f ps) (hw:WSm w) (hr:WIn w) (h0:0<w.length)
include hp
theorem QiU (hw:WSm w) (hr:WIn w) (h0:0<w.length) {s:σ} (C:cur.length=w.length) (G:va w (cur.take w.length)) (M:p.ok s (listW w hb ((YF w).drop w.length) (cur.take w.length)).length):Qm6 w hb p B1 B2 f ps w.length cur s:=by
 have e:cur.take w.length=cur:=QEy Wa
 have O:z6 w cur:=by
  rw[e]at G;exact⟨C,λu hu hc=>G.bd u hc hu⟩
 have T:0<=cA cur 0:=by
  rw[e]at G;exact(G.inv Wc).2
 have Y:(YF w).drop w.length=[]:=List.drop_of_length_le (by simp[YF]);cases V:tidyB w cur with
 |true=>
  have U:listW w hb ((YF w).drop w.length) (cur.take w.length)=[cur]:=by
   rw[Y,e,listW,if_pos (Qiu.1 V)]
  rw[U]at M;refine⟨_,_,⟨cur,C,rfl,rfl,rfl⟩, ?_⟩
  grind [Qdu,Qlr]
 |false=>
  have U:listW w hb ((YF w).drop w.length) (cur.take w.length)=[]:=by
   rw[Y,e,listW,if_neg λh=>by grind [QbL]]
  refine⟨_,_,⟨cur,C,rfl,rfl,rfl⟩, ?_⟩;rw[U];exact Qrc hp hw hr h0 O T V
theorem QdK {unit:Nat} {q:List Int} {s s':σ} {H:QEf} {e:AExit} (O:c.length=w.length) (M:c.take unit=q) (C:YY p s (listW w hb ((YF w).drop unit) q)=(s',t)) (T:H=HW 1000006 1500003 1500000 w c hb f ps (B1 s') (B2 s')) (G:lk fr 4=some (.bool t)) (he:e=.ret\/e=.normal:=by first |exact .inl rfl |exact .inr rfl):
  ∃d H',Qm5 w hb p B1 B2 f ps unit q s d H'/\(∀k,1000000<=k->(lk (HW 1000006 1500003 1500000 w cur hb f ps b1 b2) k).isSome=true->(lk H' k).isSome=true)/\(∀k b,lk H' k=some b->500000<=k/\∀j∈b.ids,(lk H' j).isSome=true)/\FS [.tmp 4] d H' e ⟨fr,H⟩:=by
 subst T;refine⟨_,_,⟨c,O,M,rfl,rfl⟩,Qa9,by rw[C];exact Qkk hp c s', ?_⟩
 rw[C];exact Yz G rfl (λk b h=>h) he
theorem QiV {unit:Nat} {T:List Int} {s s':σ} {o:u3} {K:St->Prop} {dst:Nat} (ho:o=⟨some dst,.call 76 [o1,o2],none⟩) (C:o7 Tryz.prog 76 [.ref 1500000 0 0,.int .i64 ((unit:Int)+1)] (HW 1000006 1500003 1500000 w c hb f ps (B1 s) (B2 s)) (.bool t) (HW 1000006 1500003 1500000 w T hb f ps (B1 s') (B2 s')))
 (O:Zh ⟨fr,HW 1000006 1500003 1500000 w c hb f ps (B1 s) (B2 s)⟩ [o1,o2]=some [.ref 1500000 0 0,.int .i64 ((unit:Int)+1)]) (M:(fr.all λp=>p.2.ids.all λk=>!([500001]:List Nat).contains k)=true) (U:K ⟨(dst,.bool t)::fr,HW 1000006 1500003 1500000 w T hb f ps (B1 s') (B2 s')⟩):
  Qjc Tryz.prog o K ⟨fr,HW 1000006 1500003 1500000 w c hb f ps (B1 s) (B2 s)⟩:=
 SY (G:=[500001]) (Hr:=HW 1000006 1500003 1500000 w T hb f ps (B1 s') (B2 s')) ho O rfl M rfl rfl rfl (o7.we rnU C rfl (QgC hp) rfl (QgC hp)) (QgB hp) (QgB hp) U
end
end Go.Proofs
namespace Go.Proofs
open Go Go.Abs M3 M25
theorem Kb {σ:Type} {w:Ql} {hb:Bool} {p:PZ σ} {B1 B2:σ->x4} {f:Nat} {ps:List D} (hp:s9 w hb p B1 B2 f ps) (hw:WSm w) (hr:WIn w) {unit:Nat} (hu:unit<w.length) {cur q:List Int} {s:σ} (hcl:cur.length=w.length) (hqt:cur.take unit=q) (T:va w q) (hok:p.ok s (listW w hb ((YF w).drop unit) q).length)
 (ih:∀(cur:List Int) (s:σ),cur.length=w.length->va w (cur.take (unit+1))->p.ok s (listW w hb ((YF w).drop (unit+1)) (cur.take (unit+1))).length->Qm6 w hb p B1 B2 f ps (unit+1) cur s):∃d H',Qm5 w hb p B1 B2 f ps unit q s d H'/\o7 Tryz.prog 76 [.ref 1500000 0 0,.int .i64 unit] (HW 1000006 1500003 1500000 w (cur) hb f ps (B1 s) (B2 s)) d H':=by
 have hwl:=hw.len;have hcu:=hw.cs _ (QEn hu);have M:q.length=unit:=by grind
 have hLE:listW w hb ((YF w).drop unit) q=(List.range ((w[unit]'hu).cs.length+1)).flatMap λi=>subW w hb ((YF w).drop (unit+1)) q (Zw hb (w[unit]'hu).cs.length i):=by rw[Qhf hu];rfl
 rw[hLE]at hok;refine o7.uh tfol Tryz.func76 Qy7 (QEi Z) ?_;show TX _ _ tf76.body _ _;refine HC λK C=>Qb Z (C _ _ (Xb (kp2 Z Z) (QaD (HC λK C=>mv2 Z Z (Zm Z Z (Qe Z Z (Qr Z Z Z (QW Z Z (Yp Z Z (C _ _ (Xb (kp3 Z Z Z) (Py Z (λh1=>?_) (λh1=>?_)))))))))))))
 grind
 rw[h1];simp only[qA]at h1;refine NM (JH (kp2 Z Z) (HC λK C=>Qb Z (Zm Z Z (Qe Z Z (Qr Z Z Z (Qb Z (Qt Z Z Z Wa (QH Wa) Z (Qr Z Z Z (QW Z QE (Qb Z (C _ _ (Xb (kp3 Z Z Z) (QaD (HC λK C=>Qb Z (Q2 Z Z Wb (Qb Z (C _ _ (Xb (kp5 Z Z Z Z Z) (QaB (QbT (ι:=Nat × List Int × σ) (λj=>⟨[(0,.ref 1500000 0 0),(1,.int .i64 unit),(5,.int .i64 (w[unit]'hu).cs.length),(38,.int .i64 ((w[unit]'hu).cs.length+1)),(39,.int .i64 j.1)],HW 1000006 1500003 1500000 w (j.2.1) hb f ps (B1 j.2.2) (B2 j.2.2)⟩) (λj=>j.1<=(w[unit]'hu).cs.length+1/\j.2.1.length=w.length/\j.2.1.take unit=q/\YY p s ((List.range j.1).flatMap λi=>subW w hb ((YF w).drop (unit+1)) q (Zw hb (w[unit]'hu).cs.length i))=(j.2.2,true)) (λj=>(w[unit]'hu).cs.length+1 - j.1) (0,cur,s) ?_ ?_ ?_))))))))))))))))))));exact QM (l:=[0,1,5,38,39]) (lH:=[500001,1000006,1500003,1500000]) (kp5 Z Z Z Z Z) (Qa Z (Qa Z (Qa Z (Qa Z Qf)))) Z Z (Mb hp Z) Z;exact⟨QEu _,hcl,hqt,rfl⟩;intro j G;refine HC λK C=>ZK Z Z (C _ _ (Xb (kp6 Z Z Z Z Z Z) (QaD (Py Z (λh2=>?_) (λh2=>?_)))));rw[h2];simp only[qA]at h2;have hX:=QjJ (hi:=hb) (Wa:j.1<(w[unit]'hu).cs.length+1);refine NM (JH (kp5 Z Z Z Z Z) (QaD (QaB (HC λK C=>mv2 Z Z (C _ _ (Xb (kp6 Z Z Z Z Z Z) (HC λK C=>Qb Z (Zm Z Z (Qe Z Z (Qr Z Z Z (mv2 Z Z (J7 Z Z Wb (ZE Z Z Z Wd Wa Wa Z (Za Z Z (QH Wa) Z Z Z Z Z (C _ _ (Xb (kp6 Z Z Z Z Z Z) (Qe7 (ι:=Unit) (λ_=>⟨[(0,.ref 1500000 0 0),(1,.int .i64 unit),(5,.int .i64 (w[unit]'hu).cs.length),(38,.int .i64 ((w[unit]'hu).cs.length+1)),(39,.int .i64 j.1)],HW 1000006 1500003 1500000 w ((j.2.1.set unit (Zw hb (w[unit]'hu).cs.length j.1))) hb f ps (B1 j.2.2) (B2 j.2.2)⟩) (λ_=>True) ?_ ?_)))))))))))))))))
 skip
 refine HC λK C=>Qb Z (Zm Z Z (Qe Z Z (Qr Z Z Z (C _ _ (Xb (kp7 Z Z Z Z Z Z Z) (Py Z (λh3=>?_) (λh3=>?_)))))))
 skip
 refine MS λK C=>Qb Z (Zm Z Z (Qe Z Z (Qr Z Z Z (mv2 Z Z (J7 Z Z Wb (Qb Z (J7 Z Z Wb (ZE Z Z Z Wd Wa Wa Z (Za Z Z (QFd Wc) Z Z Z Z Z (C _ (Zl () ?_ ?_)))))))))));exact QM (l:=[0,1,5,38,39]) (lH:=[500001,1000006,1500003,1500000]) (kp5 Z Z Z Z Z) (Qa Z (Qa Z (Qa Z (Qa Z Qf)))) Z (QsY (by rw[QfI,if_pos h3,QFQ,List.set_set];rfl) Wd Z) (Mb hp Z) Z
 simp
 skip
 refine NM (Zl () ?_ ?_);exact QM (l:=[0,1,5,38,39]) (lH:=[500001,1000006,1500003,1500000]) (kp5 Z Z Z Z Z) (Qa Z (Qa Z (Qa Z (Qa Z Qf)))) Z (QsY (by rw[QfI,if_neg Wc,QFQ];rfl) Wd Z) (Mb hp Z) Z
 simp;intro _ _;refine Qe7 (ι:=Unit) (λ_=>⟨[(0,.ref 1500000 0 0),(1,.int .i64 unit),(5,.int .i64 (w[unit]'hu).cs.length),(38,.int .i64 ((w[unit]'hu).cs.length+1)),(39,.int .i64 j.1)],HW 1000006 1500003 1500000 w ((j.2.1.set unit (Zw hb (w[unit]'hu).cs.length j.1))) hb f ps (B1 j.2.2) (B2 j.2.2)⟩) (λ_=>Y7 w (j.2.1.set unit (Zw hb (w[unit]'hu).cs.length j.1)) unit=true) ?_ ?_
 skip
 refine HC λK C=>Qb Z (Yp Z Z (Qb Z (Qq (g:=66) Z (λh4=>?_) (λh4=>?_))));rw[h4];simp only[qA]at h4;refine Qc Z (Qb Z (Qc Z (Zm Z Z (Qc Z (Qe Z Z (Qc Z (Qr Z Z Z (Qc Z (ZE Z Z Z Wd Wa Wc Z (Qc Z (Qr Z (Xd Z (Q5 Wa Wc)) Z (Qc Z (ZK Z Z (Qh Z Z (Qb Z (Qq (g:=75) Z (λh5=>?_) (λh5=>?_)))))))))))))))));rw[h5];simp only[qA]at h5;refine gn4 Z Z Z Z (Qh Z Z (Qb Z (gn3 Z Z Z (Qy Z (Qy Z (Qy Z (Qy Z (Qy Z (Qy Z (Qy Z (Qy Z (gn2 Z Z (Qy Z (Qy Z (Qy Z (Qy Z (YN Z (Qh Z Z (C _ _ (Xb (kp6 Z Z Z Z Z Z) (LH Z (TP (G5 (QD (JH (kp5 Z Z Z Z Z) (MS λK C=>Q2 Z Z Wb (Qb Z (C _ (Qj (j.1+1,(j.2.1.set unit (Zw hb (w[unit]'hu).cs.length j.1)),j.2.2) ?_ ?_ ?_)))))))))))))))))))))))))))));exact QM (l:=[0,1,5,38,39]) (lH:=[500001,1000006,1500003,1500000]) (kp5 Z Z Z Z Z) (Qa Z (Qa Z (Qa Z (Qa Z Qf)))) Z Z (Mb hp Z) Z;exact⟨Wa,by grind,by grind,Qu4 M G.2.2.2 G.2.2.1 Wa (QoZ Wc Wa Wc)⟩;omega;rw[h5];simp only[qA]at h5;refine Qc Z (Qb Z (Qc Z (Qb Z (Qc Z (RD (Ql4 hp hw hr (x:=j.2.2) (c:=(j.2.1.set unit (Zw hb (w[unit]'hu).cs.length j.1))) Wc hu (Qh9 T G.2.2.1 G.2.1 hu hX.2) Z Z (QgA hp)) (Qc Z (Zp Z (Qh Z Z (Qb Z (Qq (g:=81) Z (λh6=>?_) (λh6=>?_)))))))))));rw[h6];simp only[qA]at h6;refine gn3 Z Z Z (Qy Z (Qy Z (Qy Z (Qy Z (Qy Z (Qy Z (Qy Z (Qy Z (YN Z (YN Z (Qy Z (Qy Z (Qy Z (Qy Z (YN Z (Qh Z Z (C _ _ (Xb (kp6 Z Z Z Z Z Z) (LH Z (TP (G5 (QD (JH (kp5 Z Z Z Z Z) (MS λK C=>Q2 Z Z Wb (Qb Z (C _ (Qj (j.1+1,(j.2.1.set unit (Zw hb (w[unit]'hu).cs.length j.1)),j.2.2) ?_ ?_ ?_)))))))))))))))))))))))))));exact QM (l:=[0,1,5,38,39]) (lH:=[500001,1000006,1500003,1500000]) (kp5 Z Z Z Z Z) (Qa Z (Qa Z (Qa Z (Qa Z Qf)))) Z Z (Mb hp Z) Z;exact⟨Wa,by grind,by grind,Qu4 M G.2.2.2 G.2.2.1 Wa (Qhy h6)⟩;omega;rw[h6];simp only[qA]at h6;refine Qc Z (Qb Z (Qc Z (Jh Z Z (Qc Z (Qb Z (Qq (g:=84) Z (λh7=>?_) (λh7=>?_)))))))
 grind
 rw[h7];simp only[qA]at h7;refine gn4 Z Z Z Z (gn4 Z Z Z Z (Qc Z (Qh Z Z (Qc Z (Qb Z (gn4 Z Z Z Z (Qc Z (Qh Z Z (Qh Z Z (C _ _ (Xb (kp6 Z Z Z Z Z Z) (QaC Z (NM (Zl () ?_ ?_))))))))))))));exact QM (l:=[0,1,5,38,39]) (lH:=[500001,1000006,1500003,1500000]) (kp5 Z Z Z Z Z) (Qa Z (Qa Z (Qa Z (Qa Z Qf)))) Z Z (Mb hp Z) Z
 grind [Qo1]
 rw[h4];simp only[qA]at h4;refine gn4 Z Z Z Z (gn3 Z Z Z (Qh Z Z (Qb Z (Qc Z (Qb Z (Qc Z (Qb Z (Qc Z (RD (Ql4 hp hw hr (x:=j.2.2) (c:=(j.2.1.set unit (Zw hb (w[unit]'hu).cs.length j.1))) Wc hu (Qh9 T G.2.2.1 G.2.1 hu hX.2) Z Z (QgA hp)) (Qc Z (Zp Z (Qh Z Z (Qb Z (Qq (g:=81) Z (λh8=>?_) (λh8=>?_)))))))))))))));rw[h8];simp only[qA]at h8;refine gn3 Z Z Z (Qy Z (Qy Z (Qy Z (Qy Z (Qy Z (Qy Z (Qy Z (Qy Z (YN Z (YN Z (Qy Z (Qy Z (Qy Z (Qy Z (YN Z (Qh Z Z (C _ _ (Xb (kp6 Z Z Z Z Z Z) (LH Z (TP (G5 (QD (JH (kp5 Z Z Z Z Z) (MS λK C=>Q2 Z Z Wb (Qb Z (C _ (Qj (j.1+1,(j.2.1.set unit (Zw hb (w[unit]'hu).cs.length j.1)),j.2.2) ?_ ?_ ?_)))))))))))))))))))))))))));exact QM (l:=[0,1,5,38,39]) (lH:=[500001,1000006,1500003,1500000]) (kp5 Z Z Z Z Z) (Qa Z (Qa Z (Qa Z (Qa Z Qf)))) Z Z (Mb hp Z) Z;exact⟨Wa,by grind,by simp_all [List.take_set_of_le],Qu4 M G.2.2.2 G.2.2.1 Wa (Qhy h8)⟩;omega;rw[h8];simp only[qA]at h8;refine Qc Z (Qb Z (Qc Z (Jh Z Z (Qc Z (Qb Z (Qq (g:=84) Z (λh9=>?_) (λh9=>?_)))))));rw[h9];simp only[qA]at h9;refine Qc Z (Qb Z (Qc Z (Zm Z Z (Qc Z (Qe Z Z (Qc Z (Qr Z Z Z (Qc Z (Qb Z (Qc Z (ZE Z Z Z Wd Wa Wc Z (Qc Z (Qr Z (Xd Z (QH Wc)) Z (Qc Z (Gw Z Z (Qc Z (Qh Z Z (Qc Z (Qb Z (Qq (g:=94) Z (λO=>?_) (λO=>?_)))))))))))))))))))));rw[O];simp only[qA]at O;refine Qc Z (Qb Z (Qc Z (Qb Z (Qc Z (RD (Qzd hp hw hr (x:=j.2.2) (c:=(j.2.1.set unit (Zw hb (w[unit]'hu).cs.length j.1))) Wc hu O (Qh9 T G.2.2.1 G.2.1 hu hX.2 unit hu Wc (QEI _)) Z Z (QgA hp)) (Qc Z (Zp Z (Qc Z (Qh Z Z (Qh Z Z (C _ _ (Xb (kp6 Z Z Z Z Z Z) (Py Z (λV=>?_) (λV=>?_))))))))))))));rw[V];simp only[qA]at V;refine TP (G5 (QD (JH (kp5 Z Z Z Z Z) (MS λK C=>Q2 Z Z Wb (Qb Z (C _ (Qj (j.1+1,(j.2.1.set unit (Zw hb (w[unit]'hu).cs.length j.1)),j.2.2) ?_ ?_ ?_)))))));exact QM (l:=[0,1,5,38,39]) (lH:=[500001,1000006,1500003,1500000]) (kp5 Z Z Z Z Z) (Qa Z (Qa Z (Qa Z (Qa Z Qf)))) Z Z (Mb hp Z) Z;exact⟨Wa,by grind,by simp_all [List.take_set_of_le],Qu4 M G.2.2.2 G.2.2.1 Wa (Qo0 Wc Wa O V)⟩;omega;rw[V];simp only[qA]at V;refine NM (Zl () ?_ ?_);exact QM (l:=[0,1,5,38,39]) (lH:=[500001,1000006,1500003,1500000]) (kp5 Z Z Z Z Z) (Qa Z (Qa Z (Qa Z (Qa Z Qf)))) Z Z (Mb hp Z) Z
 grind [Qo3]
 rw[O];simp only[qA]at O;refine gn4 Z Z Z Z (Qc Z (Qh Z Z (Qh Z Z (C _ _ (Xb (kp6 Z Z Z Z Z Z) (QaC Z (NM (Zl () ?_ ?_))))))));exact QM (l:=[0,1,5,38,39]) (lH:=[500001,1000006,1500003,1500000]) (kp5 Z Z Z Z Z) (Qa Z (Qa Z (Qa Z (Qa Z Qf)))) Z Z (Mb hp Z) Z
 grind [Qo2]
 grind
 intro _ hP;obtain⟨d2,H2,⟨c2,hc2,hc2t,rfl,rfl⟩,Y⟩:=ih (j.2.1.set unit (Zw hb (w[unit]'hu).cs.length j.1)) j.2.2 Wc (by rw[FL G.2.2.1 Wa];exact T.push Wa Wc (by grind [Rt])) (by rw[FL G.2.2.1 Wa,<- QmF M (by grind [Rt])];exact QtP (F:=λi=>subW w hb ((YF w).drop (unit+1)) q (Zw hb (w[unit]'hu).cs.length i)) Wa G.2.2.2 hok)
 rw[FL G.2.2.1 Wa,<- QmF M (by grind [Rt])]at Y;obtain⟨t2,ht2⟩:∃t,(YY p j.2.2 (subW w hb ((YF w).drop (unit+1)) q (Zw hb (w[unit]'hu).cs.length j.1))).2=t:=⟨_,rfl⟩;rw[ht2]at Y
 (refine Qm1 λK C=>Qna (l:=[_,_,_]) ?_)
 refine mv2 Z Z (Q2 Z Z (Qn Wa Wa) (Qaz ?_))
 (refine Pl (s':=⟨[(0,.ref 1500000 0 0),(1,.int .i64 unit),(5,.int .i64 (w[unit]'hu).cs.length),(38,.int .i64 ((w[unit]'hu).cs.length+1)),(39,.int .i64 j.1),(101,.ref 1500000 0 0),(103,.int .i64 (unit+1))],HW 1000006 1500003 1500000 w ((j.2.1.set unit (Zw hb (w[unit]'hu).cs.length j.1))) hb f ps (B1 j.2.2) (B2 j.2.2)⟩) (QM (l:=[0,1,5,38,39,101,103]) (lH:=[500001,1000006,1500003,1500000]) (kp7 rfl rfl rfl rfl rfl rfl rfl) (Qa rfl (Qa rfl (Qa rfl (Qa rfl Qf)))) rfl rfl (Mb hp rfl) rfl) ?_)
 (refine QiV hp rfl Y rfl rfl ?_)
 (refine QrZ ?_)
 refine Zp Z (C _ _ (Xb (kp6 Z Z Z Z Z Z) (Py Z (λU=>?_) (λU=>?_))));rw[U];simp only[qA]at U;refine HC λK C=>Qb Z (C _ _ (Xb (kp1 Z) (Qm7 (Qm (QdA (QQ (Qm (QdA ?_))))))));exact QdK hp hc2 (Qaj M (hc2t.trans (FL G.2.2.1 Wa))) (by grind [Qpl]) Z Z;rw[U];simp only[qA]at U;refine NM (Qk (JH (kp5 Z Z Z Z Z) (MS λK C=>Q2 Z Z Wb (Qb Z (C _ (Qj (j.1+1,c2,(YY p j.2.2 (subW w hb ((YF w).drop (unit+1)) q (Zw hb (w[unit]'hu).cs.length j.1))).1) ?_ ?_ ?_))))));exact QM (l:=[0,1,5,38,39]) (lH:=[500001,1000006,1500003,1500000]) (kp5 Z Z Z Z Z) (Qa Z (Qa Z (Qa Z (Qa Z Qf)))) Z Z (Mb hp Z) Z;exact⟨Wa,hc2,Qaj M (hc2t.trans (FL G.2.2.1 Wa)),QBU G.2.2.2 (ht2.trans U)⟩;omega;rw[h2];simp only[qA]at h2;refine TP (Qh8 (Qx (QD (JH (QL) (HC λK C=>Qb Z (C _ _ (Xb (kp1 Z) (Qm7 ?_))))))));exact QdK hp G.2.1 G.2.2.1 Wc Z Z
theorem HG {w:Ql} (hw:WSm w) (hr:WIn w) {hb:Bool} {f et:Nat} {ps:List D}:o7 Tryz.prog 74 [Q9 w,.bool hb,.w8 f 1000006 ps,gD] [(1000006,⟨[[.u7 []]],1,et,true⟩)] (.ref 500000 0 0) [(500000,⟨[[ZQ w,.u4 500003 w.length,.bool hb,.w8 f 1000006 ps]],4,179,false⟩),(500003,⟨(List.replicate w.length 0).map rI,1,3,true⟩),(1000006,⟨[[.u7 []]],1,et,true⟩)]:=by
 have hwl:=hw.len;refine o7.b9 (ds:=[Q9 w,.bool hb,.w8 f 1000006 ps]) (dg:=gD) tfol Tryz.func74 QDZ (QEi Z) ?_ ?_ ?_
 grind [lk]
 ·intro k b h;simp only[Qz]at h;(repeat' split at h)<;>first |(cases h;subst_vars;refine⟨Wa,λj V=>?_⟩;simp[x4.ids,D.y4]at V;done) |(cases h;subst_vars;refine⟨Wa,λj V=>?_⟩;simp[x4.ids,D.y4,ZQ]at V;rcases V with rfl |rfl<;>rfl) |cases h
 show TW _ _ tf74.body _ _;refine Qd λK C=>Zu Z Z Z (Qb Z (kc4 C Z Z Z Z (Qd λK C=>mv2 Z Z (Qe Z Z (Qr Z Z Z (QW Z QE (RF Z Z Z Wa Wa Wa (Zz Z Z (Zu Z Z Z (Qb Z (kc3 C Z Z Z (Qw (Qd λK C=>Qe Z Z (Qr Z Z Z (QW Z QE (Qb Z (kc6 C Z Z Z Z Z Z (Qu (Q8 (ι:=Nat) (λi=>⟨[(3,.ref 3 0 0),(7,.ref 28 0 0),(30,.sl (w.map Zv)),(31,.int .i64 w.length),(32,.int .i64 i),(900000,gD)],[(3,⟨[[.sl (w.map Zv)]],1,25,true⟩),(26,⟨List.replicate w.length [.int .i64 0],1,3,true⟩),(28,⟨[[.u4 100 (w.take i).length,.u4 26 w.length,.bool hb,.w8 f 1000006 ps]],4,179,false⟩),(100,⟨(w.take i).map (λu=>[Hk w u]),1,180,true⟩),(1000006,⟨[[.u7 []]],1,et,true⟩)]⟩) (λi=>i<=w.length) (λi=>w.length - i) 0 ?_ ?_ ?_)))))))))))))))))));exact le_trans (XD 28 0 100 1 180 Z Z Z Z) (QM (l:=[3,7,30,31,32,900000]) (lH:=[3,26,28,100,1000006]) (kp6 Z Z Z Z Z Z) (Qa Z (Qa Z (Qa Z (Qa Z (Qa Z Qf))))) Z Z Z);omega;intro i hI;have hlen:(w.take i).length=i:=by grind
 have hcu:=λ(h:i<w.length)=>hw.cs _ (QEn h);refine Qd λK C=>ZK Z Z (kc7 C Z Z Z Z Z Z Z (Qw (Qs Z (λU=>?_) (λU=>?_))));rw[U];simp only[qA]at U;refine Qp (ks6 Z Z Z Z Z Z (Qw (Qu (Qd λK C=>Qt Z Z Z Wa (QH Wa) Z (QB (cs:=[_,_,_]) Z Z Z Z (Zk Z (Za Z Z Z Z Z Z Z Z (kc7 C Z Z Z Z Z Z Z (Qd λK C=>Qb Z (kc8 C Z Z Z Z Z Z Z Z (Qw (Qd λK C=>Qe Z Z (Qr Z Z Z (QW Z QE (Qb Z (kc C (GI Z Z Z Z Z Z Z Z Z Z) (Qu ?_)))))))))))))))));have hcu1:=hcu Wa;refine Q8 (ι:=Nat) (λk=>⟨[(3,.ref 3 0 0),(7,.ref 28 0 0),(10,.u4 10 ((w[i]'Wa).cs.take k).length),(30,.sl (w.map Zv)),(31,.int .i64 w.length),(32,.int .i64 i),(37,G0 (w[i]'Wa).cs),(38,.int .i64 (w[i]'Wa).cs.length),(39,.int .i64 k),(900000,gD)],[(3,⟨[[.sl (w.map Zv)]],1,25,true⟩),(10,⟨((w[i]'Wa).cs.take k).map (QfS w),2,184,true⟩),(26,⟨List.replicate w.length [.int .i64 0],1,3,true⟩),(28,⟨[[.u4 100 (w.take i).length,.u4 26 w.length,.bool hb,.w8 f 1000006 ps]],4,179,false⟩),(100,⟨(w.take i).map (λu=>[Hk w u]),1,180,true⟩),(1000006,⟨[[.u7 []]],1,et,true⟩)]⟩) (λk=>k<=(w[i]'Wa).cs.length) (λk=>(w[i]'Wa).cs.length - k) 0 ?_ ?_ ?_;exact le_trans (Z1 10 10 2 184 Z Z) (QM (l:=[3,7,10,30,31,32,37,38,39,900000]) (lH:=[3,10,26,28,100,1000006]) (GI Z Z Z Z Z Z Z Z Z Z) (Qa Z (Qa Z (Qa Z (Qa Z (Qa Z (Qa Z Qf)))))) Z Z Z);omega;intro k hK1;have hlen2:((w[i]'Wa).cs.take k).length=k:=by grind
 have hns:=λ(h:k<(w[i]'Wa).cs.length)=>hw.ns _ (QEn (Wa:i<w.length)) _ (QEn h);have hnl:=λ(h:k<(w[i]'Wa).cs.length)=>hw.nl _ (QEn (Wa:i<w.length)) _ (QEn h);refine Qd λK C=>ZK Z Z (kc C (HA Z Z Z Z Z Z Z Z Z Z Z) (Qw (Qs Z (λT=>?_) (λT=>?_))));rw[T];simp only[qA]at T;refine Qp (QK (GI Z Z Z Z Z Z Z Z Z Z) (Qw (Qu (Qd λK C=>Qt Z Z Z Wa (QH Wa) Z (QB (cs:=[_,_,_,_,_,_,_,_]) Z Z Z Z (Zk Z (Za Z Z Z Z Z Z Z Z (kc C (HA Z Z Z Z Z Z Z Z Z Z Z) (Qd λK C=>Zk Z (kc C (FD Z Z Z Z Z Z Z Z Z Z Z Z) (Qw (Qd λK C=>Qe Z Z (Qr Z Z Z (QW Z QE (Qb Z (kc C (Qav Z Z Z Z Z Z Z Z Z Z Z Z Z Z Z) (Qu ?_)))))))))))))))));have hns1:=hns Wa;refine Q8 (ι:=Nat) (λa=>⟨[(3,.ref 3 0 0),(7,.ref 28 0 0),(10,.u4 10 ((w[i]'Wa).cs.take k).length),(12,.ref 12 0 0),(13,.ref 13 0 0),(30,.sl (w.map Zv)),(31,.int .i64 w.length),(32,.int .i64 i),(37,G0 (w[i]'Wa).cs),(38,.int .i64 (w[i]'Wa).cs.length),(39,.int .i64 k),(44,Ky ((w[i]'Wa).cs[k]'Wa).ns),(45,.int .i64 ((w[i]'Wa).cs[k]'Wa).ns.length),(46,.int .i64 a),(900000,gD)],[(3,⟨[[.sl (w.map Zv)]],1,25,true⟩),(10,⟨((w[i]'Wa).cs.take k).map (QfS w),2,184,true⟩),(12,⟨[Jm ((w[i]'Wa).cs[k]'Wa)],8,70,true⟩),(13,⟨[[.u4 101 (((w[i]'Wa).cs[k]'Wa).ns.take a).length,.u7 []]],2,184,false⟩),(26,⟨List.replicate w.length [.int .i64 0],1,3,true⟩),(28,⟨[[.u4 100 (w.take i).length,.u4 26 w.length,.bool hb,.w8 f 1000006 ps]],4,179,false⟩),(100,⟨(w.take i).map (λu=>[Hk w u]),1,180,true⟩),(101,⟨(((w[i]'Wa).cs[k]'Wa).ns.take a).map (λr=>[Tz w r]),1,182,true⟩),(1000006,⟨[[.u7 []]],1,et,true⟩)]⟩) (λa=>a<=((w[i]'Wa).cs[k]'Wa).ns.length) (λa=>((w[i]'Wa).cs[k]'Wa).ns.length - a) 0 ?_ ?_ ?_;exact le_trans (XD 13 0 101 1 182 Z Z Z Z) (QM (l:=[3,7,10,12,13,30,31,32,37,38,39,44,45,46,900000]) (lH:=[3,10,12,13,26,28,100,101,1000006]) (Qav Z Z Z Z Z Z Z Z Z Z Z Z Z Z Z) (Qa Z (Qa Z (Qa Z (Qa Z (Qa Z (Qa Z (Qa Z (Qa Z (Qa Z Qf))))))))) Z Z Z);omega;intro a hA;have hlen3:(((w[i]'Wa).cs[k]'Wa).ns.take a).length=a:=by grind
 have Y:=λ(h:a<((w[i]'Wa).cs[k]'Wa).ns.length)=>hnl Wa _ (QEn h);refine Qd λK C=>ZK Z Z (kc C (Ql9 Z Z Z Z Z Z Z Z Z Z Z Z Z Z Z Z) (Qw (Qs Z (λO=>?_) (λO=>?_))));rw[O];simp only[qA]at O;refine Qp (QK (Qav Z Z Z Z Z Z Z Z Z Z Z Z Z Z Z) (Qw (Qu (Qd λK C=>Qt Z Z Z Wa (QH Wa) Z (Qr Z Z Z (Qb Z (kc C (Ql9 Z Z Z Z Z Z Z Z Z Z Z Z Z Z Z Z) (Qd λK C=>Qb Z (kc C (Qzu Z Z Z Z Z Z Z Z Z Z Z Z Z Z Z Z Z) (Qw (Qd λK C=>Qb Z (QW Z QE (Qb Z (kc C (QrA Z Z Z Z Z Z Z Z Z Z Z Z Z Z Z Z Z Z Z) (Qu ?_)))))))))))))));have hrl1:=Y Wa;refine Q8 (ι:=Nat) (λb=>⟨[(3,.ref 3 0 0),(7,.ref 28 0 0),(10,.u4 10 ((w[i]'Wa).cs.take k).length),(12,.ref 12 0 0),(13,.ref 13 0 0),(16,.u4 16 ((((w[i]'Wa).cs[k]'Wa).ns[a]'Wa).take b).length),(30,.sl (w.map Zv)),(31,.int .i64 w.length),(32,.int .i64 i),(37,G0 (w[i]'Wa).cs),(38,.int .i64 (w[i]'Wa).cs.length),(39,.int .i64 k),(44,Ky ((w[i]'Wa).cs[k]'Wa).ns),(45,.int .i64 ((w[i]'Wa).cs[k]'Wa).ns.length),(46,.int .i64 a),(50,Yg (((w[i]'Wa).cs[k]'Wa).ns[a]'Wa)),(51,.int .i64 (((w[i]'Wa).cs[k]'Wa).ns[a]'Wa).length),(52,.int .i64 b),(900000,gD)],[(3,⟨[[.sl (w.map Zv)]],1,25,true⟩),(10,⟨((w[i]'Wa).cs.take k).map (QfS w),2,184,true⟩),(12,⟨[Jm ((w[i]'Wa).cs[k]'Wa)],8,70,true⟩),(13,⟨[[.u4 101 (((w[i]'Wa).cs[k]'Wa).ns.take a).length,.u7 []]],2,184,false⟩),(16,⟨((((w[i]'Wa).cs[k]'Wa).ns[a]'Wa).take b).map (dWk w),2,186,true⟩),(26,⟨List.replicate w.length [.int .i64 0],1,3,true⟩),(28,⟨[[.u4 100 (w.take i).length,.u4 26 w.length,.bool hb,.w8 f 1000006 ps]],4,179,false⟩),(100,⟨(w.take i).map (λu=>[Hk w u]),1,180,true⟩),(101,⟨(((w[i]'Wa).cs[k]'Wa).ns.take a).map (λr=>[Tz w r]),1,182,true⟩),(1000006,⟨[[.u7 []]],1,et,true⟩)]⟩) (λb=>b<=(((w[i]'Wa).cs[k]'Wa).ns[a]'Wa).length) (λb=>(((w[i]'Wa).cs[k]'Wa).ns[a]'Wa).length - b) 0 ?_ ?_ ?_;exact le_trans (Z1 16 16 2 186 Z Z) (QM (l:=[3,7,10,12,13,16,30,31,32,37,38,39,44,45,46,50,51,52,900000]) (lH:=[3,10,12,13,16,26,28,100,101,1000006]) (QrA Z Z Z Z Z Z Z Z Z Z Z Z Z Z Z Z Z Z Z) (Qa Z (Qa Z (Qa Z (Qa Z (Qa Z (Qa Z (Qa Z (Qa Z (Qa Z (Qa Z Qf)))))))))) Z Z Z);omega;intro b hB;have hlen4:((((w[i]'Wa).cs[k]'Wa).ns[a]'Wa).take b).length=b:=by grind
 refine Qd λK C=>ZK Z Z (kc C (Qzv Z Z Z Z Z Z Z Z Z Z Z Z Z Z Z Z Z Z Z Z) (Qw (Qs Z (λM=>?_) (λM=>?_))));rw[M];simp only[qA]at M;refine Qp (QK (QrA Z Z Z Z Z Z Z Z Z Z Z Z Z Z Z Z Z Z Z) (Qw (Qu (Qd λK C=>Qt Z Z Z Wa (QH Wa) Z (QB (cs:=[_,_,_]) Z Z Z Z (Zk Z (Za Z Z Z Z Z Z Z Z (kc C (Qzv Z Z Z Z Z Z Z Z Z Z Z Z Z Z Z Z Z Z Z Z) (QJ λK C=>Qb Z (QB (cs:=[_]) Z Z Z Z (QB (cs:=[_,_,_]) Z Z Z Z (QA (TU hw (hr.nr _ (QEn (Wa:i<w.length)) _ (QEn (Wa:k<(w[i]'Wa).cs.length)) _ (QEn (Wa:a<((w[i]'Wa).cs[k]'Wa).ns.length)) _ (QEn (Wa:b<(((w[i]'Wa).cs[k]'Wa).ns[a]'Wa).length))) (hw.nw _ (QEn (Wa:i<w.length)) _ (QEn (Wa:k<(w[i]'Wa).cs.length)) _ (QEn (Wa:a<((w[i]'Wa).cs[k]'Wa).ns.length)) _ (QEn (Wa:b<(((w[i]'Wa).cs[k]'Wa).ns[a]'Wa).length)))) Z Z (.inl Z) (QZ Z Z (Yl Z Z (λ_ h=>YZ Z Z Z h) Z Wd Z Z Z Wc Wc (Qb Z (C _ (Qk (QK (QrA Z Z Z Z Z Z Z Z Z Z Z Z Z Z Z Z Z Z Z) (QJ λK C=>Q2 Z Z Wb (Qb Z (C _ (Qj (b+1) ?_ ?_ ?_))))))))))))))))))))));exact QM (l:=[3,7,10,12,13,16,30,31,32,37,38,39,44,45,46,50,51,52,900000]) (lH:=[3,10,12,13,16,26,28,100,101,1000006]) (QrA Z Z Z Z Z Z Z Z Z Z Z Z Z Z Z Z Z Z Z) (Qa Z (Qa Z (Qa Z (Qa Z (Qa Z (Qa Z (Qa Z (Qa Z (Qa Z (Qa Z Qf)))))))))) (by rw[FO (Wa:b<(((w[i]'Wa).cs[k]'Wa).ns[a]'Wa).length)]<;>rfl) (by rw[Jb (Wa:b<(((w[i]'Wa).cs[k]'Wa).ns[a]'Wa).length)]<;>rfl) Z
 omega;omega;rw[M];simp only[qA]at M;refine Q3 (QF (Qx (QD (QK (Ql9 Z Z Z Z Z Z Z Z Z Z Z Z Z Z Z Z) (MO (Mf (l:=[3,7,10,12,13,30,31,32,37,38,39,44,45,46,900000]) (lH:=[3,26,28,100,1000006,10,12,13,101]) 16 16 (Qav Z Z Z Z Z Z Z Z Z Z Z Z Z Z Z) (Qa Z (Qa Z (Qa Z (Qa Z (Qa Z (Qa Z (Qa Z (Qa Z (Qa Z Qf))))))))) Z Z Z Wd Z Z Z Z) (QJ λK C=>Qe Z Z (Qr Z Z Z (Qb Z (QZ Z Z (Yl Z Z (λ_ h=>YZ Z Z Z h) Z Wd Z Z Z Wc Wc (Qe Z Z (Za Z Z Z Z Z Z Z Z (C _ (Qk (QK (Qav Z Z Z Z Z Z Z Z Z Z Z Z Z Z Z) (QJ λK C=>Q2 Z Z Wb (Qb Z (C _ (Qj (a+1) ?_ ?_ ?_)))))))))))))))))));exact QM (l:=[3,7,10,12,13,30,31,32,37,38,39,44,45,46,900000]) (lH:=[3,10,12,13,26,28,100,101,1000006]) (Qav Z Z Z Z Z Z Z Z Z Z Z Z Z Z Z) (Qa Z (Qa Z (Qa Z (Qa Z (Qa Z (Qa Z (Qa Z (Qa Z (Qa Z Qf))))))))) Z (by rw[FO (Wa:a<((w[i]'Wa).cs[k]'Wa).ns.length),Jb (Wa:a<((w[i]'Wa).cs[k]'Wa).ns.length),QEy (Wa:(((w[i]'Wa).cs[k]'Wa).ns[a]'Wa).length<=b)]<;>rfl) Z
 omega;omega;rw[O];simp only[qA]at O;refine Q3 (QF (Qx (QD (QK (FD Z Z Z Z Z Z Z Z Z Z Z Z) (Qw (Qd λK C=>Qe Z Z (Qr Z Z Z (QW Z QE (Qb Z (kc C (Qkn Z Z Z Z Z Z Z Z Z Z Z Z Z Z) (Qu (Q8 (ι:=Nat) (λm=>⟨[(3,.ref 3 0 0),(7,.ref 28 0 0),(10,.u4 10 ((w[i]'Wa).cs.take k).length),(13,.ref 13 0 0),(30,.sl (w.map Zv)),(31,.int .i64 w.length),(32,.int .i64 i),(37,G0 (w[i]'Wa).cs),(38,.int .i64 (w[i]'Wa).cs.length),(39,.int .i64 k),(71,Yg ((w[i]'Wa).cs[k]'Wa).bs),(72,.int .i64 ((w[i]'Wa).cs[k]'Wa).bs.length),(73,.int .i64 m),(900000,gD)],[(3,⟨[[.sl (w.map Zv)]],1,25,true⟩),(10,⟨((w[i]'Wa).cs.take k).map (QfS w),2,184,true⟩),(13,⟨[[.u4 101 (((w[i]'Wa).cs[k]'Wa).ns.take a).length,.u4 102 (((w[i]'Wa).cs[k]'Wa).bs.take m).length]],2,184,false⟩),(26,⟨List.replicate w.length [.int .i64 0],1,3,true⟩),(28,⟨[[.u4 100 (w.take i).length,.u4 26 w.length,.bool hb,.w8 f 1000006 ps]],4,179,false⟩),(100,⟨(w.take i).map (λu=>[Hk w u]),1,180,true⟩),(101,⟨(((w[i]'Wa).cs[k]'Wa).ns.take a).map (λr=>[Tz w r]),1,182,true⟩),(102,⟨(((w[i]'Wa).cs[k]'Wa).bs.take m).map (dWk w),2,186,true⟩),(1000006,⟨[[.u7 []]],1,et,true⟩)]⟩) (λm=>m<=((w[i]'Wa).cs[k]'Wa).bs.length) (λm=>((w[i]'Wa).cs[k]'Wa).bs.length - m) 0 ?_ ?_ ?_))))))))))));exact le_trans (XD 13 1 102 2 186 Z Z Z Z) (QM (l:=[3,7,10,13,30,31,32,37,38,39,71,72,73,900000]) (lH:=[3,10,13,26,28,100,101,102,1000006]) (Qkn Z Z Z Z Z Z Z Z Z Z Z Z Z Z) (Qa Z (Qa Z (Qa Z (Qa Z (Qa Z (Qa Z (Qa Z (Qa Z (Qa Z Qf))))))))) Z Z Z);omega;intro m hM;have hlen5:(((w[i]'Wa).cs[k]'Wa).bs.take m).length=m:=by grind
 refine Qd λK C=>ZK Z Z (kc C (Qav Z Z Z Z Z Z Z Z Z Z Z Z Z Z Z) (Qw (Qs Z (λG=>?_) (λG=>?_))));rw[G];simp only[qA]at G;refine Qp (QK (Qkn Z Z Z Z Z Z Z Z Z Z Z Z Z Z) (Qw (Qu (Qd λK C=>Qt Z Z Z Wa (QH Wa) Z (QB (cs:=[_,_,_]) Z Z Z Z (Zk Z (Za Z Z Z Z Z Z Z Z (kc C (Qav Z Z Z Z Z Z Z Z Z Z Z Z Z Z Z) (QJ λK C=>Qe Z Z (QG (ds0:=[2,0,0]) Z Z Z Z Z (QY (ds0:=[4,3,2,0,0]) (cs:=[_]) Z Z Z Z Z Z (QY (ds0:=[4,3,2,0,0]) (cs:=[_,_,_]) Z Z Z Z Z Z (Zi (ds0:=[3,2,0]) (TU hw (hr.bw _ (QEn (Wa:i<w.length)) _ (QEn (Wa:k<(w[i]'Wa).cs.length)) _ (QEn (Wa:m<((w[i]'Wa).cs[k]'Wa).bs.length))) (hw.bw _ (QEn (Wa:i<w.length)) _ (QEn (Wa:k<(w[i]'Wa).cs.length)) _ (QEn (Wa:m<((w[i]'Wa).cs[k]'Wa).bs.length)))) Z Z (.inl Z) Z Z (QZ Z Z (Jg (ds0:=[0]) Z Z Wf ⟨_,rfl,rfl,rfl,rfl,rfl⟩ Z Z Wd Z Z Wc Wc Z Z (Qe Z Z (YR (ds0:=[]) Z Z Z Z Z Z Z Z Z Z (C _ (Qk (QK (Qkn Z Z Z Z Z Z Z Z Z Z Z Z Z Z) (QJ λK C=>Q2 Z Z Wb (Qb Z (C _ (Qj (m+1) ?_ ?_ ?_))))))))))))))))))))))));exact le_trans (Mg (l:=[3,7,30,31,32,37,38,39,900000,10,13,71,72,73]) (lH:=[3,26,28,100,1000006,10,101]) 83 102 13 (Qkn Z Z Z Z Z Z Z Z Z Z Z Z Z Z) (Qa Z (Qa Z (Qa Z (Qa Z (Qa Z (Qa Z (Qa Z Qf))))))) Z Z Z Z Z Z Z Z) (QM (l:=[3,7,10,13,30,31,32,37,38,39,71,72,73,900000]) (lH:=[3,10,13,26,28,100,101,102,1000006]) (Qkn Z Z Z Z Z Z Z Z Z Z Z Z Z Z) (Qa Z (Qa Z (Qa Z (Qa Z (Qa Z (Qa Z (Qa Z (Qa Z (Qa Z Qf))))))))) Z (by rw[FO (Wa:m<((w[i]'Wa).cs[k]'Wa).bs.length),Jb (Wa:m<((w[i]'Wa).cs[k]'Wa).bs.length)]<;>rfl) Z)
 omega;omega;rw[G];simp only[qA]at G;refine Q3 (QF (Qx (QD (QK (HA Z Z Z Z Z Z Z Z Z Z Z) (MO (le_trans (Dl (l:=[3,7,30,31,32,37,38,39,900000,10,13]) (lH:=[3,26,28,100,1000006,10,102]) 101 13 0 (HA Z Z Z Z Z Z Z Z Z Z Z) (Qa Z (Qa Z (Qa Z (Qa Z (Qa Z (Qa Z (Qa Z Qf))))))) Z Z Wd Z Z Z Z Z Z Z Z) (Dl (l:=[3,7,30,31,32,37,38,39,900000,10,13]) (lH:=[3,26,28,100,1000006,10]) 102 13 1 (HA Z Z Z Z Z Z Z Z Z Z Z) (Qa Z (Qa Z (Qa Z (Qa Z (Qa Z (Qa Z Qf)))))) Z Z Wd Z Z Z Z Z Z Z Z)) (QJ λK C=>Qb Z (QB (cs:=[_,_]) Z Z Z Z (QZ Z Z (Yl Z Z (λ_ h=>YZ Z Z Z h) Z Wd Z Z Z Wc Wc (Qb Z (C _ (Qk (QK (GI Z Z Z Z Z Z Z Z Z Z) (QJ λK C=>Q2 Z Z Wb (Qb Z (C _ (Qj (k+1) ?_ ?_ ?_)))))))))))))))));exact QM (l:=[3,7,10,30,31,32,37,38,39,900000]) (lH:=[3,10,26,28,100,1000006]) (GI Z Z Z Z Z Z Z Z Z Z) (Qa Z (Qa Z (Qa Z (Qa Z (Qa Z (Qa Z Qf)))))) (by rw[FO (Wa:k<(w[i]'Wa).cs.length)]<;>rfl) (by rw[Jb (Wa:k<(w[i]'Wa).cs.length),QEy (Wa:((w[i]'Wa).cs[k]'Wa).ns.length<=a),QEy (Wa:((w[i]'Wa).cs[k]'Wa).bs.length<=m)]<;>rfl) Z
 omega;omega;rw[T];simp only[qA]at T;refine Q3 (QF (Qx (QD (ks7 Z Z Z Z Z Z Z (MO (Mf (l:=[3,7,30,31,32,900000]) (lH:=[3,26,28,100,1000006]) 10 10 (kp6 Z Z Z Z Z Z) (Qa Z (Qa Z (Qa Z (Qa Z (Qa Z Qf))))) Z Z Z Wd Z Z Z Z) (QJ λK C=>mv2 Z Z (Zm Z Z (Qe Z Z (Qr Z Z Z (Qb Z (QZ Z Z (Yl Z Z (λ_ h=>YZ Z Z Z h) Z Wd Z Z Z Wc Wc (Zm Z Z (Qe Z Z (Za Z Z Z Z Z Z Z Z (C _ (Qk (ks6 Z Z Z Z Z Z (QJ λK C=>Q2 Z Z Wb (Qb Z (C _ (Qj (i+1) ?_ ?_ ?_))))))))))))))))))))));exact QM (l:=[3,7,30,31,32,900000]) (lH:=[3,26,28,100,1000006]) (kp6 Z Z Z Z Z Z) (Qa Z (Qa Z (Qa Z (Qa Z (Qa Z Qf))))) Z (by rw[FO (Wa:i<w.length),Jb (Wa:i<w.length),QEy (Wa:(w[i]'Wa).cs.length<=k)]<;>rfl) Z
 omega;omega;rw[U];simp only[qA]at U;refine Q3 (QF (Qx (QD (ks1 Z (MO (le_trans (Dl (l:=[7]) (lH:=[26,1000006]) 100 28 0 (kp1 Z) (Qa Z (Qa Z Qf)) Z Z Wd Z Z Z Z Z Z Z Z) (le_trans (Hm 28 500000 We We _) (le_trans (Hm 26 500003 We We _) (QM (fr':=[(7,.ref 500000 0 0)]) (H':=[(500000,⟨[[ZQ w,.u4 500003 w.length,.bool hb,.w8 f 1000006 ps]],4,179,false⟩),(500003,⟨(List.replicate w.length 0).map rI,1,3,true⟩),(1000006,⟨[[.u7 []]],1,et,true⟩)]) (l:=[7]) (lH:=[500000,500003,1000006]) (kp1 Z) (Qa Z (Qa Z (Qa Z Qf))) Z (by rw[QEy (Wa:w.length<=i)];simp only[x4.u5,QEW,QFx,List.set_cons_zero,D.y6,QFV];rfl) Z Z)))) (Qd λK C=>mv2 Z Z (kc1 C Z ?_)))))))
 refine Qv ?_;exact Yz Z Z λk b h=>h
variable {most:Int} {w:Ql}
theorem Ci {σ:Type} {w:Ql} {hb:Bool} {p:PZ σ} {B1 B2:σ->x4} {f:Nat} {ps:List D} (hp:s9 w hb p B1 B2 f ps) (hw:WSm w) (hr:WIn w) (h0:0<w.length):∀(k unit:Nat) (cur:List Int) (s:σ),unit+k=w.length->cur.length=w.length->va w (cur.take unit)->p.ok s (listW w hb ((YF w).drop unit) (cur.take unit)).length->Qm6 w hb p B1 B2 f ps unit cur s
 |0,unit,cur,s,hu,hcl,hq,hok=>by
  grind [QiU]
 |k+1,unit,cur,s,hu,hcl,hq,hok=>
  Kb hp hw hr Wa hcl rfl hq hok λcur s M G C=>Ci hp hw hr h0 k (unit+1) cur s Wa M G C
theorem Qo8:s9 w false (pA most) (λs=>bA1 s) (λs=>bA2 s) 75 [.ptr [.int .i64 most]] where
 p1 _:=rfl
 s1 s r hr d hd:=by
  obtain⟨c,_,rfl⟩:=QEw.1 hr;simp[rL]at hd;subst hd;rfl
 s2 s r hr d hd j hj:=by
  (repeat clear hK K);simp_all [D.y4]
 cap:=rfl
 u5 _:=rfl
 ids d hd:=by simp at hd;subst hd;rfl
 ok s cur c h:=by
  by_cases hm:most<=s.length
  (repeat clear hK K);simp_all [pA,Qfx]
  have e:(pA most).st s c=(s++[c],true):=if_neg hm;rw[e];refine QdY hm ?_;have C:s.length+1<=1048576:=h;omega
def pF:PZ (Option (List Int)) where
 st _ c:=(some c,false)
 ok _ _:=True
 step _:=trivial
 mono _ _:=trivial
theorem Ht:s9 w true pF (λ_=>bF1) (λs=>bF2 s) 77 [] where
 p1 _:=rfl
 s1 s r hr d hd:=by grind
 s2 s r hr d hd j hj:=by
  grind [D.y4,Q0]
 cap:=rfl
 u5 _:=rfl
 ids d hd:=by grind
 ok s cur c h:=Qsh
theorem QzC (w:Ql):va w ((List.replicate w.length (0:Int)).take 0):=va.nil w
theorem Qfu (hwr:Xc w) (hm:v8 w) (U:(allW w).length<=1048576):Ok Tryz.prog 42 [Q9 w,.int .i64 most,gD] (.g8 [F4 (YY (pA most) [] (allW w)).1,.bool (YY (pA most) [] (allW w)).2]):=by
 have O:=hm.val hwr;have hw:=O.ud;have hr:=O.se;have h0:0<w.length:=O.len.1;obtain⟨d,H',⟨c',T,_,rfl,rfl⟩,M⟩:=Ci (Qo8 (w:=w) (most:=most)) hw hr h0 w.length 0 (List.replicate w.length 0) [] Wa Wd (QzC w) (by rw[QFh];show _+_<=_;grind [allW])
 rw[QFh,List.take_zero]at M;change o7 Tryz.prog 76 _ _ (.bool (YY (pA most) [] (allW w)).2) (HW 1000006 1500003 1500000 w c' false 75 [.ptr [.int .i64 most]] (bA1 (YY (pA most) [] (allW w)).1) (bA2 (YY (pA most) [] (allW w)).1))at M;refine Ok.b9 (ds:=[Q9 w,.int .i64 most]) (dg:=gD) tfol Tryz.func42 QzR (QEi rfl) ?_;show TW _ _ tf42.body _ _;refine Qd λK C=>?_;refine Zu rfl rfl rfl (Zu rfl rfl rfl (Qb rfl (Qb rfl (C _ _ (Zt (Qo rfl (Qo rfl (Qo rfl QL))) ?_)))));clear C K;refine Qw (Qd λK C=>?_);refine QB (cs:=[_]) rfl rfl rfl rfl (QA (SO hm ▸ Jk hwr) rfl rfl (.inr rfl) (Zp rfl (C _ _ (Zt (Qo rfl (Qo rfl (Qo rfl (Qo rfl QL)))) ?_))));clear C K;refine Zq rfl (Qp (QK (Qo rfl (Qo rfl (Qo rfl QL))) (Qd λK C=>?_)));refine Zk rfl (C _ _ (Zt (Qo rfl (Qo rfl (Qo rfl (Qo rfl QL)))) ?_));clear C K;refine MO (le_trans (G8 3 _ We) (QM (fr':=[(2,.ref 2 0 0),(3,.ptr [.int .i64 most]),(6,.ref 6 0 0),(900000,gD)]) (H':=[(2,⟨[[.sl (w.map Zv)]],1,25,true⟩),(6,⟨[[.u7 []]],1,61,true⟩)]) (l:=[2,3,6,900000]) (lH:=[2,6]) (Qo rfl (Qo rfl (Qo rfl (Qo rfl QL)))) (Qa rfl (Qa rfl Qf)) rfl rfl rfl rfl)) ?_
 (refine QaA λK C=>ME (l:=[_,_]) ?_)
 refine QB (cs:=[_]) rfl rfl rfl rfl (Qe2 rfl rfl rfl rfl (Qaz ?_))
 (refine Pl (QM (fr':=[(6,.ref 6 0 0),(11,Q9 w),(12,.w8 75 6 [.ptr [.int .i64 most]]),(900000,gD)]) (H':=[(6,⟨[[.u7 []]],1,61,true⟩)]) (l:=[6,11,12,900000]) (lH:=[6]) (Qo rfl (Qo rfl (Qo rfl (Qo rfl QL)))) (Qa rfl Qf) rfl rfl rfl rfl) ?_)
 (refine QoT (Qhq (G:=[500000,500003]) (Hr:=[(500000,⟨[[ZQ w,.u4 500003 w.length,.bool false,.w8 75 6 [.ptr [.int .i64 most]]]],4,179,false⟩),(500003,⟨(List.replicate w.length 0).map rI,1,3,true⟩),(6,⟨[[.u7 []]],1,61,true⟩)]) rfl rfl rfl rfl rfl rfl rfl rfl rfl ?_ (HG hw hr (hb:=false) (f:=75) (et:=61) (ps:=[.ptr [.int .i64 most]])) ?_))
 simp only[J6,QEW,QFx,x4.u5,X7];rfl
 (refine ME (l:=[]) ?_)
 refine Qaz ?_
 (refine Pl (le_trans (XD 6 0 500001 1 22 rfl rfl rfl rfl) (QM (fr':=[(6,.ref 6 0 0),(13,.ref 500000 0 0)]) (H':=[(500001,bA1 []),(6,bA2 []),(500003,⟨(List.replicate w.length 0).map rI,1,3,true⟩),(500000,⟨[[ZQ w,.u4 500003 w.length,.bool false,.w8 75 6 [.ptr [.int .i64 most]]]],4,179,false⟩)]) (l:=[6,13]) (lH:=[500001,6,500003,500000]) (Qo rfl (Qo rfl QL)) (Qa rfl (Qa rfl (Qa rfl (Qa rfl Qf)))) rfl rfl rfl rfl)) ?_)
 (refine SY (G:=[500001]) (Hr:=[(500001,bA1 (YY (pA most) [] (allW w)).1),(6,bA2 (YY (pA most) [] (allW w)).1),(500003,⟨c'.map rI,1,3,true⟩),(500000,⟨[[ZQ w,.u4 500003 c'.length,.bool false,.w8 75 6 [.ptr [.int .i64 most]]]],4,179,false⟩)]) rfl rfl rfl rfl rfl rfl rfl M ?_ ?_ ?_)
 simp only[J6,QEW,QFx,x4.u5,X7,HW,List.length_replicate];rfl;simp only[J6,QEW,QFx,x4.u5,X7,HW];have e:∀l:List (List Int),(l.map rL).map (λr=>r.map (D.y6 (YM [500001])))=l.map rL:=λl=>by simp[rL,Q0,D.y6,Function.comp]
 rw[e];rfl;refine DU (Qb rfl (C _ _ (Zt (Qo rfl (Qo rfl QL)) ?_)));clear C K;refine Qd λK C=>?_;refine Qr rfl rfl rfl (Qb rfl (Qb rfl (Qb rfl (C _ _ (Zt (Qo rfl (Qo rfl QL)) ?_)))));clear C K;refine Qv ?_;exact ZD rfl rfl ⟨LL rfl rfl Wd rfl,rfl⟩
theorem Qnw {w:Ql} (hwr:Xc w) (hm:¬v8 w) {most:Int}:Ok Tryz.prog 42 [Q9 w,.int .i64 most,gD] (.g8 [F4 [],.bool true]):=by
 refine Ok.b9 (ds:=[Q9 w,.int .i64 most]) (dg:=gD) tfol Tryz.func42 QzR (QEi rfl) ?_;show TW _ _ tf42.body _ _;refine Qd λK C=>?_;refine Zu rfl rfl rfl (Zu rfl rfl rfl (Qb rfl (Qb rfl (C _ _ (Zt (Qo rfl (Qo rfl (Qo rfl QL))) ?_)))));clear C K;refine Qw (Qd λK C=>?_);refine QB (cs:=[_]) rfl rfl rfl rfl (QA (HV hm ▸ Jk hwr) rfl rfl (.inr rfl) (Zp rfl (C _ _ (Zt (Qo rfl (Qo rfl (Qo rfl (Qo rfl QL)))) ?_))));clear C K;refine Zb rfl (Qd λK C=>?_);refine Qb rfl (Qb rfl (C _ _ (Zt (Qo rfl (Qo rfl QL)) ?_)));clear C K;refine Qv (Qi ?_);exact ZD rfl rfl ⟨rfl,rfl⟩
def L3 (l:List (List Int)):D:=.g8 [Q0 (l.getLast?.getD []),.bool l.getLast?.isSome]
theorem QBV (l:List (List Int)):YY pF none l=(l.head?,l.isEmpty):=by
 cases l with
 |nil=>rfl
 |cons c l=>rfl
theorem QmO {ρ:Nat->Nat} {x:Option (List Int)}:(xF x).y6 ρ=xF x:=by grind [D.y6,Q0]
theorem CK (hwr:Xc w) (hm:v8 w):Ok Tryz.prog 43 [Q9 w,gD] (L3 (allW w)):=by
 have T:=hm.val hwr;have hw:=T.ud;have hr:=T.se;have h0:0<w.length:=T.len.1;obtain⟨d,H',⟨c',V,_,rfl,rfl⟩,M⟩:=Ci (Ht (w:=w)) hw hr h0 w.length 0 (List.replicate w.length 0) none Wa Wd (QzC w) trivial;rw[QFh,List.take_zero]at M;have e0:listW w true (YF w) []=(allW w).reverse:=Ld w _ _;rw[e0,QBV,List.head?_reverse,List.isEmpty_reverse]at M
 have Y:L3 (allW w)=.g8 [Q0 ((allW w).getLast?.getD []),.bool (!(allW w).isEmpty)]:=by
  unfold L3;congr 4;cases allW w<;>simp
 rw[Y];generalize (allW w).getLast?=x at M ⊢;generalize (allW w).isEmpty=y at M ⊢
 have O:o7 Tryz.prog 76 [.ref 1500000 0 0,.int .i64 0] (HW 1000004 1500003 1500000 w (List.replicate w.length 0) true 77 [] bF1 (bF2 none)) (.bool y) (HW 1000004 1500003 1500000 w c' true 77 [] bF1 (bF2 x)):=by
  refine o7.we (rnS (a:=1000006) (b:=1000004) We We) M rfl ?_ rfl ?_;simp only[K7,QEW,QFx,x4.u5,X7,HW];rfl;simp only[K7,QEW,QFx,x4.u5,X7,HW,QmO];rfl
 have U:=o7.we (rnS (a:=1000006) (b:=1000004) We We) (HG hw hr (hb:=true) (f:=77) (et:=22) (ps:=[])) (ds2:=[Q9 w,.bool true,.w8 77 1000004 [],gD]) (H2:=[(1000004,⟨[[.u7 []]],1,22,true⟩)]) (d2:=.ref 500000 0 0) (H2':=[(500000,⟨[[ZQ w,.u4 500003 w.length,.bool true,.w8 77 1000004 []]],4,179,false⟩),(500003,⟨(List.replicate w.length 0).map rI,1,3,true⟩),(1000004,⟨[[.u7 []]],1,22,true⟩)]) rfl rfl rfl (by simp only[K7,QEW,QFx,x4.u5,X7];rfl)
 refine Ok.b9 (ds:=[Q9 w]) (dg:=gD) tfol Tryz.func43 QzS (QEi rfl) ?_;show TW _ _ tf43.body _ _;refine Qd λK C=>?_;refine Zu rfl rfl rfl (Qb rfl (Qb rfl (C _ _ (Zt (Qo rfl (Qo rfl QL)) ?_))));clear C K;refine Qw (Qd λK C=>?_);refine QB (cs:=[_]) rfl rfl rfl rfl (QA (SO hm ▸ Jk hwr) rfl rfl (.inr rfl) (Zp rfl (C _ _ (Zt (Qo rfl (Qo rfl (Qo rfl QL))) ?_))));clear C K;refine Zq rfl (Qp (QK (Qo rfl (Qo rfl QL)) (Qd λK C=>?_)));refine Zk rfl (C _ _ (Zt (Qo rfl (Qo rfl (Qo rfl QL))) ?_));clear C K;refine MO (QM (fr':=[(1,.ref 1 0 0),(4,.ref 4 0 0),(900000,gD)]) (H':=[(1,⟨[[.sl (w.map Zv)]],1,25,true⟩),(4,⟨[[.u7 []]],1,22,true⟩)]) (l:=[1,4,900000]) (lH:=[1,4]) (Qo rfl (Qo rfl (Qo rfl QL))) (Qa rfl (Qa rfl Qf)) rfl rfl rfl rfl) ?_
 (refine QaA λK C=>ME (l:=[_,_]) ?_)
 refine QB (cs:=[_]) rfl rfl rfl rfl (Qe2 rfl rfl rfl rfl (Qaz ?_))
 (refine Pl (QM (fr':=[(4,.ref 4 0 0),(9,Q9 w),(10,.w8 77 4 []),(900000,gD)]) (H':=[(4,⟨[[.u7 []]],1,22,true⟩)]) (l:=[4,9,10,900000]) (lH:=[4]) (Qo rfl (Qo rfl (Qo rfl (Qo rfl QL)))) (Qa rfl Qf) rfl rfl rfl rfl) ?_)
 (refine QoT (Qhq (G:=[500000,500003]) (Hr:=[(500000,⟨[[ZQ w,.u4 500003 w.length,.bool true,.w8 77 4 []]],4,179,false⟩),(500003,⟨(List.replicate w.length 0).map rI,1,3,true⟩),(4,⟨[[.u7 []]],1,22,true⟩)]) rfl rfl rfl rfl rfl rfl rfl rfl rfl ?_ U ?_))
 simp only[J6,QEW,QFx,x4.u5,X7];rfl
 (refine ME (l:=[]) ?_)
 refine Qaz ?_
 (refine Pl (le_trans (Qol 500001 1 22 rfl) (QM (fr':=[(4,.ref 4 0 0),(11,.ref 500000 0 0)]) (H':=[(500001,bF1),(4,bF2 none),(500003,⟨(List.replicate w.length 0).map rI,1,3,true⟩),(500000,⟨[[ZQ w,.u4 500003 w.length,.bool true,.w8 77 4 []]],4,179,false⟩)]) (l:=[4,11]) (lH:=[500001,4,500003,500000]) (Qo rfl (Qo rfl QL)) (Qa rfl (Qa rfl (Qa rfl (Qa rfl Qf)))) rfl rfl rfl rfl)) ?_)
 (refine SY (G:=[500001]) (Hr:=[(500001,bF1),(4,bF2 x),(500003,⟨c'.map rI,1,3,true⟩),(500000,⟨[[ZQ w,.u4 500003 c'.length,.bool true,.w8 77 4 []]],4,179,false⟩)]) rfl rfl rfl rfl rfl rfl rfl O ?_ ?_ ?_)
 simp only[J6,QEW,QFx,x4.u5,X7,HW,List.length_replicate];rfl;simp only[J6,QEW,QFx,x4.u5,X7,HW,QmO];rfl;refine DU (Qb rfl (C _ _ (Zt (Qo rfl (Qo rfl QL)) ?_)));clear C K;refine Qd λK C=>?_;refine Qr rfl rfl rfl (Qb rfl (Zp rfl (Qb rfl (Qb rfl (C _ _ (Zt (Qo rfl (Qo rfl QL)) ?_))))));clear C K;refine Qv ?_;cases x with
 |none=>exact ZD rfl rfl ⟨rfl,rfl⟩
 |some c=>exact ZD rfl rfl ⟨rfl,rfl⟩
theorem Qfv (hwr:Xc w) (hm:¬v8 w):Ok Tryz.prog 43 [Q9 w,gD] (L3 []):=by
 refine Ok.b9 (ds:=[Q9 w]) (dg:=gD) tfol Tryz.func43 QzS (QEi rfl) ?_;show TW _ _ tf43.body _ _;refine Qd λK C=>?_;refine Zu rfl rfl rfl (Qb rfl (Qb rfl (C _ _ (Zt (Qo rfl (Qo rfl QL)) ?_))));clear C K;refine Qw (Qd λK C=>?_);refine QB (cs:=[_]) rfl rfl rfl rfl (QA (HV hm ▸ Jk hwr) rfl rfl (.inr rfl) (Zp rfl (C _ _ (Zt (Qo rfl (Qo rfl (Qo rfl QL))) ?_))));clear C K;refine Zb rfl (Qd λK C=>?_);refine Qb rfl (Qb rfl (C _ _ (Zt (Qo rfl (Qo rfl QL)) ?_)));clear C K;refine Qv (Qi ?_);exact ZD rfl rfl ⟨rfl,rfl⟩
end Go.Proofs
namespace M25
open Go Go.Abs M3
def wTal:Ql:=[⟨[],[],[⟨⟨0,0,0,[],[]⟩,0,[[⟨1,([(Z6,Y6)],[(Z6,Y6)])⟩]],[]⟩]⟩,⟨[98],[],[⟨⟨1,0,0,[],[]⟩,0,[],[]⟩,⟨⟨2,0,0,[],[]⟩,0,[],[]⟩]⟩]
theorem QbJ:Xc wTal:=by
 have M:Sm [(Z6,Y6)]:=⟨by decide,λs G=>by simp only[QEr]at G;subst G;trivial⟩
 refine⟨by decide,λu hu=>?_,λu hu=>?_,λu hu c C=>?_⟩<;>simp only[wTal,QEk,QEj,or_false]at hu<;>rcases hu with rfl |rfl
 simp;simp;simp;simp;simp only[QEr]at C;subst C;refine⟨⟨by decide,by decide⟩,by decide,by decide,λr hr=>?_,λx hx=>by grind⟩
 grind
 simp only[QEk,QEj,or_false]at C;rcases C with rfl |rfl<;>exact⟨⟨by decide,by decide⟩,by decide,by decide,λr hr=>Wc,λx hx=>Wc⟩
theorem QbI:v8 wTal:=⟨by decide,λi hi=>by
 have O:i=0\/i=1:=by
  have:wTal.length=2:=rfl;omega
 have k0:cdR 2 ⟨⟨0,0,0,[],[]⟩,0,[[⟨1,([(Z6,Y6)],[(Z6,Y6)])⟩]],[]⟩=true:=by rfl
 have M:cdR 2 ⟨⟨1,0,0,[],[]⟩,0,[],[]⟩=true:=by rfl
 have G:cdR 2 ⟨⟨2,0,0,[],[]⟩,0,[],[]⟩=true:=by rfl
 have C:Qd2 ⟨1,0,0,[],[]⟩ ⟨2,0,0,[],[]⟩<0:=by trivial
 rcases O with rfl |rfl
 exact⟨λ_=>(by decide:(1:Nat)<=16),λ_ _=>⟨rfl,rfl,rfl⟩,λ_ h=>absurd h We,λ_ h=>absurd h We,λ_ k (hk:k<1)=>by
  have:k=0:=Wa;subst this;exact⟨k0,λh=>absurd h Wa⟩⟩
 exact⟨λ_=>(by decide:(2:Nat)<=16),λ_ h=>absurd h We,λ_ _=>(by decide:([98]:List UInt8)≠[]),λ_ h=>absurd h We,λ_ k (hk:k<2)=>by
  have:k=0\/k=1:=Wa;rcases this with rfl |rfl
  exact⟨M,λh=>absurd h Wa⟩;exact⟨G,λ_=>C⟩⟩⟩
theorem QdD {b:Int} (hb:b=0\/b=1):tidyM wTal [0,b]=[0,b]:=by
 have hx:mtM wTal [0,b] ⟨1,([(Z6,Y6)],[(Z6,Y6)])⟩=true:=by rcases hb with rfl |rfl<;>decide+kernel
 have n0:Ndd wTal [0,b] 0:=.root (by rcases hb with rfl |rfl<;>decide)
 have C:Ndd wTal [0,b] 1:=.step (x:=⟨1,([(Z6,Y6)],[(Z6,Y6)])⟩) (r:=[⟨1,([(Z6,Y6)],[(Z6,Y6)])⟩]) n0 (by simp[XE,wTal,cA]) Wd hx;have b0:nddB wTal [0,b] 0=true:=@decide_eq_true _ (Classical.propDecidable _) n0;have b1:nddB wTal [0,b] 1=true:=@decide_eq_true _ (Classical.propDecidable _) C;show[if nddB wTal [0,b] 0=true then cA [0,b] (0:Nat)else -1,if nddB wTal [0,b] 1=true then cA [0,b] (1:Nat)else -1]=[0,b];rw[if_pos b0,if_pos b1];rfl
theorem Qir:listW wTal false (YF wTal) []=[[0,0],[0,1]]:=by
 have p1:Y7 wTal [-1] 0=false:=by rfl
 have p2:Y7 wTal [0] 0=true:=by rfl
 have M:Y7 wTal [0, -1] 1=false:=by rfl
 have G:Y7 wTal [0,0] 1=true:=by rfl
 have C:Y7 wTal [0,1] 1=true:=by rfl
 have t0:=QdD (b:=0) (.inl rfl);have t1:=QdD (b:=1) (.inr rfl)
 have e2:listW wTal false [2] [0]=[[0,0],[0,1]]:=by
  show(if Y7 wTal [0, -1] 1=true then(if tidyM wTal [0, -1]=[0, -1]then[[0, -1]]else[])else[])++((if Y7 wTal [0,0] 1=true then(if tidyM wTal [0,0]=[0,0]then[[0,0]]else[])else[])++((if Y7 wTal [0,1] 1=true then(if tidyM wTal [0,1]=[0,1]then[[0,1]]else[])else[])++[]))=_
  grind
 show(if Y7 wTal [-1] 0=true then listW wTal false [2] [-1]else[])++((if Y7 wTal [0] 0=true then listW wTal false [2] [0]else[])++[])=_
 grind
theorem Qlf:szT wTal 100=6:=by
 rw[Qah (SO QbI) We];rfl
end M25
namespace Go.Proofs
open Go Go.Abs M3 M25
theorem QwG:Ok Tryz.prog 42 [Q9 wTal,.int .i64 9,gD] (.g8 [F4 [[0,0],[0,1]],.bool true]):=by
 have e:allW wTal=[[0,0],[0,1]]:=Qir;have h:=Qfu (most:=9) QbJ QbI Wc;rw[e]at h;exact h
theorem QwH:Ok Tryz.prog 43 [Q9 wTal,gD] (.g8 [Q0 [0,1],.bool true]):=by
 have e:allW wTal=[[0,0],[0,1]]:=Qir;have h:=CK QbJ QbI;rw[e]at h;exact h
theorem QwK:Ok Tryz.prog 73 [Q9 wTal,.int .i64 100,gD] (.int .i64 6):=by
 grind [CP,QbJ,Qlf]
theorem Ze:Ok Tryz.prog 41 [gD] (.bool true):=by
 refine Ok.b9 (ds:=[]) (dg:=gD) tfol Tryz.func41 QDG (QEi Z) ?_;show TW _ _ tf41.body _ _;refine Qd λK C=>Qb Z (kc1 C Z (Qd λK C=>QA (Y8) Z Z (.inl Z) (Zk Z (Za Z Z Z Z Z Z Z Z (kc2 C Z Z (Qd λK C=>QB (cs:=[_,_]) Z Z Z Z (Zz Z Z (Zo Z Z (Zo Z Z (Zz Z Z (Zo Z Z (Zz Z Z (Zz Z Z (Zz Z Z (Zz Z Z (Zz Z Z (Zo Z Z (Zz Z Z (Zo Z Z (Zz Z Z (Zk Z (Za Z Z Z Z Z Z Z Z (kc2 C Z Z (Qd λK C=>QB (cs:=[_]) Z Z Z Z (QA (Ok.td QwG Wg) Z Z (.inl Z) (Qb Z (QN Z Z (QN Z Z (mv2 Z Z (kc4 C Z Z Z Z (Qd λK C=>QB (cs:=[_]) Z Z Z Z (QA (Ok.td QwH Wg) Z Z (.inl Z) (Qb Z (QN Z Z (QN Z Z (mv2 Z Z (kc6 C Z Z Z Z Z Z (Qd λK C=>QB (cs:=[_]) Z Z Z Z (QA (Ok.td QwK Wg) Z Z (.inr Z) (Yp Z Z (Qb Z (Qq (g:=36) Z (λY=>?_) (λY=>?_)))))))))))))))))))))))))))))))))))))))))));rw[Y];simp only[qB]at Y;refine Qc Z (Qb Z (Qh Z Z (Qb Z (Qq (g:=39) Z (λV=>?_) (λV=>?_)))));rw[V];simp only[qB]at V;refine Qc Z (Qb Z (Qc Z (QW Z QE (Qc Z (Yp Z Z (Qh Z Z (Qb Z (Qq (g:=44) Z (λU=>?_) (λU=>?_)))))))));rw[U];simp only[qB]at U;refine Qc Z (Qb Z (Qc Z (Qt Z Z Z We Z Z (Qc Z (Qr Z Z Z (Qc Z (QW Z QE (Qc Z (Yp Z Z (Qh Z Z (Qb Z (Qq (g:=51) Z (λT=>?_) (λT=>?_)))))))))))));rw[T];simp only[qB]at T;refine Qc Z (Qb Z (Qc Z (Qt Z Z Z We Z Z (Qc Z (Qr Z Z Z (Qc Z (Qt Z Z Z We Z Z (Qc Z (Qr Z Z Z (Qc Z (Yp Z Z (Qh Z Z (Qb Z (Qq (g:=59) Z (λO=>?_) (λO=>?_)))))))))))))));rw[O];simp only[qB]at O;refine Qc Z (Qb Z (Qh Z Z (Qb Z (Qq (g:=62) Z (λM=>?_) (λM=>?_)))));rw[M];simp only[qB]at M;refine Qc Z (Qb Z (Qc Z (QW Z QE (Qc Z (Yp Z Z (Qh Z Z (Qb Z (Qq (g:=67) Z (λG=>?_) (λG=>?_)))))))));rw[G];simp only[qB]at G;refine Qc Z (Qb Z (Qc Z (Qt Z Z Z We Z Z (Qc Z (Qr Z Z Z (Qc Z (Yp Z Z (Qh Z Z (Qb Z (kc1 C Z (Qv (Qg Z ?_))))))))))));rfl
 grind
 grind
 grind
 grind
 grind
 grind
 grind
theorem ZA {a b:List Int} (ha:a.length<=10000000):Ok Tryz.prog 20 [Q0 a,Q0 b] (.bool (decide (a=b))):=by
 refine Ok.n7 tfol Tryz.func20 QDv (QEi Z) ?_;show TW _ _ tf20.body _ _;refine Qd λK C=>Qb Z (kc2 C Z Z (Qw (Qd λK C=>Qb Z (QW Z QE (Qb Z (QW Z QE (Ys Z Z (kc3 C Z Z Z (Qs Z (λO=>?_) (λO=>?_))))))))));rw[O];simp only[qA]at O;refine Qd λK C=>Qb Z (kc1 C Z (Qv (Qi (Qg Z ?_))))
 grind
 rw[O];simp only[qA]at O;refine Qp (ks2 Z Z (Qw (Qd λK C=>Qb Z (kc3 C Z Z Z (Qu (Q8 (ι:=Nat) (λi=>⟨[(0,Q0 a),(1,Q0 b),(5,.int .i64 i)],[]⟩) (λi=>i<=a.length/\a.take i=b.take i) (λi=>a.length - i) 0 ?_ ?_ ?_))))));exact Zn (kp3 Z Z Z);simp;intro i T;refine Qw (Qd λK C=>mv2 Z Z (QW Z QE (ZK Z Z (kc4 C Z Z Z Z (Qs Z (λM=>?_) (λM=>?_))))));rw[M];simp only[qA]at M;refine Qp (ks3 Z Z Z (Qw (Qu (Qd λK C=>mv2 Z Z (Qt Z Z Z Wa (QH Wa) Z (QG (ds0:=[0]) Z Z Z Z Z (mv2 Z Z (Qt Z Z Z Wa (QH Wa) Z (QG (ds0:=[0]) Z Z Z Z Z (Ys Z Z (kc4 C Z Z Z Z (Qs Z (λG=>?_) (λG=>?_)))))))))))));rw[G];simp only[qA]at G;refine Qd λK C=>Qb Z (kc1 C Z (Qv (Qm (Qi (QQ (Qm (Qi (Qg Z ?_))))))))
 grind
 rw[G];simp only[qA]at G;refine Qp (Qk (ks3 Z Z Z (QJ λK C=>Qb Z (Q2 Z Z Wb (Qb Z (C _ (Qj (i+1) ?_ ?_ ?_)))))));exact Zn (kp3 Z Z Z)
 grind [Qak]
 omega;rw[M];simp only[qA]at M;refine Q3 (QF (Qx (QD (QK (QL) (Qd λK C=>Qb Z (kc1 C Z (Qv (Qg Z ?_))))))))
 grind
theorem set_rI {o:List Int} {k:Nat} {b:Int}:(o.map rI).set k [.int .i64 b]=(o.set k b).map rI:=QFQ.symm
variable {c:List Int} {i:Nat} {w:Ql}
def cN (c:List Int) (i:Nat):List Int:=c.take i++List.replicate (c.length - i) (-1)
theorem Qsf (h:i<=c.length):(cN c i).length=c.length:=by grind [cN]
theorem Qsd (h0:0<i) (h:i<=c.length) (C:i - 1<(cN c i).length):(cN c i)[i - 1]=c[i - 1]:=by
 grind [cN]
theorem QwE (h0:0<i) (h:i<=c.length):(cN c i).set (i - 1) (-1)=cN c (i - 1):=by
 refine QFS (by grind [cN]) λj G C=>?_
 grind [cN]
theorem Qse (h0:0<i) (h:i<=c.length) {x:Int}:(cN c i).set (i - 1) x=c.take (i - 1)++x::List.replicate (c.length - (i - 1+1)) (-1):=by
 refine QFS (by grind [cN]) λj G C=>?_
 grind [cN]
def nxB (w:Ql) (c:List Int):Bool:=(nxU (YF w) c).isSome
def nxC (w:Ql) (c:List Int):List Int:=(nxU (YF w) c).getD (List.replicate c.length (-1))
theorem nums_get (h:i<w.length):(YF w)[i]'(by grind [YF])=w[i].cs.length:=by simp[YF]
section
variable {w:Ql} {c:List Int} {i:Nat} {q:List Int}
theorem QoO (C:c.length=w.length) (h0:0<i) (hi:i<=c.length) (G:nxU ((YF w).drop i) (c.drop i)=none) (hx:c[i - 1]'Wa+1<((w[i - 1]'Wa).cs.length:Int)):nxU (YF w) c=some ((cN c i).set (i - 1) (c[i - 1]'Wa+1)):=by
 grind [YF,Qse,Qtq]
theorem Qtr (C:c.length=w.length) (h0:0<i) (hi:i<=c.length) (G:nxU ((YF w).drop i) (c.drop i)=none) (hx:¬c[i - 1]'Wa+1<((w[i - 1]'Wa).cs.length:Int)):nxU ((YF w).drop (i - 1)) (c.drop (i - 1))=none:=by
 grind [YF,Qxl]
theorem QoL {d:List Int} (h:nxU (YF w) c=some d):true=nxB w c/\d=nxC w c:=by rw[nxB,nxC,h];simp
theorem Qto (h:nxU ((YF w).drop 0) (c.drop 0)=none):false=nxB w c/\cN c 0=nxC w c:=by
 have C:=Qtp h;rw[nxB,nxC,C];trivial
theorem toN (h0:0<i):((i:Int) - 1).toNat=i - 1:=Wa
end
theorem GU (hw:Xc w) (U:c.length<=1048576):o7 Tryz.prog 22 [Q9 w,Q0 c] [] (.u4 500000 (tidyR w c).length) [(500000,⟨(tidyR w c).map rI,1,3,true⟩)]:=by
 refine o7.new tfol Tryz.func22 QzO (QEi Z) Z ?_;show TW _ _ tf22.body _ _;have T:=FF w c;have O:=Tm w c;refine Qd λK C=>Zu Z Z Z (Qb Z (kc2 C Z Z (Qd λK C=>Qb Z (kc3 C Z Z Z (Qd λK C=>QB (cs:=[_]) Z Z Z Z (Qb Z (QA (Jf hw U) Z Z (.inl Z) (Qb Z (kc3 C Z Z Z (Qw (Qd λK C=>Qb Z (kc4 C Z Z Z Z (Qu (Q8 (ι:=Nat) (λi=>⟨[(1,Q0 c),(5,.u4 5 ((tidyR w c).take i).length),(6,R9 (neededR w c)),(7,.int .i64 i)],[(5,⟨((tidyR w c).take i).map rI,1,3,true⟩)]⟩) (λi=>i<=(neededR w c).length) (λi=>(neededR w c).length - i) 0 ?_ ?_ ?_))))))))))))));exact le_trans (Z1 5 5 1 3 Z Z) (QM (l:=[1,5,6,7]) (lH:=[5]) (kp4 Z Z Z Z) (Qa Z Qf) Z Z Z);omega;intro i V;have hlen:((tidyR w c).take i).length<=i:=by grind
 refine Qw (Qd λK C=>mv2 Z Z (QW Z QE (ZK Z Z (kc5 C Z Z Z Z Z (Qs Z (λM=>?_) (λM=>?_))))));rw[M];simp only[qA]at M;refine Qp (ks4 Z Z Z Z (Qw (Qu (Qd λK C=>mv2 Z Z (Qt Z Z Z Wa (QH Wa) Z (Qr Z Z Z (Qb Z (kc5 C Z Z Z Z Z (Qw (Qd λK C=>mv2 Z Z (Qt Z Z Z Wa (QH Wa) Z (Qr Z Z Z (Zp Z (kc6 C Z Z Z Z Z Z (Qs Z (λG=>?_) (λG=>?_))))))))))))))));rw[G];simp only[qA]at G;refine QJ λK C=>Qb Z (C _ (ks5 Z Z Z Z Z (QJ λK C=>mv2 Z Z (QZ Z Z (Yl Z Z (λ_ h=>YZ Z Z Z h) Z Wd Z Z Z Wc Wc (Qb Z (C _ (Qk (ks4 Z Z Z Z (QJ λK C=>Qb Z (Q2 Z Z Wb (Qb Z (C _ (Qj (i+1) ?_ ?_ ?_))))))))))))));exact QM (l:=[1,5,6,7]) (lH:=[5]) (kp4 Z Z Z Z) (Qa Z Qf) (by rw[XR Wa,QEY]<;>rfl) (by rw[XR Wa,QFm,tdAt,if_neg (by grind [Mo])]<;>rfl) Z
 omega;omega;rw[G];simp only[qA]at G;refine Qp (ks5 Z Z Z Z Z (QJ λK C=>mv2 Z Z (QZ Z Z (Yl Z Z (λ_ h=>YZ Z Z Z h) Z Wd Z Z Z Wc Wc (Qb Z (C _ (Qk (ks4 Z Z Z Z (QJ λK C=>Qb Z (Q2 Z Z Wb (Qb Z (C _ (Qj (i+1) ?_ ?_ ?_)))))))))))));exact QM (l:=[1,5,6,7]) (lH:=[5]) (kp4 Z Z Z Z) (Qa Z Qf) (by rw[XR Wa,QEY]<;>rfl) (by rw[XR Wa,QFm,tdAt,if_pos (by grind [Mo]),Ym Wa]<;>rfl) Z
 omega;omega;rw[M];simp only[qA]at M;refine Q3 (QF (Qx (QD (ks1 Z (MO (G9 (l:=[]) (lH:=[]) 5 500000 5 (QL) Qf Z Z Z Z Z Z Z) (Qd λK C=>mv2 Z Z (kc1 C Z (Qv ?_))))))));rw[QEy (Wa:(tidyR w c).length<=i)];exact Yz Z Wg λk b h=>h
theorem FY (hw:Xc w) (G:z6 w c):o7 Tryz.prog 72 [Q9 w,.u4 1000018 c.length] [(1000018,⟨c.map rI,1,3,true⟩)] (.bool (nxB w c)) [(1000018,⟨(nxC w c).map rI,1,3,true⟩)]:=by
 have Y:=G.len;have hwl:=hw.len;refine o7.n7 tfol Tryz.func72 QDX (QEi Z) (λk hk h=>?_) (λk b h=>?_) ?_
 grind [lk]
 ·simp only[Qz]at h
  (repeat' split at h)<;>first |grind [x4.ids] |cases h
 show TW _ _ tf72.body _ _;refine Qd λK C=>Zu Z Z Z (Qb Z (kc2 C Z Z (Qw (Qd λK C=>Qb Z (QW Z Z (J7 Z Z (Qn Wa Wa) (Qb Z (kc3 C Z Z Z (Qu (Q8 (ι:=Nat × List Int) (λs=>⟨[(1,.u4 1000018 (s.2).length),(2,.ref 2 0 0),(5,.int .i64 ((s.1:Int) - 1))],[(2,⟨[[.sl (w.map Zv)]],1,25,true⟩),(1000018,⟨(s.2).map rI,1,3,true⟩)]⟩) (λs=>s.1<=c.length/\s.2=cN c s.1/\nxU ((YF w).drop s.1) (c.drop s.1)=none) (λs=>s.1) (c.length,c) ?_ ?_ ?_))))))))));exact QM (l:=[1,2,5]) (lH:=[2,1000018]) (kp3 Z Z Z) (Qa Z (Qa Z Qf)) Z Z Z;exact⟨QEI _,by simp[cN],QkH (by grind [YF])⟩;intro s M;have hsl:s.2.length=c.length:=by grind [Qsf]
 have hat:∀h:0<s.1,s.2[((s.1:Int) - 1).toNat]'Wa=c[s.1 - 1]'Wa:=λh=>by grind [Qsd]
 have V:∀h:0<s.1,(w[((s.1:Int) - 1).toNat]'Wa).cs.length=(w[s.1 - 1]'Wa).cs.length:=λh=>by simp
 refine Qw (Qd λK C=>Qb Z (Gw Z Z (kc4 C Z Z Z Z (Qs Z (λT=>?_) (λT=>?_)))));rw[T];simp only[qA]at T;have hat1:=hat Wa;have hwt1:=V Wa;have hbd:=G.bd (s.1 - 1) Wa Wa;have hcs1:=hw.cl _ (QEn (Wa:s.1 - 1<w.length));refine Qp (ks3 Z Z Z (Qw (Qu (Qw (Qd λK C=>mv2 Z Z (XW (ds0:=[9,8,0]) Z Z Z Wd Wa Wa Z Z Z (QG (ds0:=[8,0]) Z (Xd Z (Q5 Wa Wa)) Z Z Z (Q2 Z Z (Qn Wa Wa) (Qe Z Z (QG (ds0:=dn 5) Z Z Z Z Z (Qb Z (Qt Z Z Z Wa (Q5 Wa Wa) Z (Q7 Z Z (QG (ds0:=[1,0]) Z Z Z Z Z (QW Z QE (ZK Z Z (kc4 C Z Z Z Z (Qs Z (λO=>?_) (λO=>?_)))))))))))))))))));rw[O];simp only[qA]at O;refine Qd λK C=>mv2 Z Z (ZE Z Z Z Wd Wa Wa Z (Qr Z (Xd Z (Q5 Wa Wa)) Z (Q2 Z Z (Qn Wa Wa) (ZE Z Z Z Wd Wa Wa Z (Za Z Z (Q5 Wa Wa) Z Z Z Z Z (C _ _ (Zt (QL) (Qd λK C=>Qb Z (kc1 C Z (Qv (Qi (Qm (Qi (QQ (Qm (Qi ?_))))))))))))))));have U:=QoL (QoO Y (Wa:0<s.1) M.1 M.2.2 Wa);have e:(s.2.map rI).set (((s.1:Int) - 1).toNat) [.int .i64 (s.2[((s.1:Int) - 1).toNat]'Wa+1)]=(nxC w c).map rI:=by simp_all [set_rI]
 rw[<- U.1,<- e];exact Yz Z Z (Tk Z);rw[O];simp only[qA]at O;refine Qp (ks3 Z Z Z (QJ λK C=>mv2 Z Z (ZE Z Z Z Wd Wa Wa Z (Za Z Z (Q5 Wa Wa) Z Z Z Z Z (C _ (Qk (ks3 Z Z Z (QJ λK C=>Qb Z (J7 Z Z (Qn Wa Wa) (Qb Z (C _ (Qj (s.1 - 1,s.2.set ((s.1:Int) - 1).toNat (-1)) ?_ ?_ ?_))))))))))));exact QM (l:=[1,2,5]) (lH:=[2,1000018]) (kp3 Z Z Z) (Qa Z (Qa Z Qf)) Wc (by rw[<- set_rI]<;>rfl) Z
 grind [QwE,Qtr]
 omega;rw[T];simp only[qA]at T;refine Q3 (QF (Qx (QD (QK (QL) (Qd λK C=>Qb Z (kc1 C Z (Qv ?_)))))));have h0:s.1=0:=Wa;rw[h0]at M;have U:=Qto M.2.2;rw[<- U.1,<- U.2,<- M.2.1];exact Yz Z Z (Tk Z)
theorem Xu {a b:List (List Int)} (ha:a.length<=10000000) (hb:∀r∈a,r.length<=1000000):Ok Tryz.prog 44 [.sl (a.map λr=>[Q0 r]),.sl (b.map λr=>[Q0 r])] (.bool (decide (a=b))):=by
 refine Ok.n7 tfol Tryz.func44 QDH (QEi Z) ?_;show TW _ _ tf44.body _ _;refine Qd λK C=>Qb Z (kc2 C Z Z (Qw (Qd λK C=>Qb Z (QW Z QE (Qb Z (QW Z QE (Ys Z Z (kc3 C Z Z Z (Qs Z (λO=>?_) (λO=>?_))))))))));rw[O];simp only[qA]at O;refine Qd λK C=>Qb Z (kc1 C Z (Qv (Qi (Qg Z ?_))))
 grind
 rw[O];simp only[qA]at O;refine Qp (ks2 Z Z (Qw (Qd λK C=>Qb Z (kc3 C Z Z Z (Qu (Q8 (ι:=Nat) (λi=>⟨[(0,.sl (a.map λr=>[Q0 r])),(1,.sl (b.map λr=>[Q0 r])),(5,.int .i64 i)],[]⟩) (λi=>i<=a.length/\a.take i=b.take i) (λi=>a.length - i) 0 ?_ ?_ ?_))))));exact Zn (kp3 Z Z Z);simp;intro i T;refine Qw (Qd λK C=>mv2 Z Z (QW Z QE (ZK Z Z (kc4 C Z Z Z Z (Qs Z (λM=>?_) (λM=>?_))))));rw[M];simp only[qA]at M;refine Qp (ks3 Z Z Z (Qw (Qu (Qd λK C=>mv2 Z Z (Qt Z Z Z Wa (QH Wa) Z (QG (ds0:=[1,0]) Z Z Z Z Z (mv2 Z Z (Qt Z Z Z Wa (QH Wa) Z (QG (ds0:=[1,0]) Z Z Z Z Z (Zi (ds0:=[0]) (ZA Wc) Z Z (.inr Z) Z Z (Zp Z (kc4 C Z Z Z Z (Qs Z (λG=>?_) (λG=>?_))))))))))))));rw[G];simp only[qA]at G;refine Qd λK C=>Qb Z (kc1 C Z (Qv (Qm (Qi (QQ (Qm (Qi (Qg Z ?_))))))))
 grind
 rw[G];simp only[qA]at G;refine Qp (Qk (ks3 Z Z Z (QJ λK C=>Qb Z (Q2 Z Z Wb (Qb Z (C _ (Qj (i+1) ?_ ?_ ?_)))))));exact Zn (kp3 Z Z Z)
 grind [Qak]
 omega;rw[M];simp only[qA]at M;refine Q3 (QF (Qx (QD (QK (QL) (Qd λK C=>Qb Z (kc1 C Z (Qv (Qg Z ?_))))))))
 grind
end Go.Proofs
namespace Go.Abs
open Go
variable {K:St->Prop} {Q:AExit->St->Prop} {l ol:List u3} {s:St}
section
variable {P:Program} {nt:Nat} {E:Env}
def NN (P:Program):List u3->(St->Prop)->St->Prop
 |[],K,s=>K s
 |o::r,K,s=>∃s',s.le s'/\Qfh P o (NN P r K) s'
theorem Ll {ops:Array Oper} {K:St->Prop} {Q:Exit->Act->World->Prop} (G:E.nt=nt) (C:∀(j:Nat) (o':Oper),ops[j]?=some o'->∀t,o'.dst=some t->t<E.nt):∀(l:List Oper) (k:Nat) (l':List u3) (s:St) (g:Gh) (a:Act) (w:World),(∀j,l[j]?=ops[k+j]?)->
  QV P nt ops l=some l'->Rel E g s a w->NN P l' K s->(∀s' g' a' w',Rel E g' s' a' w'->K s'->Q .normal a' w')->wpOps P ops Q (List.range' k l.length) a w
 |[],k,l',s,g,a,w,_,hp,r,h,hK=>by
  simp only[QV,QEl]at hp;subst hp;exact hK s g a w r h
 |o::l,k,l',s,g,a,w,hl,hp,r,h,hK=>by
  simp only[QV]at hp;split at hp;rename_i o' M e1 e2;cases hp
  have h0:ops[k]?=some o:=by simpa using(hl 0).symm
  rw[QEZ,QFn,wpOps_cons];unfold wpOp;rw[h0];simp only;obtain⟨s1,hle,h⟩:=h;obtain⟨g1,r1⟩:=hle E g a w r
  have:=Mq (Q:=Q) G r1 e1 C h (K':=wpOps P ops Q (List.range' (k+1) l.length)) λs' g' a' w' r2 O=>
    Ll G C l (k+1) M s' g' a' w' (λj=>by have:=hl (j+1);grind) e2 r2 O hK
  grind
  grind
theorem QdP (h:NN P l (Q .normal) s):AW P nt (.region false l) Q s:=λcode E g a w hm hp G T r=>by
 obtain⟨id,ops,rfl,_,C⟩:=Jp hp;refine wpIn_region (Hc (λ⟨_,_,h⟩=>h) (YP C) _ _ _ ?_);rw[QFw,<- QE1];exact Ll G (λj o' ho t O=>by rw[G];exact YA C j o' ho t O) ops.toList 0 l s g a w Wd C r h λs' g' a' w' M U=>⟨s',g',U,M⟩
theorem MZ {r:List u3} {K:St->Prop}:∀{l:List u3} {s:St},GF P l (NN P r K) s->NN P (l++r) K s
 |[],_,h=>h
 |_::_,s,h=>⟨s,Qom,MY (λ_ h=>MZ h) h⟩
theorem Qpo {lr:List u3} {o:u3} (h:run P .fixed l (λs1=>∃s2,s1.le s2/\NN P (o::lr) K s2) s) (G:ol=l++o::lr:=by rfl):NN P ol K s:=by
 subst G;refine MZ (Y0 (λs1 h=>?_) (Ye h));obtain⟨s2,T,C,O,M⟩:=h;exact⟨C,le_trans T O,M⟩
theorem Qk2 (h:run P .fixed l K s):NN P l K s:=by
 have:=MZ (P:=P) (r:=[]) (K:=K) (Ye h)
 grind
theorem QmX (h:∀K:St->Prop,(∀s,Q .normal s->K s)->NN P ol K s):TW P nt (.region false ol) Q s:=QdP (h _ λ_ h=>h)
end
end Go.Abs
namespace Go.Proofs
open Go Go.Abs M3 M25
variable {c:List Int} {n:Nat} {s:St} {w:Ql}
def eAt (w:Ql) (t:Nat):List Int:=(Z9 (YF w)).getD t []
noncomputable def oR (w:Ql) (t:Nat):List (List Int):=((Z9 (YF w)).take t).filter (goodM w)
section
variable {w:Ql} {t:Nat} {most:Int}
theorem M8 (C:t<(Z9 (YF w)).length):eAt w t=(Z9 (YF w))[t]:=by grind [eAt]
theorem Qcn (C:t<(Z9 (YF w)).length):z6 w (eAt w t):=by
 rw[M8 C];exact C8 (q:=[]) (va.nil w) Wd
theorem Qj1 (w:Ql):0<(Z9 (YF w)).length:=by
 obtain⟨l,C⟩:=Fy (YF w);grind
theorem QwV (w:Ql):eAt w 0=List.replicate w.length (-1):=by
 obtain⟨l,C⟩:=Fy (YF w)
 grind [eAt,QrC,YF,List.map_const',List.length_map]
theorem Qxm (w:Ql) (t:Nat):(oR w t).length<=(Z9 (YF w)).length:=by
 refine QEB (List.length_filter_le _ _) ?_
 grind
theorem Qc8 (C:t<(Z9 (YF w)).length) (G:goodM w (eAt w t)=true):oR w (t+1)=oR w t++[eAt w t]:=by
 rw[M8 C]at G ⊢;rw[oR,oR,QFB C,List.filter_append,QFM,if_pos G];rfl
theorem Qhg (C:t<(Z9 (YF w)).length) (G:goodM w (eAt w t)=false):oR w (t+1)=oR w t:=by
 rw[M8 C]at G;rw[oR,oR,QFB C,List.filter_append,QFM,if_neg Wc];simp
theorem Qts (C:QrI w) (h:(Z9 (YF w)).length<=t):oR w t=allW w:=by rw[oR,QEy h];exact C.symm
theorem QxE (w:Ql) (most:Int):YY (pA most) [] (oR w 0)=(oR w 0,true):=by rfl
theorem DY (O:QrI w) (M:YY (pA most) [] (oR w t)=(oR w t,true)) (C:t<(Z9 (YF w)).length) (G:goodM w (eAt w t)=true) (hm:most<=(oR w t).length):YY (pA most) [] (allW w)=(oR w t,false):=by
 have e:allW w=oR w (t+1)++((Z9 (YF w)).drop (t+1)).filter (goodM w):=by
  rw[oR,<- List.filter_append,QES];exact O
 rw[e,Qc8 C G,QFa,MD,M];show YY (pA most) (oR w t) _=_
 (repeat clear hK K);simp_all [pA,YY]
theorem QtO (M:YY (pA most) [] (oR w t)=(oR w t,true)) (C:t<(Z9 (YF w)).length) (G:goodM w (eAt w t)=true) (hm:¬most<=(oR w t).length):YY (pA most) [] (oR w (t+1))=(oR w (t+1),true):=by
 have e2:(pA most).st (oR w t) (eAt w t)=(oR w t++[eAt w t],true):=if_neg hm;rw[Qc8 C G,MD,M]
 grind [Qdu]
theorem Qdw (M:YY (pA most) [] (oR w t)=(oR w t,true)) (C:t<(Z9 (YF w)).length) (G:goodM w (eAt w t)=false):YY (pA most) [] (oR w (t+1))=(oR w (t+1),true):=by grind [Qhg]
theorem QcE (hm:v8 w) (G:t<(Z9 (YF w)).length) (O:Jd w (eAt w t)=true) (M:tidyR w (eAt w t)=eAt w t):goodM w (eAt w t)=true:=by
 have C:=Qcn G;rw[Fr (GB hm ⟨C.len,C.bd⟩)]at M
 grind [KZ]
theorem Qa5 (hm:v8 w) (G:t<(Z9 (YF w)).length) (M:¬tidyR w (eAt w t)=eAt w t):goodM w (eAt w t)=false:=by
 have C:=Qcn G;rw[Fr (GB hm ⟨C.len,C.bd⟩)]at M
 (repeat clear hK K);simp_all [QFW,KZ]
theorem Qa4 (C:Jd w (eAt w t)=false):goodM w (eAt w t)=false:=QFW.2 λh=>by
 grind [KZ]
theorem QoN (C:t<(Z9 (YF w)).length) (h:nxB w (eAt w t)=true):t+1<(Z9 (YF w)).length/\nxC w (eAt w t)=eAt w (t+1):=by
 have e:=C4 C;rw[<- M8 C]at e;rw[nxB,e]at h
 grind [nxC,M8]
theorem QoM (C:t<(Z9 (YF w)).length) (h:nxB w (eAt w t)=false):(Z9 (YF w)).length<=t+1:=by
 grind [C4,M8,nxB]
end
theorem QlM {d C e e':D} (M:XX s d=C) (G:XX s e=e'):[d,e].map (XX s)=[C,e']:=by grind
theorem QaF {fr:QEg} {H:QEf} {k:Nat} (h:lk H k=some ⟨c.map rI,1,3,true⟩) (C:n=c.length):XX ⟨fr,H⟩ (.u4 k n)=Q0 c:=LL h rfl Wc rfl
theorem Quf (hw:Xc w) (M:c.length<=1048576) (G:n=c.length) (h0:s.ev (.s 32)=some (Q9 w)) (Y:s.ev (.s 33)=some (.u4 18 n)) (V:lk s.H 18=some ⟨c.map rI,1,3,true⟩) (U:lk s.H 34=none):
  Kx Tryz.prog 22 [.s 32,.s 33] s [(18,⟨c.map rI,1,3,true⟩)] [(34,⟨(tidyR w c).map rI,1,3,true⟩)] [] (.u4 34 (tidyR w c).length):=by
 subst G;refine⟨[Q9 w,.u4 18 c.length],by grind [Zh],λk b hk=>?_,λk b hk j C=>?_,λx hx j C=>?_,(λk b hk=>by cases hk),λk b hk=>?_,λk hk=>?_,.inl ?_⟩;obtain⟨rfl,rfl⟩:=K5 hk;omega;obtain⟨rfl,rfl⟩:=K5 hk;trivial;simp at hx;rcases hx with rfl |rfl
 trivial;simp[D.ids,D.y4]at C;subst C;rfl;obtain⟨rfl,rfl⟩:=K5 hk;grind [x4.ids];simp[D.ids,D.y4]at hk;subst hk;rfl;have T:=o7.we (QzL (a:=500000) (b:=34) We We) (GU hw M) (ds2:=[Q9 w,Q0 c]) (H2:=[]) (d2:=.u4 34 (tidyR w c).length) (H2':=[(34,⟨(tidyR w c).map rI,1,3,true⟩)]) rfl rfl rfl (by simp only[K7,QEW,QFx,x4.u5,X7];rfl)
 have O:=o7.gg (H:=upH [(18,⟨c.map rI,1,3,true⟩)]) (ds:=[Q9 w,D.u4 1000018 c.length]) 3 T (by
  simp only[upH,QEW,QFx,x4.u5,X7,D.mc,D.xc,Qz];simp[upN,rI,D.xc,D.own,Q0,Q9]) rfl (λr hr d hd=>by obtain⟨v,_,rfl⟩:=QEw.1 hr;simp[rI]at hd;subst hd;rfl) We rfl
 exact O
theorem QzW:upN 18=1000018:=by rfl
theorem Qxj (hw:Xc w) (G:z6 w c) (M:n=c.length) (h0:s.ev (.s 48)=some (Q9 w)) (T:s.ev (.s 49)=some (.u4 18 n)) (O:lk s.H 18=some ⟨c.map rI,1,3,true⟩):
  Kx Tryz.prog 72 [.s 48,.s 49] s [(18,⟨c.map rI,1,3,true⟩)] [] [(18,⟨(nxC w c).map rI,1,3,true⟩)] (.bool (nxB w c)):=by
 subst M;refine Qsi (ds:=[Q9 w,.u4 18 c.length]) (ds':=[Q9 w,.u4 1000018 c.length]) (b':=⟨(nxC w c).map rI,1,3,true⟩) (by grind [Zh]) (λk b hk=>?_) (λk b hk j C=>?_) (λx hx j C=>?_) rfl rfl rfl ?_ (by grind [x4.u5,X7]) ?_;obtain⟨rfl,rfl⟩:=K5 hk;omega;obtain⟨rfl,rfl⟩:=K5 hk;trivial;simp at hx;rcases hx with rfl |rfl
 trivial;simp[D.ids,D.y4]at C;subst C;rfl;rfl;refine o7.oh (λk=>?_) (λk=>?_) (FY hw G)
 grind [upH,x4.u5,X7,QzW]
 grind [upH,QzW,Qz]
theorem QtL:List.replicate (n:Int).toNat [D.int .i64 0]=(List.replicate n (0:Int)).map rI:=by
 rw[QFV];rfl
theorem QnY {i:Nat} (h:i<c.length) (e:c.take i=List.replicate i (-1)):(c.set i (-1)).take (i+1)=List.replicate (i+1) (-1):=by
 (repeat clear hK K);simp_all [QFB,List.take_set_of_le,List.replicate_succ']
variable {most:Int}
theorem LV (hwr:Xc w) (hm:¬v8 w):Ok Tryz.prog 37 [Q9 w,.int .i64 most] (.g8 [F4 [],.bool true]):=by
 refine Ok.n7 tfol Tryz.func37 QzQ (QEi Z) ?_;show TW _ _ tf37.body _ _;refine Qd λK C=>Zu Z Z Z (mv2 Z Z (kc2 C Z Z (Qd λK C=>Qb Z (kc3 C Z Z Z (Qw (Qd λK C=>QB (cs:=[_]) Z Z Z Z (QA (HV hm ▸ YS hwr) Z Z (.inr Z) (Zp Z (kc4 C Z Z Z Z (Zb Z (Qd λK C=>mv2 Z Z (kc2 C Z Z (Qv (Qi ?_))))))))))))));exact ZD Z Z ⟨rfl,rfl⟩
theorem GW (hwr:Xc w) (hm:v8 w) (hE:(Z9 (YF w)).length<=1048576):Ok Tryz.prog 37 [Q9 w,.int .i64 most] (.g8 [F4 (YY (pA most) [] (allW w)).1,.bool (YY (pA most) [] (allW w)).2]):=by
 refine Ok.n7 tfol Tryz.func37 QzQ (QEi Z) ?_;show TW _ _ tf37.body _ _;have hv:=hm.val hwr;have hw:=hv.ud;have hr:=hv.se;have h0:0<w.length:=hv.len.1;have hwl:=hw.len;have hA:=Qfb hw hr h0;refine Qd λK C=>Zu Z Z Z (mv2 Z Z (kc2 C Z Z (Qd λK C=>Qb Z (kc3 C Z Z Z (Qw (Qd λK C=>QB (cs:=[_]) Z Z Z Z (QA ((SO hm ▸ YS hwr)) Z Z (.inr Z) (Zp Z (kc4 C Z Z Z Z (Qs Z (λh1=>?_) (λh1=>?_)))))))))))
 grind
 rw[h1];simp only[qA]at h1;refine Qp (ks3 Z Z Z (Qd λK C=>QB (cs:=[_]) Z Z Z Z (QA (GH hw) Z Z (.inl Z) (Zk Z (Za Z Z Z Z Z Z Z Z (kc4 C Z Z Z Z (Qd λK C=>Qe Z Z (Qr Z Z Z (QW Z QE (RF Z Z Z Wa Wa Wa (Qb Z (kc5 C Z Z Z Z Z (Qw (Qd λK C=>Qb Z (kc6 C Z Z Z Z Z Z (Qu (Q8 (ι:=Nat × List Int) (λs=>⟨[(1,.int .i64 most),(2,.ref 2 0 0),(6,.u7 []),(7,.ref 7 0 0),(8,.u4 18 (s.2).length),(9,.int .i64 s.1)],[(2,⟨[[.sl (w.map Zv)]],1,25,true⟩),(7,⟨[T1 w],3,132,true⟩),(18,⟨(s.2).map rI,1,3,true⟩)]⟩) (λs=>s.1<=w.length/\s.2.length=w.length/\s.2.take s.1=List.replicate s.1 (-1)) (λs=>w.length - s.1) (0,List.replicate w.length 0) ?_ ?_ ?_)))))))))))))))));exact QM (l:=[1,2,6,7,8,9]) (lH:=[2,7,18]) (kp6 Z Z Z Z Z Z) (Qa Z (Qa Z (Qa Z Qf))) Wd (by rw[QtL]<;>rfl) Z
 simp;intro s hI;have hsl:=hI.2.1;refine Qw (Qd λK C=>mv2 Z Z (QW Z Z (ZK Z Z (kc7 C Z Z Z Z Z Z Z (Qs Z (λh2=>?_) (λh2=>?_))))));rw[h2];simp only[qA]at h2;refine Qp (ks6 Z Z Z Z Z Z (Qw (Qu (QJ λK C=>mv2 Z Z (ZE Z Z Z Wd Wa Wa Z (Za Z Z (QH Wa) Z Z Z Z Z (C _ (Qk (ks6 Z Z Z Z Z Z (QJ λK C=>Qb Z (Q2 Z Z Wb (Qb Z (C _ (Qj (s.1+1,s.2.set s.1 (-1)) ?_ ?_ ?_))))))))))))));exact QM (l:=[1,2,6,7,8,9]) (lH:=[2,7,18]) (kp6 Z Z Z Z Z Z) (Qa Z (Qa Z (Qa Z Qf))) Wd (by rw[<- set_rI]<;>rfl) Z
 grind [QnY]
 omega;rw[h2];simp only[qA]at h2;refine Q3 (QF (Qx (QD (ks5 Z Z Z Z Z (Qu ?_)))));have V:s.2=eAt w 0:=by grind [QwV]
 refine Q8 (ι:=Nat) (λt=>⟨[(1,.int .i64 most),(2,.ref 2 0 0),(6,.u4 6 (oR w t).length),(7,.ref 7 0 0),(8,.u4 18 (eAt w t).length)],[(2,⟨[[.sl (w.map Zv)]],1,25,true⟩),(6,⟨(oR w t).map rL,1,22,true⟩),(7,⟨[T1 w],3,132,true⟩),(18,⟨(eAt w t).map rI,1,3,true⟩)]⟩) (λt=>t<(Z9 (YF w)).length/\YY (pA most) [] (oR w t)=(oR w t,true)) (λt=>(Z9 (YF w)).length - t) 0 ?_ ?_ ?_;exact le_trans (Z1 6 6 1 22 Z Z) (QM (l:=[1,2,6,7,8]) (lH:=[2,6,7,18]) (kp5 Z Z Z Z Z) (Qa Z (Qa Z (Qa Z (Qa Z Qf)))) (by rw[V]<;>rfl) (by rw[V]<;>rfl) Z)
 grind [Qj1,QxE]
 intro t G;have O:=Qcn G.1;have hcl:=O.len;have hol:=Qxm w t;refine Qu (HD (ι:=Unit) (λ_=>⟨[(1,.int .i64 most),(2,.ref 2 0 0),(6,.u4 6 (oR w (t+1)).length),(7,.ref 7 0 0),(8,.u4 18 (eAt w t).length)],[(2,⟨[[.sl (w.map Zv)]],1,25,true⟩),(6,⟨(oR w (t+1)).map rL,1,22,true⟩),(7,⟨[T1 w],3,132,true⟩),(18,⟨(eAt w t).map rI,1,3,true⟩)]⟩) (λ_=>YY (pA most) [] (oR w (t+1))=(oR w (t+1),true)) ?_ ?_)
 skip
 refine Qd λK C=>QB (cs:=[_,_,_]) Z Z Z Z (Qb Z (QA (F0 hw hr O h0) Z (QlM Z (QaF Z Z)) (.inr Z) (Qb Z (Qq (g:=31) Z (λU=>?_) (λU=>?_)))));rw[U];refine Qc Z (QB (cs:=[_]) Z Z Z Z (Qc Z (Qb Z (Qc Z (RD (Quf hwr Wa Z Z Z Z Z) (Qc Z (Qb Z (Qc Z (QA (ZA (a:=tidyR w (eAt w t)) (b:=eAt w t) (by grind [Lv])) Z (QlM (QaF Z Z) (QaF Z Z)) (.inr Z) (Qh Z Z (kc6 C Z Z Z Z Z Z ?_)))))))))));refine Qs Z (λM=>?_) (λM=>?_);rw[M];simp only[qA]at M;refine Qw (Qd λK C=>Qb Z (QW Z Z (Qb Z (Gw Z Z (kc6 C Z Z Z Z Z Z (Qs Z (λT=>?_) (λT=>?_)))))));rw[T];simp only[qA]at T;refine Qd λK C=>mv2 Z Z (Qb Z (kc2 C Z Z (Qv (Qi (YI (Qm (QQ (Qm ?_))))))));rw[DY hA G.2 G.1 (QcE hm G.1 U M) T];exact ZD Z Z ⟨LL Z Z Wd rfl,rfl⟩;rw[T];simp only[qA]at T;refine Qp (ks5 Z Z Z Z Z (QmX λK C=>?_))
 (refine Qpo (l:=[_,_,_]) ?_)
 refine mv2 Z Z (GL Z Z (λ_ h=>YZ Z Wd Z h) Z (.inl Z) (λr hr=>by grind) Wc Wc (Qaz ?_))
 (refine⟨_,le_trans (Mf (l:=[1,2,6,7,8,43]) (lH:=[2,6,7,18]) 45 45 (kp6 rfl rfl rfl rfl rfl rfl) (Qa rfl (Qa rfl (Qa rfl (Qa rfl Qf)))) rfl rfl rfl Wd rfl rfl rfl rfl) (QM (fr':=[(1,.int .i64 most),(2,.ref 2 0 0),(6,.u4 6 (oR w t).length),(7,.ref 7 0 0),(8,.u4 18 (eAt w t).length),(43,.u4 6 (oR w t).length),(45,Q0 (eAt w t))]) (H':=[(2,⟨[[.sl (w.map Zv)]],1,25,true⟩),(6,⟨(oR w t).map rL,1,22,true⟩),(7,⟨[T1 w],3,132,true⟩),(18,⟨(eAt w t).map rI,1,3,true⟩)]) (l:=[1,2,6,7,8,43,45]) (lH:=[2,6,7,18]) (kp7 rfl rfl rfl rfl rfl rfl rfl) (Qa rfl (Qa rfl (Qa rfl (Qa rfl Qf)))) rfl rfl rfl rfl), ?_⟩)
 (refine Qk2 ?_)
 refine Zo Z Z (Yl Z Z (λ_ h=>Qaf Wd h) Z Wd Z Z Z Wc Wc (Qb Z (C _ (Zl () ?_ ?_))));exact QM (l:=[1,2,6,7,8]) (lH:=[2,6,7,18]) (kp5 Z Z Z Z Z) (Qa Z (Qa Z (Qa Z (Qa Z Qf)))) (by rw[Qc8 G.1 (QcE hm G.1 U M),QEY]<;>rfl) (by rw[Qc8 G.1 (QcE hm G.1 U M),QFm]<;>rfl) Z
 grind [QtO,QcE]
 rw[M];simp only[qA]at M;refine Qp (Zl () ?_ ?_);exact QM (l:=[1,2,6,7,8]) (lH:=[2,6,7,18]) (kp5 Z Z Z Z Z) (Qa Z (Qa Z (Qa Z (Qa Z Qf)))) (by grind [Qhg,Qa5]) (by grind [Qhg,Qa5]) Z
 grind [Qdw,Qa5]
 rw[U];refine gn4 Z Z Z Z (YN Z (Qh Z Z (kc6 C Z Z Z Z Z Z (Zq Z (Qp (Zl () ?_ ?_))))));exact QM (l:=[1,2,6,7,8]) (lH:=[2,6,7,18]) (kp5 Z Z Z Z Z) (Qa Z (Qa Z (Qa Z (Qa Z Qf)))) (by grind [Qhg,Qa4]) (by grind [Qhg,Qa4]) Z
 grind [Qdw,Qa4]
 intro _ hQ;refine Qd λK C=>QB (cs:=[_]) Z Z Z Z (Qb Z (RD (Qxj hwr O Z Z Z Z) (Zp Z (kc6 C Z Z Z Z Z Z (Qs Z (λY=>?_) (λY=>?_))))));rw[Y];simp only[qA]at Y;refine Qd λK C=>mv2 Z Z (Qb Z (kc2 C Z Z (Qv (Qm (QQ (Qm ?_))))));rw[<- Qts (t:=t+1) hA (QoM G.1 Wa),hQ];exact ZD Z Z ⟨LL Z Z Wd rfl,rfl⟩;rw[Y];simp only[qA]at Y;have hnx:=QoN G.1 Wa;refine Qp (Qk (Qj (t+1) ?_ ?_ ?_));exact QM (l:=[1,2,6,7,8]) (lH:=[2,6,7,18]) (kp5 Z Z Z Z Z) (Qa Z (Qa Z (Qa Z (Qa Z Qf)))) (by rw[show(eAt w t).length=(eAt w (t+1)).length by have hz:=(Qcn hnx.1).len;omega]<;>rfl) Wc Z
 grind
 omega
theorem DV {most:Int}:∀{s l:List (List Int)},((s.length+l.length:Nat):Int)<=most->YY (pA most) s l=(s++l,true)
 |s,[],_=>by simp[YY]
 |s,c::l,h=>by
  have C:¬most<=(s.length:Int):=by grind
  have e:(pA most).st s c=(s++[c],true):=if_neg C;have G:=DV (most:=most) (s:=s++[c]) (l:=l) Wc
  grind [YY]
noncomputable def resA (w:Ql) (most:Int):D:=.g8 [F4 (YY (pA most) [] (chW w)).1,.bool (YY (pA most) [] (chW w)).2]
def QmV (w:Ql):Prop:=v8 w->(Z9 (YF w)).length<=1048576
end Go.Proofs
namespace Go.Proofs
open Go Go.Abs M3 M25
section
variable {w:Ql} (hwr:Xc w)
include hwr
theorem XQ:Ok Tryz.prog 43 [Q9 w,gD] (L3 (chW w)):=by
 by_cases hm:v8 w
 grind [Tw,CK]
 grind [CW,Qfv]
end
end Go.Proofs
namespace Go.Proofs
open Go Go.Abs M3 M25
section
variable {w:Ql} (hwr:Xc w)
include hwr
theorem Qcg (C:QmV w):(chW w).length<=1048576:=by
 by_cases hm:v8 w
 rw[Tw hm,Nz hwr hm];exact QEB (List.length_filter_le _ _) (C hm);rw[CW hm];simp
end
end Go.Proofs
namespace Go.Proofs
open Go Go.Abs M3 M25
section
variable {w:Ql} (hwr:Xc w)
include hwr
theorem R6 {r:List Int} (h:r∈chW w):r.length<=48:=by
 by_cases hm:v8 w
 rw[Tw hm,Nz hwr hm]at h;have C:=(QFF.1 h).1;have G:=(C8 (q:=[]) (va.nil w) (by simpa using C)).len;have:=hm.len
 grind
 grind [CW]
theorem M2 (C:QmV w) {most:Int}:Ok Tryz.prog 42 [Q9 w,.int .i64 most,gD] (resA w most):=by
 by_cases hm:v8 w
 grind [resA,Tw,Qfu,Qcg]
 rw[resA,CW hm];exact Qnw hwr hm
end
end Go.Proofs
namespace Go.Proofs
open Go Go.Abs M3 M25
section
variable {w:Ql} (hwr:Xc w)
include hwr
theorem LW (C:QmV w) {most:Int}:Ok Tryz.prog 37 [Q9 w,.int .i64 most] (resA w most):=by
 by_cases hm:v8 w
 rw[resA,Tw hm];exact GW hwr hm (C hm);rw[resA,CW hm];exact LV hwr hm
end
end Go.Proofs
namespace Go.Proofs
open Go Go.Abs M3 M25
section
variable {w:Ql} (hwr:Xc w)
include hwr
theorem Qko {r:List Int} (h:(chW w).getLast?=some r):r.length<=48:=R6 hwr (List.mem_of_getLast? h)
theorem Me:((chW w).getLast?.getD []).length<=48:=by
 cases h:(chW w).getLast? with
 |none=>simp
 |some r=>grind [Qko]
end
end Go.Proofs
namespace Go.Proofs
open Go Go.Abs M3 M25
variable {l:List (List Int)}
section
variable {w:Ql} (hwr:Xc w)
include hwr
theorem Qfy (C:QmV w):Ok Tryz.prog 37 [Q9 w,.int .i64 1073741824] (.g8 [F4 (chW w),.bool true]):=by
 grind [LW,Qcg,resA,DV]
end
theorem QfR (h:l=[]):L3 l=.g8 [Q0 [],.bool false]:=by subst h;rfl
theorem QjU {i:Nat} (h:i<l.length) (hi:i+1=l.length):L3 l=.g8 [Q0 l[i],.bool true]:=by
 have e:l.getLast?=some l[i]:=by grind
 grind [L3]
end Go.Proofs
namespace Go.Proofs
open Go Go.Abs M3 M25
theorem Qh5 {most:Int}:∀{s l:List (List Int)} {r:List Int},r∈(YY (pA most) s l).1->r∈s\/r∈l
 |s,[],r,h=>.inl Wf
 |s,c::l,r,h=>by
  by_cases h1:most<=(s.length:Int)
  (repeat clear hK K);simp_all [pA,YY]
  have e:(pA most).st s c=(s++[c],true):=if_neg h1;simp only[YY,e,if_true]at h;rcases Qh5 h with h |h
  grind
  grind
theorem DW {most:Int}:∀{s l:List (List Int)},(YY (pA most) s l).1.length<=s.length+l.length
 |s,[]=>by simp[YY]
 |s,c::l=>by
  by_cases h1:most<=(s.length:Int)
  (repeat clear hK K);simp_all [pA,YY]
  have e:(pA most).st s c=(s++[c],true):=if_neg h1;simp only[YY,e,if_true];have:=DW (most:=most) (s:=s++[c]) (l:=l)
  grind
theorem JB {w:Ql} (hw:Xc w) (T:QmV w):Ok Tryz.prog 34 [Q9 w] (L3 (chW w)):=by
 refine Ok.n7 tfol Tryz.func34 QDD (QEi Z) ?_;show TW _ _ tf34.body _ _;have U:=Qcg hw T;refine Qd λK C=>Zu Z Z Z (mv2 Z Z (kc1 C Z (Qd λK C=>QB (cs:=[_]) Z Z Z Z (QA (Qfy hw T) Z Z (.inl Z) (Qb Z (QN Z Z (QN Z Z (mv2 Z Z (kc1 C Z (Qw (Qd λK C=>Qb Z (QW Z QE (Yp Z Z (kc2 C Z Z (Qs Z (λG=>?_) (λG=>?_))))))))))))))));rw[G];simp only[qA]at G;refine Qd λK C=>mv2 Z Z (kc2 C Z Z (Qv (Qi ?_)));rw[QfR (QEV Wa)];exact ZD Z Z ⟨rfl,rfl⟩;rw[G];simp only[qA]at G;refine Qp (ks1 Z (Qd λK C=>mv2 Z Z (QW Z QE (J7 Z Z (Qn Wa Wa) (Qt Z Z Z Wa (Q5 Wa Wa) Z (Qr Z Z Z (mv2 Z Z (kc2 C Z Z (Qv ?_)))))))));have O:(((chW w).length:Int) - 1).toNat<(chW w).length:=Wa;have M:(((chW w).length:Int) - 1).toNat+1=(chW w).length:=Wa;rw[QjU O M];exact ZD Z Z ⟨rfl,rfl⟩
variable {l:List Int} {rs ry:List (List D)} {v1 v2 v3:List UInt8} {w:Ql} {x:Int}
section
variable {P:Program} {dr:Dr} {op:s6} {dst:Option Nat} {r:List u3} {s s':St} {K:St->Prop} {t:Nat} {b:Bool}
theorem KQ (h:Qid (λ_ _=>none) op dst dr.dr s=some s') (C:dr.ok r.length (tkR true op s (pk op s)) (tkW true op s (wk op s))=true) (k:TJ P true (dr.nx (Sa true op dst r) (tkR true op s (pk op s)) (tkW true op s (wk op s))) r K s'):TJ P true dr (⟨dst,op,none⟩::r) K s:=
 DS (w:=true) (.inl ⟨C,NI (call:=λ_ _=>none) (λ_ _ _ h=>by cases h) h k⟩)
theorem RH (hx:lk s.fr t=some (.bool b)) (h:Qid (λ_ _=>none) op dst dr.dr s=some s') (C:dr.ok r.length (tkR true op s (pk op s)) (tkW true op s (wk op s))=true) (k:TJ P true (dr.nx (Sa true op dst r) (tkR true op s (pk op s)) (tkW true op s (wk op s))) r K s'):TJ P true dr (⟨dst,op,some (t,b)⟩::r) K s:=
 DR (w:=true) hx (.inl ⟨C,NI (call:=λ_ _=>none) (λ_ _ _ h=>by cases h) h k⟩)
theorem Qrk {c:Bool} (hx:lk s.fr t=some (.bool c)) (C:¬c=b) (k:TJ P true dr r K (s.apply dst .undef none)):TJ P true dr (⟨dst,op,some (t,b)⟩::r) K s:=Qbw (w:=true) hx C k
theorem Qm4 {f:Nat} {args:List y5} {ds ds':List D} {d:D} (hx:lk s.fr t=some (.bool b)) (ho:Ok P f ds' d) (ha:Zh s args=some ds) (hd:ds.map (XX s)=ds') (G:d.flat=true) (C:dr.ok r.length (tkR true (.call f args) s (pk (.call f args) s)) (tkW true (.call f args) s (wk (.call f args) s))=true) (k:TJ P true (dr.nx (Sa true (.call f args) dst r) (tkR true (.call f args) s (pk (.call f args) s)) (tkW true (.call f args) s (wk (.call f args) s))) r K (s.apply dst d none)):TJ P true dr (⟨dst,.call f args,some (t,b)⟩::r) K s:=by
 subst hd;exact DR (w:=true) hx (.inl ⟨C,ds,ha,d,ho,.inr G,k⟩)
end
def QxJ:z5:=match tf40.body with
 | .seq _ _ (.seq _ _ (.seq _ _ c))=>c
 |_=>.skip
theorem Je (M:Ok Tryz.prog 30 [Q0 l,.int .i64 0] (.g8 [.sl ry,.sl rs])) (G:Ok Tryz.prog 32 [Q0 l,.int .i64 460] (.agg [.str v1,.str v2,.str v3])) (O:Ok Tryz.prog 31 [.sl ry,.sl rs,.agg [.str v1,.str v2,.str v3],.sl []] (.g8 [Q9 w,.int .i64 x])) {b:Bool} (T:TW Tryz.prog tf40.nt QxJ (ua tf40.rs (.g8 [Q9 w,.bool b])) ⟨[(1,.int .i64 600),(4,.ref 4 0 0),(8,.ref 8 0 0),(9,.int .i64 x)],[(8,⟨[[.sl (w.map Zv)]],1,25,true⟩),(8,QeT 25 [.u7 []]),(4,QeT 25 [.u7 []])]⟩):Ok Tryz.prog 40 [Q0 l,.int .i64 600] (.g8 [Q9 w,.bool b]):=by
 refine Ok.n7 tfol Tryz.func40 QDF (QEi rfl) ?_;show TW _ _ tf40.body _ _;refine Qd λK C=>?_;refine Zk rfl (Qb rfl (C _ _ (Zt (Qo rfl (Qo rfl (Qo rfl (QL)))) ?_)));clear C K;refine Qd λK C=>?_;refine Qb rfl (QA (M) rfl rfl (.inl rfl) (Qb rfl (QN rfl rfl (QN rfl rfl (Qb rfl (Qb rfl (C _ _ (Zt (Qo rfl (Qo rfl (Qo rfl (Qo rfl (Qo rfl (QL)))))) ?_))))))));clear C K;refine Qd λK C=>?_;refine Qb rfl (Qb rfl (Qb rfl (QA (G) rfl rfl (.inl rfl) (QA (O) rfl rfl (.inl rfl) (Qb rfl (QN rfl rfl (QN rfl rfl (Zk rfl (Za rfl rfl rfl rfl rfl rfl rfl rfl (Qb rfl ?_))))))))));refine C _ _ (Zt (Qo rfl (Qo rfl (Qo rfl (Qo rfl (QL))))) ?_);trivial
theorem Ya (M:Ok Tryz.prog 30 [Q0 l,.int .i64 0] (.g8 [.sl ry,.sl rs])) (G:Ok Tryz.prog 32 [Q0 l,.int .i64 460] (.agg [.str v1,.str v2,.str v3])) (O:Ok Tryz.prog 31 [.sl ry,.sl rs,.agg [.str v1,.str v2,.str v3],.sl []] (.g8 [Q9 w,.int .i64 x])) (hw:Xc w):Ok Tryz.prog 40 [Q0 l,.int .i64 600] (.g8 [Q9 w,.bool (okS w x)]):=by
 by_cases hx:x=0
 subst hx;have e:okS w 0=decide (szT w 601<=600):=by rfl
 rw[e];refine Je M G O (Qw (RE λK C=>?_));refine KQ rfl rfl (KQ rfl rfl (KQ rfl rfl (KQ rfl rfl (RH (b:=true) rfl rfl rfl (RH (b:=true) rfl rfl rfl (RH (b:=true) rfl rfl rfl (Qm4 (b:=true) rfl (Xw hw (most:=601) We) rfl rfl rfl rfl (RH (b:=true) rfl rfl rfl (RH (b:=true) rfl rfl rfl (KQ rfl rfl ?_))))))))));refine KQ rfl rfl (KQ rfl rfl (C _ (QK (Qo rfl (Qo rfl (QL))) (Qv ?_))));exact QhB rfl rfl rfl rfl rfl ⟨rfl,rfl⟩;have e:okS w x=false:=by grind [okS]
 have e2:decide (x=0)=false:=decide_eq_false hx;rw[e];refine Je M G O (Qw (RE λK C=>?_));refine KQ rfl rfl (KQ rfl rfl (KQ (s':=⟨_::_,_⟩) (by show some _=_;rw[e2];rfl) rfl ?_))
 refine KQ rfl rfl (Qrk (c:=false) rfl We (Qrk (c:=false) rfl We (Qrk (c:=false) rfl We (Qrk (c:=false) rfl We (Qrk (c:=false) rfl We (Qrk (c:=false) rfl We (KQ rfl rfl (KQ rfl rfl (KQ rfl rfl (C _ (QK (Qo rfl (Qo rfl (QL))) ?_)))))))))));refine Qv ?_;exact QhB rfl rfl rfl rfl rfl ⟨rfl,rfl⟩
theorem Pa {w:Ql} {x:Int} (h:okS w x=true):QmV w:=λhm=>by
 simp only[okS,QEm,decide_eq_true_eq]at h
 grind [Qah,SO,D8]
theorem c_linchpinlaw20_TallyMade {l:List Int} {ry rs:List (List D)} {v1 v2 v3:List UInt8} {w:Ql} {x:Int} (hS:Ok Tryz.prog 30 [Q0 l,.int .i64 0] (.g8 [.sl ry,.sl rs])) (Y:Ok Tryz.prog 32 [Q0 l,.int .i64 460] (.agg [.str v1,.str v2,.str v3])) (hB:Ok Tryz.prog 31 [.sl ry,.sl rs,.agg [.str v1,.str v2,.str v3],.sl []] (.g8 [Q9 w,.int .i64 x])) (hw:Xc w) {most:Int} (hm: -9223372036854775808<=most/\most<=9223372036854775807):Ok Tryz.prog 10 [Q0 l,.int .i64 most,gD] (.bool true):=by
 refine Ok.b9 (ds:=[Q0 l,.int .i64 most]) (dg:=gD) tfol Tryz.func10 QDm (QEi Z) ?_;show TW _ _ tf10.body _ _;refine Qd λK C=>Qb Z (kc3 C Z Z Z (Qd λK C=>Qb Z (QA (Ya hS Y hB hw) Z Z (.inl Z) (Qb Z (QN Z Z (QN Z Z (Zk Z (Za Z Z Z Z Z Z Z Z (Qb Z (kc4 C Z Z Z Z (Qw (Qd λK C=>Qb Z (Zp Z (kc4 C Z Z Z Z (Qs Z (λG=>?_) (λG=>?_))))))))))))))));rw[G];simp only[qA]at G;refine Qd λK C=>QA (Ze) Z Z (.inr Z) (Qb Z (kc1 C Z (Qv (Qi (Qg Z ?_)))));rfl;rw[G];simp only[qA]at G;have M:=Pa (w:=w) (x:=x) Wa;refine Qp (ks3 Z Z Z (Qd λK C=>Qb Z (QA (Z2 Wa Wa) Z Z (.inl Z) (Qb Z (kc3 C Z Z Z (Qd λK C=>QB (cs:=[_]) Z Z Z Z (Qb Z (QA (M2 hw M) Z Z (.inl Z) (Qb Z (QN Z Z (QN Z Z (mv2 Z Z (kc5 C Z Z Z Z Z (Qd λK C=>QB (cs:=[_]) Z Z Z Z (Qb Z (QA (LW hw M) Z Z (.inl Z) (Qb Z (QN Z Z (QN Z Z (mv2 Z Z (kc6 C Z Z Z Z Z Z (Qd λK C=>QB (cs:=[_]) Z Z Z Z (QA (XQ hw) Z Z (.inl Z) (Qb Z (QN Z Z (QN Z Z (mv2 Z Z (kc8 C Z Z Z Z Z Z Z Z (Qd λK C=>QB (cs:=[_]) Z Z Z Z (QA (JB hw M) Z Z (.inl Z) (Qb Z (QN Z Z (QN Z Z (mv2 Z Z (kc9 C Z Z Z Z Z Z Z Z Z (Qd λK C=>QA (Ze) Z Z (.inr Z) (Qb Z (Qq (g:=49) Z (λV=>?_) (λV=>?_)))))))))))))))))))))))))))))))))))))));rw[V];simp only[qA]at V;refine Qc rfl (Qb rfl (Qc rfl (Qb rfl (Qc rfl (QA (Xu (a:=(YY (pA (YE most 20)) [] (chW w)).1) (b:=(YY (pA (YE most 20)) [] (chW w)).1) (by have:=Qcg hw M;grind [DW]) (λr hr=>by rcases Qh5 hr with h |h;cases h;grind [R6])) rfl rfl (.inr rfl) (Qh rfl rfl (Qb rfl ?_)))))))
 refine Qq (g:=54) Z (λU=>?_) (λU=>?_);rw[U];simp only[qA]at U;refine Qc Z (Qb Z (Qc Z (Qb Z (Qc Z (Qay Z Z (Qh Z Z (Qb Z (Qq (g:=59) Z (λT=>?_) (λT=>?_)))))))));rw[T];simp only[qA]at T;refine Qc Z (Qb Z (Qc Z (Qb Z (Qc Z (QA (ZA (a:=(chW w).getLast?.getD []) (b:=(chW w).getLast?.getD []) (by grind [Me])) Z Z (.inr Z) (Qh Z Z (Qb Z ?_)))))));refine Qq (g:=64) Z (λO=>?_) (λO=>?_);rw[O];simp only[qA]at O;refine Qc Z (Qb Z (Qc Z (Qb Z (Qc Z (Qay Z Z (Qh Z Z (Qb Z (kc1 C Z (Qv (Qg Z ?_))))))))));simp
 grind
 grind
 grind
 grind
end Go.Proofs
