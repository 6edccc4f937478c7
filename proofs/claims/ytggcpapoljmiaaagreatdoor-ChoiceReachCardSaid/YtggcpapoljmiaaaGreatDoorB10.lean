/- Part 10 of the means of the proof: a verified evaluator and contracts of functions. -/
import Derived.Test.YtggcpapoljmiaaaGreatDoorB9
set_option maxRecDepth 4000
set_option maxHeartbeats 4000000
set_option linter.unusedSimpArgs false
set_option linter.unusedVariables false
set_option linter.unusedSectionVars false
namespace Go.Abs
open Go
variable {H:QAh} {P:Program} {d:D} {f n:Nat} {s:St} {α:Type}
def gZ:List Nat:=[500000]
def Qtq:D->Bool
 | .ref _ _ _=>true
 |_=>false
def idZ (H:QAh):Bool:=H.all λp=>okN gZ p.1&&p.2.rows.all λr=>r.all λd=>d.l4.all (okN gZ)
def Qms (zcall:Nat->List D->QAh->Option (D × QAh)) (op:a6) (dst:Option Nat) (s:St):Option St:=
 match op,dst with
 | .call f args,some t=>ob (QF s args) λds=>gd (ds.any Qtq&&s.fr.all λp=>p.2.ids.all λk=>!gZ.contains k)
   (ob (zcall f (ds.map λd=>(d.n5 (ZM gZ)).can) (Xv gZ s.H)) λq=>
    gd (q.1.ids.isEmpty&&(idZ q.2&&((s.H.all λp=>(lk (KL (unZ gZ) q.2) p.1).isSome)&&(KL (unZ gZ) q.2).all λp=>gZ.contains p.1||(lk s.H p.1).isSome))) (some ⟨(t,q.1)::s.fr,KL (unZ gZ) q.2⟩))
 |_,_=>none
theorem K9 {l:List (Nat × α)} {j:Nat} (h:(lk l j).isSome=true):∃b,(j,b)∈l:=by
 obtain⟨b,hb⟩:=QAq.1 h;exact⟨b,QZ hb⟩
section
variable {P:Program} {zcall:Nat->List D->QAh->Option (D × QAh)} {call:Nat->List D->Option D}
theorem QaD (hz:∀f ds H d H',zcall f ds H=some (d,H')->s6 P f ds H d H') {op:a6} {dst:Option Nat} {g:Option (Nat × Bool)} {s':St} {K:St->Prop} (T:gw s g=some true) (h:Qms zcall op dst s=some s') (hk:K s'):Qcq P ⟨dst,op,g⟩ K s:=by
 unfold Qms at h;split at h;rename_i f args t;obtain⟨ds,h1,h2⟩:=Qh h;obtain⟨M,Y⟩:=Q3 h2;obtain⟨⟨d,H1⟩,h5,V⟩:=Qh Y;obtain⟨G,U⟩:=Q3 V;cases U
 simp only[QAo]at M G;obtain⟨a1,a2,a3,a4⟩:=G;have O:d.ids=[]:=QBn.1 a1
 have hm:Xv gZ (KL (unZ gZ) H1)=H1:=PT (f:=ZM gZ) (g:=unZ gZ) λp hp=>by
  have:=QAu.1 a2 p hp;rw[QAo]at this;exact⟨QBC this.1,λr hr d hd k hk=>QBC (QAu.1 (QAu.1 (QAu.1 this.2 r hr) d hd) k hk)⟩
 refine⟨s,le_refl s,T,t,f,args,gZ,KL (unZ gZ) H1,d,rfl,.inl rfl,⟨ds,h1,rfl,Qqe M.2,λk hk=>by grind,λj C=>?_,λj C=>?_,by grind⟩,hk⟩;obtain⟨b,hb⟩:=K9 C
 grind
 obtain⟨b,hb⟩:=K9 C
 grind
 grind
def Dl (call:Nat->List D->Option D) (zcall:Nat->List D->QAh->Option (D × QAh)):List z1->St->Option St
 |[],s=>some s
 |⟨dst,op,g⟩::r,s=>match gw s g with
  |some true=>(match Qms zcall op dst s with
   |some s1=>Dl call zcall r s1
   |none=>ob (QcQ call false .fixed [⟨dst,op,g⟩] s) λs1=>Dl call zcall r s1)
  |_=>ob (QcQ call false .fixed [⟨dst,op,g⟩] s) λs1=>Dl call zcall r s1
theorem Hg (G:∀f ds d,call f ds=some d->Ok P f ds d) (C:∀f ds H d H',zcall f ds H=some (d,H')->s6 P f ds H d H'):∀{l:List z1} {s s':St},Dl call zcall l s=some s'->∀K:St->Prop,K s'->Yu P l K s
 |[],s,s',h,K,hk=>by simp only[Dl,QAn]at h;subst h;exact hk
 |⟨dst,op,g⟩::r,s,s',h,K,hk=>by
  have one:(ob (QcQ call false .fixed [⟨dst,op,g⟩] s) λs1=>Dl call zcall r s1)=some s'->Yu P (⟨dst,op,g⟩::r) K s:=λh=>by
   obtain⟨s1,h1,h2⟩:=Qh h;exact SB (l:=[⟨dst,op,g⟩]) (r:=r) (ZX (w:=false) G h1 (Hg G C h2 K hk)) rfl
  simp only[Dl]at h;split at h;rename_i M;split at h;rename_i s1 h1;exact Br (QaD C M h1 (Hg G C h K hk))
  grind
  grind
theorem Qea {nt:Nat} {Q:AExit->St->Prop} {l:List z1} (h:Yu P l (Q .normal) s):TW P nt (.region false l) Q s:=FE h
theorem TP {g:Gh} {c:Array Value}:∀{off:Nat} {rs:List (List D)} (n:Nat),o5 g c off rs->o5 g c off (rs.take n)
 |_,[],n,h=>by grind
 |_,_::_,0,_=>by trivial
 |off,r::rs,n+1,h=>by
  simp only[List.take_succ_cons,o5]at h ⊢;exact⟨h.1,TP n h.2⟩
theorem QiL {fr:QAi} (k n:Nat) {b:u4} (hb:lk H k=some b) (hz:b.l0≠0):St.le ⟨fr,H⟩ ⟨fr,(k,{b with rows:=b.rows.take n})::H⟩:=λE g a w r=>by
 have C:∀i,(lk ((k,{b with rows:=b.rows.take n})::H) i).isSome=(lk H i).isSome:=λi=>by
  grind [Qf]
 have get:∀i x,lk ((k,{b with rows:=b.rows.take n})::H) i=some x->∃x',lk H i=some x':=λi x h=>by
  grind [Qf]
 refine⟨g,r.nt,r.df,r.fr,λt d h i hi=>by rw[C];exact r.r9 t d h i hi,λi x h j Y=>?_,λi x h=>?_,λi i' x x' B e e' h1 h2=>?_,r.kr,r.ext,r.kx,λi hi=>let⟨U,T,O,M⟩:=r.kp i hi;⟨U,T,O,by grind⟩⟩
 rw[Qf]at h;rw[C];split at h;cases h
 refine r.v9 k _ hb j ?_;revert Y;unfold u4.ids
 grind
 exact r.v9 i x h j Y;rw[Qf]at h;split at h;rename_i e;cases h;subst e;obtain⟨U,T,O⟩:=r.bx k b hb;refine⟨λr0 G=>U r0 (QAE G),λhp r0 G=>T hp r0 (QAE G), ?_⟩;rcases O with⟨M,q5⟩ |⟨_,B,c,p1,p2,p3,p4,p5⟩
 have e:({b with rows:=b.rows.take n}:u4)=b:=by rw[M,List.take_nil,<- M]
 grind
 grind [TP]
 exact r.bx i x h;obtain⟨y,hy⟩:=get i x h1;obtain⟨y',V⟩:=get i' x' h2;exact r.inj i i' y y' B e e' hy V
def Qrf (k:Nat):D->Nat
 | .s4 j n=>if Nat.beq j k=true then n else 0
 |d=>if d.l4.contains k=true then 1000000000 else 0
def QvK (k:Nat) (d:D):Nat:=match d with
 | .agg cs=>cs.foldl (λm c=>max m (Qrf k c)) 0
 |d=>Qrf k d
def QgY (k n:Nat) (s:St):St:=
 match lk s.H k with
 |some b=>if(!Nat.beq b.l0 0&&(Nat.ble (n+1) b.rows.length&&(s.fr.all (λp=>Nat.ble (QvK k p.2) n)&&s.H.all λp=>p.2.pr||!p.2.ids.contains k)))=true then⟨s.fr,(k,{b with rows:=b.rows.take n})::s.H⟩else s
 |none=>s
theorem QgZ (k n:Nat) (s:St):s.le (QgY k n s):=by
 unfold QgY;split;rename_i b hb;split;rename_i C;simp only[QAo,QBq]at C;exact QiL k n hb λe=>by simp_all
 grind [le_refl]
 grind [le_refl]
def Qg0:QAi->St->St
 |[],s=>s
 |p::l,s=>match p.2 with
  | .s4 k n=>Qg0 l (QgY k n s)
  |_=>Qg0 l s
theorem DC:∀(l:QAi) (s:St),s.le (Qg0 l s)
 |[],s=>le_refl s
 |p::l,s=>by
  unfold Qg0;split;exact le_trans (QgZ _ _ s) (DC l _);exact DC l s
def Qob (l:List Nat) (s:St):St:=match Qhc l s with
 |s1=>Qg0 s1.fr s1
theorem Qjr (l:List Nat) (s:St):s.le (Qob l s):=le_trans (QcZ l s) (DC _ _)
def Qrw (ops:List z1) (s:St):St:=s.s8 ((ops.flatMap λo=>match o.op with
 | .call _ args=>args.flatMap λx=>Qdx (s.ev (QoI (λt=>(lk s.fr t).isSome) ops 3 x))
 |_=>[]).filter λk=>Nat.ble (k+1) 1000000)
theorem Qfd (ops:List z1) (s:St):s.le (Qrw ops s):=My _ s λk hk=>QAk (List.mem_filter.1 hk).2
def orE (a:Option α) (b:Unit->Option α):Option α:=match a with
 |some x=>some x
 |none=>b ()
def RI (call:Nat->List D->Option D) (zcall:Nat->List D->QAh->Option (D × QAh)):Nat->y5->St->Option (AExit × St)
 |0,_,_=>none
 |n+1,c,s=>match c with
  | .skip=>some (.normal,s)
  | .region dr ops=>(match dr with
   |true=>ob (orE (QcQ call false (Dr.of (J8 ops (QhB ops s)).H true) ops (J8 ops (QhB ops s))) λ_=>QcQ call false (Dr.of (J8 ops (Qrw ops s)).H true) ops (J8 ops (Qrw ops s))) λs1=>some (.normal,s1)
   |false=>ob (orE (Dl call zcall ops (J8 ops (QhB ops s))) λ_=>Dl call zcall ops (J8 ops (Qrw ops s))) λs1=>some (.normal,s1))
  | .ba ops=>ob (QcQ call true (Dr.of (J8 ops (QhB ops s)).H true) ops (J8 ops (QhB ops s))) λs1=>some (.normal,s1)
  | .seq a l b=>ob (RI call zcall n a s) λ(e,s1)=>match e with
   | .normal=>RI call zcall n b (Qob l s1)
   | .exit i=>some (.exit i,s1)
   | .ret=>some (.ret,s1)
  | .cond c a b=>ob (s.ev c) λd=>match d with
   | .bool true=>RI call zcall n a s
   | .bool false=>RI call zcall n b s
   |_=>none
  | .block id a=>ob (RI call zcall n a s) λ(e,s1)=>match e with
   | .exit i=>if i=id then some (.normal,s1)else some (.exit i,s1)
   | .normal=>some (.normal,s1)
   | .ret=>some (.ret,s1)
  | .loop a=>ob (RI call zcall n a s) λ(e,s1)=>match e with
   | .normal=>RI call zcall n (.loop a) s1
   | .exit i=>some (.exit i,s1)
   | .ret=>some (.ret,s1)
  | .scope a=>RI call zcall n a s
  | .exit id=>some (.exit id,s)
  | .ret=>some (.ret,s)
  | .n8 _ _ _ _=>none
theorem To (O:∀f ds d,call f ds=some d->Ok P f ds d) (U:∀f ds H d H',zcall f ds H=some (d,H')->s6 P f ds H d H') {nt:Nat}:∀(n:Nat),(∀{c:y5} {s s1:St} {e:AExit},RI call zcall n c s=some (e,s1)->TW P nt c (λe2 s2=>e2=e/\s2=s1) s)/\
  ∀{a:y5} {s s1:St} {e:AExit},RI call zcall n (.loop a) s=some (e,s1)->∃m,x8 P nt a e s1 m s
 |0=>⟨λh=>(by cases h),λh=>(by cases h)⟩
 |n+1=>by
  obtain⟨G,T⟩:=To O U (nt:=nt) n
  have V:∀{a:y5} {s s1:St} {e:AExit},RI call zcall (n+1) (.loop a) s=some (e,s1)->∃m,x8 P nt a e s1 m s:=by
   intro a s s1 e h;simp only[RI]at h;obtain⟨⟨e2,s2⟩,h1,h2⟩:=Qh h;dsimp only at h2;have C:=G h1;split at h2
   ·obtain⟨m,Y⟩:=T h2;exact⟨m+1,.next C (le_refl _) Y⟩
   cases h2;exact⟨0,.stop C Wc⟩
   cases h2;exact⟨0,.stop C Wc⟩
  refine⟨?_,V⟩;intro c s s1 e h;cases c with
  |skip=>simp only[RI,QAn,QBc]at h;obtain⟨rfl,rfl⟩:=h;exact Tf ⟨rfl,rfl⟩
  |region dr ops=>
   cases dr with
   |true=>
    simp only[RI]at h;obtain⟨s2,h1,h2⟩:=Qh h;cases h2
    unfold orE at h1;split at h1;rename_i C;cases h1;exact BI (le_trans (RQ ops s) (XM ops _)) (MW λK M=>ZX O C (M _ ⟨rfl,rfl⟩));exact BI (le_trans (Qfd ops s) (XM ops _)) (MW λK M=>ZX O h1 (M _ ⟨rfl,rfl⟩))
   |false=>
    simp only[RI]at h;obtain⟨s2,h1,h2⟩:=Qh h;cases h2
    unfold orE at h1;split at h1;rename_i C;cases h1;exact BI (le_trans (RQ ops s) (XM ops _)) (Qea (Hg O U C _ ⟨rfl,rfl⟩));exact BI (le_trans (Qfd ops s) (XM ops _)) (Qea (Hg O U h1 _ ⟨rfl,rfl⟩))
  |ba ops=>
   simp only[RI]at h;obtain⟨s2,h1,h2⟩:=Qh h;cases h2
   exact BI (le_trans (RQ ops s) (XM ops _)) (T5 λK M=>ZX (w:=true) O h1 (M _ ⟨rfl,rfl⟩))
  |seq a l b=>
   simp only[RI]at h;obtain⟨⟨e2,s2⟩,h1,h2⟩:=Qh h;dsimp only at h2;have C:=G h1;split at h2;exact HO (ι:=Unit) (λ_=>Qob l s2) (λ_=>True) (Zk (λ_ _ ⟨p,q⟩=>by subst p q;exact⟨(),Qjr l _,trivial⟩) C) λ_ _=>G h2
   cases h2;exact Hy (Zk (λ_ _ ⟨p,q⟩=>by subst p q;trivial) C)
   cases h2;exact Hy (Zk (λ_ _ ⟨p,q⟩=>by subst p q;trivial) C)
  |cond c a b=>
   grind [RI,Qs,QH]
  |block id a=>
   simp only[RI]at h;obtain⟨⟨e2,s2⟩,h1,h2⟩:=Qh h;dsimp only at h2;have C:=G h1;refine HN (Zk (λe3 s3 ⟨p,q⟩=>?_) C);subst p q;split at h2;split at h2
   (repeat clear M K);simp_all [YZ]
   (repeat clear M K);simp_all [YZ]
   cases h2;trivial
   cases h2;trivial
  |loop a=>obtain⟨m,h1⟩:=V h;exact h1.tw
  |scope a=>grind [RI,Ri]
  |exit id=>simp only[RI,QAn,QBc]at h;obtain⟨rfl,rfl⟩:=h;exact Rh ⟨rfl,rfl⟩
  |ret=>simp only[RI,QAn,QBc]at h;obtain⟨rfl,rfl⟩:=h;exact BY ⟨rfl,rfl⟩
  |n8 x p q a=>trivial
def QqC (s:St):XE->Option D
 | .tmp t=>ob (lk s.fr t) λp=>some (F7 small s p)
 | .cell t agg sz=>ob (lk s.fr t) λp=>ob (s.yc p) λcells=>match agg with
  |true=>gd (Nat.ble sz cells.length) (some (F7 small s (.agg (cells.take sz))))
  |false=>ob cells.head? λq=>some (F7 small s q)
theorem QaP {r:XE} (h:QqC s r=some d):XQ small s r d:=by
 cases r with
 |tmp t=>
  obtain⟨p,h1,h2⟩:=Qh h;cases h2;exact⟨p,h1,rfl⟩
 |cell t agg sz=>
  obtain⟨p,h1,h2⟩:=Qh h;obtain⟨cells,G,C⟩:=Qh h2;refine⟨p,cells,h1,HS.2 G, ?_⟩;cases agg
  grind
  obtain⟨O,M⟩:=Q3 C;simp_all
def QsU (H:QAh):List Nat:=((H.map Prod.fst).filter λk=>Nat.ble 1000000 k).eraseDups
def Qqq (H:QAh):List Nat:=((QsU H).flatMap λk=>match lk H k with
 |some b=>b.ids.filter λj=>Nat.ble (j+1) 1000000
 |none=>[]).eraseDups
def MI (s:St):St:=
 match Qqq s.H with
 |[k]=>if Nat.beq k 500000=true then s else s.n5 (Zy k 500000)
 |_=>s
theorem QmU {k:Nat} (h:k∈Qqq H):k<1000000:=by
 unfold Qqq at h;rw[List.mem_eraseDups]at h;obtain⟨j,_,h⟩:=QAr.1 h;split at h;exact QAk (List.mem_filter.1 h).2
 grind
theorem QiW (s:St):s.le (MI s):=by
 grind [MI,le_refl,K5,QmU]
def Qrs (rs:List XE) (H0:QAh) (s:St):Option (D × QAh):=
 match MI s,rs with
 |s2,[r]=>ob (QqC s2 r) λd=>match Zv (QsU s2.H++Qqq s2.H) s2.H with
  |H'=>gd (d.ids.isEmpty&&((H0.all λp=>!Nat.ble 1000000 p.1||(lk H' p.1).isSome)&&H'.all λp=>Nat.ble 500000 p.1&&p.2.ids.all λj=>(lk H' j).isSome)) (some (d,H'))
 |_,_=>none
theorem Qdo {rs:List XE} {H0 H':QAh} (h:Qrs rs H0 s=some (d,H')):∃s2,s.le s2/\(∀k,1000000<=k->(lk H0 k).isSome=true->(lk H' k).isSome=true)/\(∀k b,lk H' k=some b->500000<=k/\∀j∈b.ids,(lk H' j).isSome=true)/\∀e,(∀i,e≠.exit i)->Na rs d H' e s2:=by
 unfold Qrs at h;split at h;rename_i r;obtain⟨d1,h1,h2⟩:=Qh h;dsimp only at h2;obtain⟨M,T⟩:=Q3 h2;cases T
 simp only[QAo]at M;obtain⟨Y,V,U⟩:=M;refine⟨MI s,QiW s,λk hk O=>?_,λk b hb=>?_,λe he=>?_⟩;obtain⟨b,hb⟩:=K9 O;have:=QAu.1 V _ hb
 (repeat clear hK K);simp_all [QBE]
 have:=QAu.1 U _ (QZ hb)
 (repeat clear hK K);simp_all
 have hp:((([r]:List XE)=[]/\d=.u7 [])\/(∃C,[r]=[C]/\XQ small (MI s) C d)\/(∃C G d1 d2,[r]=[C,G]/\d=.u7 [d1,d2]/\d1.pure=true/\d2.pure=true/\XQ small (MI s) C d1/\XQ small (MI s) G d2)\/∃C G cs d2,[r]=[C,G]/\d=.w9 cs d2/\d2.pure=true/\XQ small (MI s) C (.agg cs)/\XQ small (MI s) G d2)/\∀k b,lk (Zv (QsU (MI s).H++Qqq (MI s).H) (MI s).H) k=some b->lk (MI s).H k=some b:=by
  refine⟨.inr (.inl ⟨r,rfl,QaP h1⟩),λk b hb=>?_⟩
  (repeat clear hK K);simp_all [JJ]
 cases e with
 |exit i=>grind
 |normal=>exact hp
 |ret=>exact hp
 grind
def exX (orc:Nat->List D->Option D) (tab:List (Nat × z5)):Nat->Nat->List D->QAh->Option (D × QAh)
 |0,_,_,_=>none
 |n+1,f,ds,H=>ob (lk tab f) λtf=>gd (Nat.ble ds.length tf.nt) (ob (RI (λf ds=>match orc f ds with
   |some d=>some d
   |none=>ob (exX orc tab n f ds []) λp=>some p.1) (λf ds H=>match H with
   |[]=>none
   |p::H=>exX orc tab n f ds (p::H)) n tf.body ⟨Pr 0 ds,H⟩) λq=>match q.1 with
  | .exit _=>none
  |_=>(match H with
   |[]=>ob (Qt1 q.2 tf.rs) λd=>some (d,[])
   |_=>Qrs tf.rs H q.2))
theorem Gj (hm:P.follows .mixedOrders=true) {orc:Nat->List D->Option D} (ho:∀f ds d,orc f ds=some d->Ok P f ds d) {M:List (Nat × z5)} (O:Qdb P M):∀(n:Nat) {f:Nat} {ds:List D} {H H':QAh} {d:D},exX orc M n f ds H=some (d,H')->(H=[]->Ok P f ds d)/\(H≠[]->s6 P f ds H d H')
 |0,_,_,_,_,_,h=>by cases h
 |n+1,f,ds,H,H',d,h=>by
  simp only[exX]at h;obtain⟨tf,h1,h2⟩:=Qh h;obtain⟨h3,h4⟩:=Q3 h2;obtain⟨⟨e,s⟩,h5,T⟩:=Qh h4;obtain⟨V,fn,Y,hp⟩:=O f tf h1
  have U:=(To (P:=P) (nt:=tf.nt) (λf ds d h=>by
   split at h;rename_i e;cases h;exact ho _ _ _ e;obtain⟨⟨d1,H1⟩,G,C⟩:=Qh h;cases C
   exact(Gj hm ho O n G).1 rfl) (λf ds H d H' h=>by
   cases H with
   |nil=>cases h
   |cons p H=>exact(Gj hm ho O n h).2 Wc) n).1 h5
  dsimp only at T;refine⟨λhH=>?_,λhH=>?_⟩;subst hH;refine Ok.n6 hm Y hp (QAk h3) (Zk (λe2 s2 ⟨p,q⟩=>?_) U) V;subst p q;cases e2 with
  |exit i=>grind
  |normal=>obtain⟨d1,G,C⟩:=Qh T;cases C;exact GU G
  |ret=>obtain⟨d1,G,C⟩:=Qh T;cases C;exact GU G
  have key:Qrs tf.rs H s=some (d,H')/\∀i,e≠.exit i:=by
   grind
  obtain⟨s2,G,C,q3,q4⟩:=Qdo key.1;exact s6.n6 hm Y hp (QAk h3) C q3 (D1 (Zk (λe2 s3 ⟨p,q⟩=>by grind) U)) V
end
def ctX (P:Program) (orc:Nat->List D->Option D) (fs:List Nat) (n:Nat) (c:Ct) (f:Nat):Bool:=
 (Nat.beq c.nx 1&&(Nat.beq c.mx 1&&c.rc.isEmpty))&&(match Qoy c.az with
  |some l=>(match QhF P fs with
   |tab=>l.all λds=>match exX orc tab n f ds []with
    |some p=>QrQ c.rv p.1
    |none=>false)
  |none=>false)
theorem Ct.md {orc:Nat->List D->Option D} {fs:List Nat} {c:Ct} (hm:P.follows .mixedOrders=true) (ho:∀f ds d,orc f ds=some d->Ok P f ds d) (h:ctX P orc fs n c f=true):c.ok P f:=by
 intro μ ds U T O M;simp only[ctX,QAo]at h;obtain⟨⟨h1,h2,V⟩,G⟩:=h;split at G;rename_i l e1;have C:=QAu.1 G _ (Qai e1 M);split at C;rename_i p e2;refine⟨[],p.1, ?_, ?_,Qgy C,Ok.can ((Gj hm ho (GB fs) n (H':=p.2) e2).1 rfl)⟩
 (repeat clear hK K);simp_all
 grind [QO]
 grind
 grind
theorem Ct.parts {ls:List (List UInt8)} {az:List Vl} {cs:List Cn} {rv:Vl} {m:Nat} {rc:List Cn} {gs:List (List (List UInt8))} (T:(ls.all λl=>gs.any λg=>g.contains l)=true) (h:∀g∈gs,Ct.ok P f ⟨.ty (.c g)::az,n,cs,rv,m,rc⟩):Ct.ok P f ⟨.ty (.c ls)::az,n,cs,rv,m,rc⟩:=by
 intro μ ds O M G C;obtain⟨d,r,rfl,⟨l,h1,rfl⟩,h2⟩:=C;obtain⟨g,U,V⟩:=QBs.1 (QAu.1 T l h1);exact h g U μ _ O M G ⟨_,r,rfl,⟨l,by grind,rfl⟩,h2⟩
end Go.Abs
