/- Part 37 of the means of the proof: a verified evaluator and contracts of functions. -/
import Derived.Test.YtggcpapoljmiaaaGreatDoorB36
import Derived.Test.YtggcpapoljmiaaaGreatDoorB11
import Derived.Test.YtggcpapoljmiaaaGreatDoorB12
import Derived.Test.YtggcpapoljmiaaaGreatDoorB13
import Derived.Test.YtggcpapoljmiaaaGreatDoorB14
set_option maxRecDepth 4000
set_option maxHeartbeats 4000000
set_option linter.unusedSimpArgs false
set_option linter.unusedVariables false
set_option linter.unusedSectionVars false
namespace Go.Proofs
open Go Go.Abs
set_option maxRecDepth 100000
set_option maxHeartbeats 0
set_option cbv.maxSteps 100000000
def t59:TT false Tryz.f59:=⟨_,by cbv⟩
def tf59:z5:=t59.1
theorem QzV:Qj Tryz.prog Tryz.f59=some tf59.erase:=by kernel_rfl
end Go.Proofs
namespace M25
open Go Go.Abs M3
def tkM (w:Qe) (c:List Int) (u:Int):Int:=if CW w c u<=1 then -1 else cA c u
theorem Qn9 {w:Qe} {c:List Int} {u:Int} (h:CW w c u<=1):tkM w c u= -1:=by rw[tkM,if_pos h]
end M25
namespace Go.Proofs
open Go Go.Abs M3 M25
theorem ZO {w:Qe} (hw:WSm w) {c:List Int} (C:T1 w c) {x:QN} (hx:0<=x.u/\x.u<w.length) (M:Sm x.s.1/\Sm x.s.2):Ok Tryz.prog 59 [QW w,Qz c,.agg (Fo x)] (.bool (mtM w c x)):=by
 refine Ok.n6 tfol Tryz.func59 QzV (QAk Z) ?_;show TW _ _ tf59.body _ _;have T:=C.len;have G:x.u.toNat<c.length:=Wa;have hb:=Ms C G;refine aX ?_ ?_;intro h1;have O:=PB hb.2 h1;refine aK ?_;refine Qr (ds0:=[1,0]) (J6 (s:=x.s) M.1 M.2 (hw.vs _ (QAp (Wa:x.u.toNat<w.length)) _ (QAp O)).1 (hw.vs _ (QAp (Wa:x.u.toNat<w.length)) _ (QAp O)).2) Z Z (.inr Z) Z Z (aK ?_)
 (rw[Qkh hw C hx.1 hx.2 G h1 (PB hb.2 h1)];rfl)
 intro h1
 grind [QdD]
section
variable {w:Qe} {c t:List Int}
theorem Qkv (hw:WSm w) (hr:WIn w) (M:T1 w c) {i:Nat} {r:List QN} (hi:i<c.length) (hp:0<=c[i]) (h:r∈Jc w c i):∀x∈r,0<=x.u/\x.u<w.length:=by
 have C:i<w.length:=by rw[<- M.len];omega
 have G:=PB (Ms M hi).2 hp;rw[KN C hi G]at h;exact hr.nr _ (QAp C) _ (QAp G) r h
end
section
variable {w:Qe} {c t:List Int}
theorem QtW (h:ya w) (C:wa w c):Qwy w c (neededR w c):=by
 have hm:=Pf (DL h) C;have M:=C.ch;have h0:0<c.length:=by rw[C.len];have:=h.len;omega
 rw[neededR,if_pos hm];have T:(nddL w c).length=c.length:=by simp[nddL]
 have nd:∀i (U:i<(nddL w c).length),(nddL w c)[i]=nddB w c i:=λi U=>by simp[nddL]
 have of:∀{i},nddB w c i=true->Ndd w c i:=λe=>@of_decide_eq_true _ (Classical.propDecidable _) e;have e3:cA c ((0:Nat):Int)=c[0]:=HX h0;rw[show((0:Nat):Int)=0 from rfl]at e3;refine⟨T,λh1 h2=>?_,λi h1 h2 e=>?_,λi h2 hi e=>?_⟩;rw[nd]
 by_cases hp:0<=c[0]
 rw[Qf0 (.root (by rw[e3];exact hp)),decide_eq_true hp]
 rw[QmI λO=>hp (MJ h.se h.jf M h0 O).2,decide_eq_false hp];rw[nd]at e;exact(MJ h.se h.jf M h0 (of e)).2;rw[nd]at e;have O:=of e;cases O with
 |root=>omega
 | @step j r x hj hr hx hmx=>
  obtain⟨G,hp⟩:=MJ h.se h.jf M h0 hj;have hb:=Qkv h.se h.jf M G hp hr x hx;exact⟨j,G,Wa,by rw[nd];exact Qf0 hj,hp,r,hr,x,hx,Wa,hmx⟩
end
end Go.Proofs
namespace Go.Proofs
open Go Go.Abs
set_option maxRecDepth 100000
set_option maxHeartbeats 0
set_option cbv.maxSteps 100000000
def t8:TT false Tryz.f8:=⟨_,by cbv⟩
def tf8:z5:=t8.1
theorem tp8:Qj Tryz.prog Tryz.f8=some tf8.erase:=by kernel_rfl
def t39:TT false Tryz.f39:=⟨_,by cbv⟩
def tf39:z5:=t39.1
theorem QzL:Qj Tryz.prog Tryz.f39=some tf39.erase:=by kernel_rfl
open M3 M25
set_option maxRecDepth 4000
set_option maxHeartbeats 4000000
variable {w:Qe}
def Qrm (w:Qe) (c:List Int) (o:List Bool) (i:Int) (j:Nat):Prop:=∃hj:j<c.length,∃hj2:j<o.length,o[j]=true/\0<=c[j]/\∃r∈Jc w c j,∃x∈r,x.u=i/\mtM w c x=true
theorem Qtv {p:Nat->Prop} {j:Nat} (h:∀k,k<j->¬p k) (h1:¬p j):∀k,k<j+1->¬p k:=λk hk=>by
 rcases Nat.lt_or_eq_of_le (Nat.le_of_lt_succ hk)with h2 |rfl;exact h k h2;exact h1
theorem Qn9 {α:Type} {l:List α} {p:α->Prop} {b:Nat} (h:∀x∈l.take b,¬p x) (hb:b<l.length) (h1:¬p l[b]):∀x∈l.take (b+1),¬p x:=λx hx=>by
 rw[QBv hb,QAv,QAt]at hx;rcases hx with hx |rfl
 exact h x hx;exact h1
theorem HA (T:WSm w) (hr:WIn w) {c:List Int} (O:T1 w c) {o:List Bool} (ho:o.length=c.length) {i:Int} (hx:∃j,Qrm w c o i j):Ok Tryz.prog 39 [QW w,Qz c,X9 o,.int .i64 i] (.bool true):=by
 refine Ok.n6 tfol Tryz.func39 QzL (QAk rfl) ?_;show TW _ _ tf39.body _ _;have hcl:=O.len;have hwl:=T.len;refine aS ?_;refine Qt (ι:=Nat) (λj=>⟨[(1,Qz c),(2,X9 o),(3,.int .i64 i),(4,.ref 4 0 0),(9,.int .i64 j)],[(4,⟨[[.sl (w.map Zi)]],1,25,true⟩)]⟩) (λj=>j<=c.length/\∀k,k<j->¬Qrm w c o i k) (λj=>c.length - j) 0 ?_ ?_ ?_;exact Ql (l:=[1,2,3,4,9]) (lH:=[4]) (Qd rfl (Qd rfl (Qd rfl (Qd rfl (Qd rfl Qy))))) (Qa rfl Qb) rfl rfl rfl;exact⟨QAw _,λ_ h=>absurd h (QBH _)⟩;intro j hj
 try dsimp only
 refine aB ?_ ?_
 ·intro h1;have next:¬Qrm w c o i j->∀k,k<j+1->¬Qrm w c o i k:=Qtv hj.2
  refine aB ?_ ?_;intro h2;refine Qs rfl (aK ?_);refine Qc (j+1) ?_ ?_ ?_;exact Ql (l:=[1,2,3,4,9]) (lH:=[4]) (Qd rfl (Qd rfl (Qd rfl (Qd rfl (Qd rfl Qy))))) (Qa rfl Qb) rfl rfl rfl
  ·exact⟨Wa,next λ⟨_,_,e,_⟩=>by simp_all⟩
  omega;intro h2;refine aB ?_ ?_;intro h3;refine Qc (j+1) ?_ ?_ ?_;exact Ql (l:=[1,2,3,4,9]) (lH:=[4]) (Qd rfl (Qd rfl (Qd rfl (Qd rfl (Qd rfl Qy))))) (Qa rfl Qb) rfl rfl rfl
  ·exact⟨Wa,next λ⟨_,_,_,e,_⟩=>Wa⟩
  omega;intro h3;have G:j<w.length:=Wa;have hjc:j<c.length:=Wa;have hbd:=Ms O hjc;have M:=PB hbd.2 Wa;have er:=KN G hjc M;have hnn:=T.ns _ (QAp G) _ (QAp M);have hnl:=T.nl _ (QAp G) _ (QAp M);have V:=T.nw _ (QAp G) _ (QAp M);have U:=hr.nr _ (QAp G) _ (QAp M);have hbd2:=hbd.2;refine aK ?_;obtain⟨ns,Y⟩:∃ns,ns=w[j].cs[c[j].toNat].ns:=⟨_,rfl⟩;rw[<- Y]at er hnn hnl V U;refine Qt (ι:=Nat) (λk=>⟨[(1,Qz c),(2,X9 o),(3,.int .i64 i),(4,.ref 4 0 0),(9,.int .i64 j),(44,Xm ns),(45,.int .i64 ns.length),(46,.int .i64 k)],[(4,⟨[[.sl (w.map Zi)]],1,25,true⟩)]⟩) (λk=>k<=ns.length/\∀r∈ns.take k,∀x∈r,¬(x.u=i/\mtM w c x=true)) (λk=>ns.length - k) 0 ?_ ?_ ?_;exact Ql (l:=[1,2,3,4,9,44,45,46]) (lH:=[4]) (Qd rfl (Qd rfl (Qd rfl (Qd rfl (Qd rfl (Qd rfl (Qd rfl (Qd rfl Qy)))))))) (Qa rfl Qb) (by rw[Y];rfl) rfl rfl
  exact⟨QAw _,by simp⟩;intro k hk
  try dsimp only
  refine aB ?_ ?_;intro h4;refine Qt (ι:=Nat) (λb=>⟨[(1,Qz c),(2,X9 o),(3,.int .i64 i),(4,.ref 4 0 0),(9,.int .i64 j),(44,Xm ns),(45,.int .i64 ns.length),(46,.int .i64 k),(50,ZR (ns[k]'Wa)),(51,.int .i64 (ns[k]'Wa).length),(52,.int .i64 b)],[(4,⟨[[.sl (w.map Zi)]],1,25,true⟩)]⟩) (λb=>b<=(ns[k]'Wa).length/\∀x∈(ns[k]'Wa).take b,¬(x.u=i/\mtM w c x=true)) (λb=>(ns[k]'Wa).length - b) 0 ?_ ?_ ?_;exact Ql (l:=[1,2,3,4,9,44,45,46,50,51,52]) (lH:=[4]) (Qd rfl (Qd rfl (Qd rfl (Qd rfl (Qd rfl (Qd rfl (Qd rfl (Qd rfl (Qd rfl (Qd rfl (Qd rfl Qy))))))))))) (Qa rfl Qb) rfl rfl rfl;exact⟨QAw _,by simp⟩;intro b hb
  try dsimp only
  have hrl:=hnl _ (QAp (Wa:k<ns.length));refine aB ?_ ?_;intro h5;have hxu:=U _ (QAp (Wa:k<ns.length)) _ (QAp (Wa:b<(ns[k]'Wa).length));have hxs:=V _ (QAp (Wa:k<ns.length)) _ (QAp (Wa:b<(ns[k]'Wa).length));refine aB ?_ ?_;intro h6;refine Qg (ZO T O hxu hxs) rfl rfl (.inr rfl) (aB ?_ ?_);intro h7;rfl;intro h7;refine Qc (b+1) ?_ ?_ ?_;exact Ql (l:=[1,2,3,4,9,44,45,46,50,51,52]) (lH:=[4]) (Qd rfl (Qd rfl (Qd rfl (Qd rfl (Qd rfl (Qd rfl (Qd rfl (Qd rfl (Qd rfl (Qd rfl (Qd rfl Qy))))))))))) (Qa rfl Qb) rfl rfl rfl;exact⟨Wa,Qn9 hb.2 Wa (λh=>by rw[h7]at h;exact absurd h.2 Wc)⟩
  omega;intro h6;refine QH rfl (aK ?_);refine Qc (b+1) ?_ ?_ ?_;exact Ql (l:=[1,2,3,4,9,44,45,46,50,51,52]) (lH:=[4]) (Qd rfl (Qd rfl (Qd rfl (Qd rfl (Qd rfl (Qd rfl (Qd rfl (Qd rfl (Qd rfl (Qd rfl (Qd rfl Qy))))))))))) (Qa rfl Qb) rfl rfl rfl;exact⟨Wa,Qn9 hb.2 Wa (λh=>h6 h.1)⟩;omega;intro h5;refine Qc (k+1) ?_ ?_ ?_;exact Ql (l:=[1,2,3,4,9,44,45,46]) (lH:=[4]) (Qd rfl (Qd rfl (Qd rfl (Qd rfl (Qd rfl (Qd rfl (Qd rfl (Qd rfl Qy)))))))) (Qa rfl Qb) rfl rfl rfl;refine⟨Wa,λr C=>?_⟩;rw[QBv (Wa:k<ns.length),QAv,QAt]at C;rcases C with C |rfl
  exact hk.2 r C;rw[<- QAA (Wa:(ns[k]'Wa).length<=b)];exact hb.2;omega;intro h4;refine Qc (j+1) ?_ ?_ ?_;exact Ql (l:=[1,2,3,4,9]) (lH:=[4]) (Qd rfl (Qd rfl (Qd rfl (Qd rfl (Qd rfl Qy))))) (Qa rfl Qb) rfl rfl rfl
  ·refine⟨Wa,next λ⟨_,_,_,_,r,C,x,hx2,e1,e2⟩=>?_⟩;rw[er,<- QAA (Wa:ns.length<=k)]at C;exact hk.2 r C x hx2 ⟨e1,e2⟩
  omega
 intro h1;obtain⟨k,hk⟩:=hx;exact absurd hk (hj.2 k (by obtain⟨h,_⟩:=hk;omega))
theorem c_linchpinlaw19_ChoiceReach {l m:List Int} {up:Bool} (hW:Ok Tryz.prog 15 [Qz l] (QW w)) (M:Po w) (C:ya w) (hv:(∀x∈m, -9223372036854775808<=x/\x<=9223372036854775807)):Ok Tryz.prog 8 [Qz l,Qz m,.bool up,gD] (.bool true):=by
 refine Ok.ia (ds:=[Qz l,Qz m,.bool up]) (dg:=gD) tfol Tryz.func8 tp8 (QAk rfl) ?_;show TW _ _ tf8.body _ _;have hwl:=C.len;have G:wa w (YS w m up):=L9;obtain⟨c,Y⟩:∃c,c=YS w m up:=⟨_,rfl⟩;rw[<- Y]at G;have hcl:=G.len;have hk:=QtW C G;obtain⟨o,ho⟩:∃o,o=neededR w c:=⟨_,rfl⟩;rw[<- ho]at hk;have O:=hk.ol;refine aS ?_;refine Qg hW rfl rfl (.inl rfl) (aK ?_);refine Qg (Yq M hv) rfl rfl (.inl rfl) ?_;rw[<- Y];refine aK ?_;refine Qg (Y0 M (c:=c) Wa) rfl rfl (.inl rfl) ?_;rw[<- ho];refine aB ?_ ?_;intro h1;omega;intro h1;refine Qt (ι:=Nat) (λj=>⟨[(7,.ref 7 0 0),(8,Qz c),(9,X9 o),(10,.int .i64 j),(900000,gD)],[(7,⟨[[.sl (w.map Zi)]],1,25,true⟩)]⟩) (λj=>j<=c.length) (λj=>c.length - j) 0 ?_ ?_ ?_;exact Ql (l:=[7,8,9,10,900000]) (lH:=[7]) (Qd rfl (Qd rfl (Qd rfl (Qd rfl (Qd rfl Qy))))) (Qa rfl Qb) rfl rfl rfl;exact QAw _;intro j hj
 try dsimp only
 refine aB ?_ ?_;intro h2;refine aB ?_ ?_;intro V;refine Qc (j+1) ?_ ?_ ?_;exact Ql (l:=[7,8,9,10,900000]) (lH:=[7]) (Qd rfl (Qd rfl (Qd rfl (Qd rfl (Qd rfl Qy))))) (Qa rfl Qb) rfl rfl rfl;show j+1<=c.length;omega;omega;intro V;have hp:=hk.pos j Wa Wa (by simpa using V);refine aB ?_ ?_;intro h4;omega;intro h4;refine aB ?_ ?_;intro h5;refine Qg (HA C.se C.jf G.ch O (i:=j) ?_) rfl rfl (.inr rfl) (aK ?_);obtain⟨k,U,T,e1,e2,e3⟩:=hk.wi j Wa Wa (by simpa using V)
 exact⟨k,U,T,e1,e2,e3⟩;refine QH rfl (aK ?_);refine Qc (j+1) ?_ ?_ ?_;exact Ql (l:=[7,8,9,10,900000]) (lH:=[7]) (Qd rfl (Qd rfl (Qd rfl (Qd rfl (Qd rfl Qy))))) (Qa rfl Qb) rfl rfl rfl;show j+1<=c.length;omega;omega;intro h5;refine QH rfl (aK ?_);refine Qc (j+1) ?_ ?_ ?_;exact Ql (l:=[7,8,9,10,900000]) (lH:=[7]) (Qd rfl (Qd rfl (Qd rfl (Qd rfl (Qd rfl Qy))))) (Qa rfl Qb) rfl rfl rfl;show j+1<=c.length;omega;omega;intro h2;have hz:=hk.zero Wa Wa;refine Qr Z6 rfl rfl (.inr rfl) rfl (by cbv) (aK ?_);exact decide_eq_true hz
end Go.Proofs
