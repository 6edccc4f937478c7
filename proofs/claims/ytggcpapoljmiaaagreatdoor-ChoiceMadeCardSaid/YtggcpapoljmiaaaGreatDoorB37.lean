/- Part 37 of the means of the proof: a verified evaluator and contracts of functions. -/
import Derived.Test.YtggcpapoljmiaaaGreatDoorB36
import Derived.Test.YtggcpapoljmiaaaGreatDoorB11
import Derived.Test.YtggcpapoljmiaaaGreatDoorB12
import Derived.Test.YtggcpapoljmiaaaGreatDoorB13
import Derived.Test.YtggcpapoljmiaaaGreatDoorB14
import Derived.KernelRfl
set_option maxRecDepth 4000
set_option maxHeartbeats 4000000
set_option linter.unusedSimpArgs false
set_option linter.unusedVariables false
set_option linter.unusedSectionVars false
namespace Go.Abs
open Go M3 M25
theorem aW {A B C:Prop} (k:B) (k':C) (h:aI B->aI C->A:=by
 intro k k'
 refine aS ?_
 exact aV k.x k'.x):A:=h ⟨k⟩ ⟨k'⟩
theorem aF {A B:Prop} (k:B) (h:aI B->A:=by
 intro k
 refine aK ?_
 first
  |((with_reducible apply Te);exact rfl;exact aC k.x;(intro h;first |(simp at h;done) |cases h))
  |((with_reducible apply QhL);exact rfl;exact aC k.x;(intro h;first |(simp at h;done) |cases h))
  |((with_reducible apply Tg);exact rfl;exact aC k.x;(intro h;first |(simp at h;done) |cases h))):A:=h ⟨k⟩
end Go.Abs
namespace Go.Proofs
open Go Go.Abs
set_option maxRecDepth 100000
set_option maxHeartbeats 0
set_option cbv.maxSteps 100000000
def t20:TT false Tryz.f20:=⟨_,by cbv⟩
def tf20:z5:=t20.1
theorem Qzz:Qj Tryz.prog Tryz.f20=some tf20.erase:=by kernel_rfl
set_option cbv.maxSteps 100000000
def t99:TT false Tryz.f99:=⟨_,by cbv⟩
def tf99:z5:=t99.1
theorem QAc:Qj Tryz.prog Tryz.f99=some tf99.erase:=by kernel_rfl
def QyM:TT false Tryz.f187:=⟨_,by cbv⟩
def tf187:z5:=QyM.1
theorem Qu0:Qj Tryz.prog Tryz.f187=some tf187.erase:=by kernel_rfl
def QyN:TT false Tryz.f188:=⟨_,by cbv⟩
def tf188:z5:=QyN.1
theorem Qu1:Qj Tryz.prog Tryz.f188=some tf188.erase:=by kernel_rfl
set_option cbv.maxSteps 100000000
def t59:TT false Tryz.f59:=⟨_,by cbv⟩
def tf59:z5:=t59.1
theorem QzV:Qj Tryz.prog Tryz.f59=some tf59.erase:=by kernel_rfl
set_option cbv.maxSteps 100000000
def Qyr:TT false Tryz.f145:=⟨_,by cbv⟩
def tf145:z5:=Qyr.1
theorem QuF:Qj Tryz.prog Tryz.f145=some tf145.erase:=by kernel_rfl
set_option cbv.maxSteps 100000000
def t22:TT false Tryz.f22:=⟨_,by cbv⟩
def tf22:z5:=t22.1
theorem QzB:Qj Tryz.prog Tryz.f22=some tf22.erase:=by kernel_rfl
def t29:TT false Tryz.f29:=⟨_,by cbv⟩
def tf29:z5:=t29.1
theorem QzI:Qj Tryz.prog Tryz.f29=some tf29.erase:=by kernel_rfl
def t53:TT false Tryz.f53:=⟨_,by cbv⟩
def tf53:z5:=t53.1
theorem QzQ:Qj Tryz.prog Tryz.f53=some tf53.erase:=by kernel_rfl
set_option cbv.maxSteps 100000000
def t69:TT false Tryz.f69:=⟨_,by cbv⟩
def tf69:z5:=t69.1
theorem QzY:Qj Tryz.prog Tryz.f69=some tf69.erase:=by kernel_rfl
def Qys:TT false Tryz.f146:=⟨_,by cbv⟩
def tf146:z5:=Qys.1
theorem QuG:Qj Tryz.prog Tryz.f146=some tf146.erase:=by kernel_rfl
end Go.Proofs
namespace M25
open Go Go.Abs M3
variable {i n:Nat} {l:List QN} {w:Qe}
theorem QjB (hi:i<l.length) (h:wnR n l[i]=false):BF n l=false:=by
 grind [BF]
theorem BE (hi:l.length<=i) (h:(l.take i).all (wnR n)=true):BF n l=(decide (0<l.length)&&decide (l.length<=24)):=by
 (repeat clear hK K);simp_all [QAA,BF]
noncomputable def uokB (w:Qe) (i:Nat):Bool:=@decide (UOk w i) (Classical.propDecidable _)
theorem QvH (h:UOk w i):uokB w i=true:=@decide_eq_true _ (Classical.propDecidable _) h
theorem BD (h:¬UOk w i):uokB w i=false:=@decide_eq_false _ (Classical.propDecidable _) h
theorem Qrc (h:uokB w i=true):UOk w i:=@of_decide_eq_true _ (Classical.propDecidable _) h
theorem Qrb (h:uokB w i=false):¬UOk w i:=@of_decide_eq_false _ (Classical.propDecidable _) h
end M25
namespace Go.Proofs
open Go Go.Abs M3 M25
variable {n:Nat}
theorem X3 {x:QN} (C:Sm x.s.1/\Sm x.s.2):Ok Tryz.prog 188 [.agg (Fo x),.int .i64 ((n:Nat):Int)] (.bool (wnR n x)):=by
 refine Ok.n6 tfol Tryz.func188 Qu1 (QAk Z) ?_;show TW _ _ tf188.body _ _;refine aX ?_ ?_;intro h1;refine aB ?_ ?_;intro h2;refine Qg (J7 (s:=x.s) C.1 C.2) Z Z (.inr Z) (aK ?_)
 grind [wnR]
 intro h2
 grind [wnR]
 intro h1
 grind [wnR]
theorem Ga {l:List QN} (G:l.length<=1048576) (hx:∀x∈l,Sm x.s.1/\Sm x.s.2):Ok Tryz.prog 187 [ZR l,.int .i64 ((n:Nat):Int)] (.bool (BF n l)):=by
 refine Ok.n6 tfol Tryz.func187 Qu0 (QAk Z) ?_;show TW _ _ tf187.body _ _;refine aS ?_;refine Qt (ι:=Nat) (λi=>⟨[(0,ZR l),(1,.int .i64 ((n:Nat):Int)),(5,.int .i64 i)],[]⟩) (λi=>i<=l.length/\(l.take i).all (wnR n)=true) (λi=>l.length - i) 0 ?_ ?_ ?_;exact QB (kp3 Z Z Z);simp;intro i M;refine aB ?_ ?_;intro h1;refine Qg (X3 (hx _ (QAp (Wa:i<l.length)))) Z Z (.inr Z) (aB ?_ ?_);intro h2;exact(QjB Wa h2).symm;intro h2;refine Qc (i+1) ?_ ?_ ?_;exact QB (kp3 Z Z Z)
 grind [Q9]
 omega;intro h1;refine aB ?_ ?_;intro C
 grind [BE]
 intro C
 grind [BE]
theorem G9 {c:CandT} (C:Qrj c):Ok Tryz.prog 146 [.agg (RE c),.int .i64 ((n:Nat):Int)] (.bool (cdR n c)):=by
 refine Ok.n6 tfol Tryz.func146 QuG (QAk Z) ?_;show TW _ _ tf146.body _ _;have G:=C.nl;have M:=C.bl;refine aS ?_;refine Qg (Qv C.v.1 C.v.2) Z Z (.inr Z) (aB ?_ ?_);intro h1;refine Qs Z (aK ?_)
 grind [cdR]
 intro h1;refine aB ?_ ?_;intro h2;refine Qs Z (aK ?_)
 grind [cdR,cdN]
 intro h2;refine aB ?_ ?_;intro Y
 grind [cdR,cdN]
 intro Y;refine Qt (ι:=Nat) (λi=>⟨[(1,.int .i64 ((n:Nat):Int)),(2,.ref 2 0 0),(5,.int .i64 i)],[(2,⟨[[.int .i64 (c).v.a,.int .i64 (c).v.b,.int .i64 (c).v.c,.str (c).v.p,.str (c).v.q,.int .i64 (c).sh,Xm (c).ns,ZR (c).bs]],8,70,true⟩)]⟩) (λi=>i<=c.ns.length/\(c.ns.take i).all (BF n)=true) (λi=>c.ns.length - i) 0 ?_ ?_ ?_;exact Ql (l:=[1,2,5]) (lH:=[2]) (kp3 Z Z Z) (Qa Z Qb) Z Z Z;simp;intro i hI;refine aB ?_ ?_;intro V;refine Qg (Ga (C.rows _ (QAp (Wa:i<c.ns.length))).1 (C.rows _ (QAp (Wa:i<c.ns.length))).2) Z Z (.inr Z) (aB ?_ ?_);intro U
 (grind [cdR,cdN])
 intro U;refine Qc (i+1) ?_ ?_ ?_;exact Ql (l:=[1,2,5]) (lH:=[2]) (kp3 Z Z Z) (Qa Z Qb) Z Z Z
 grind [Q9]
 omega;intro V;refine Qt (ι:=Nat) (λk=>⟨[(1,.int .i64 ((n:Nat):Int)),(2,.ref 2 0 0),(6,.int .i64 k)],[(2,⟨[[.int .i64 (c).v.a,.int .i64 (c).v.b,.int .i64 (c).v.c,.str (c).v.p,.str (c).v.q,.int .i64 (c).sh,Xm (c).ns,ZR (c).bs]],8,70,true⟩)]⟩) (λk=>k<=c.bs.length/\(c.bs.take k).all (wnR n)=true) (λk=>c.bs.length - k) 0 ?_ ?_ ?_;exact Ql (l:=[1,2,6]) (lH:=[2]) (kp3 Z Z Z) (Qa Z Qb) Z Z Z;simp;intro k hQ;refine aB ?_ ?_;intro T;refine Qg (X3 (C.bars _ (QAp (Wa:k<c.bs.length)))) Z Z (.inr Z) (aB ?_ ?_);intro O
 (grind [cdR,cdN])
 intro O;refine Qc (k+1) ?_ ?_ ?_;exact Ql (l:=[1,2,6]) (lH:=[2]) (kp3 Z Z Z) (Qa Z Qb) Z Z Z
 grind [Q9]
 omega;intro T
 grind [cdR,cdN]
theorem H8 {a b:Rj}:Ok Tryz.prog 145 [.agg (Zi a),.agg (Zi b)] (.bool (HQ a b)):=by
 refine Ok.n6 tfol Tryz.func145 QuF (QAk Z) ?_;show TW _ _ tf145.body _ _;refine aX ?_ ?_;intro h1
 grind [HQ]
 intro h1;refine aB ?_ ?_;intro h2
 grind [HQ]
 intro h2
 grind [HQ]
theorem Ff {w:Qe} (hw:Po w) {i:Nat} (hi:i<w.length):Ok Tryz.prog 99 [QW w,.int .i64 ((i:Nat):Int)] (.bool (uokB w i)):=by
 refine Ok.n6 tfol Tryz.func99 QAc (QAk Z) ?_;show TW _ _ tf99.body _ _;have hwl:=hw.len;have hcl:=hw.cl _ (QAp hi);refine aW ?_ ?_;intro h1;refine aK ?_;exact(BD λh=>absurd (h.cl hi) Wa).symm;intro h1;refine aJ ?_;refine HO (ι:=Unit) (λ_=>⟨[(1,.int .i64 ((i:Nat):Int)),(2,.ref 2 0 0),(5,.ref 5 0 0)],[(2,⟨[[.sl ((w).map Zi)]],1,25,true⟩),(5,⟨[Zi (w[i]'hi)],3,58,true⟩)]⟩) (λ_=>(i=0->(w[i]'hi).n=[]/\(w[i]'hi).f=[]/\(w[i]'hi).cs.length=1)) ?_ ?_
 skip
 refine aB ?_ ?_;intro h2;refine aB ?_ ?_;intro h3;refine Qs Z (aK ?_);exact(BD λh=>h3 (h.r0 hi Wa).1).symm;intro h3;refine aB ?_ ?_;intro h4;refine Qs Z (aK ?_);exact(BD λh=>h4 (h.r0 hi Wa).2.1).symm;intro h4;refine aB ?_ ?_;intro h5;exact(BD λh=>by have:=(h.r0 hi Wa).2.2;omega).symm
 intro h5;refine QT () ?_ ?_;exact Ql (l:=[1,2,5]) (lH:=[2,5]) (kp3 Z Z Z) (Qa Z (Qa Z Qb)) Z Z Z
 grind
 intro h2;refine QH Z (aK ?_);refine QT () ?_ ?_;exact Ql (l:=[1,2,5]) (lH:=[2,5]) (kp3 Z Z Z) (Qa Z (Qa Z Qb)) Z Z Z;omega;intro _ hJ;refine HO (ι:=Unit) (λ_=>⟨[(2,.ref 2 0 0),(5,.ref 5 0 0)],[(2,⟨[[.sl ((w).map Zi)]],1,25,true⟩),(5,⟨[Zi (w[i]'hi)],3,58,true⟩)]⟩) (λ_=>((0<i->(w[i]'hi).n≠[])/\(1<i->HQ (w[i - 1]'Wa) (w[i]'hi)=true))) ?_ ?_
 skip
 refine aB ?_ ?_;intro h6;refine aB ?_ ?_;intro h7;refine Qs Z (aK ?_);exact(BD λh=>h.name hi Wa h7).symm;intro h7;refine aB ?_ ?_;intro h8;refine Qr (ds0:=[2,1,0]) (H8) Z Z (.inr Z) Z Z (aB ?_ ?_);intro h9;exact(BD λh=>by have:=h.ah hi Wa;grind).symm
 intro h9;refine QT () ?_ ?_;exact Ql (l:=[2,5]) (lH:=[2,5]) (kp2 Z Z) (Qa Z (Qa Z Qb)) Z Z Z
 grind
 intro h8;refine QH Z (aK ?_);refine QT () ?_ ?_;exact Ql (l:=[2,5]) (lH:=[2,5]) (kp2 Z Z) (Qa Z (Qa Z Qb)) Z Z Z
 grind
 intro h6;refine aB ?_ ?_;intro U
 grind
 intro U;refine QH Z (aK ?_);refine QT () ?_ ?_;exact Ql (l:=[2,5]) (lH:=[2,5]) (kp2 Z Z) (Qa Z (Qa Z Qb)) Z Z Z;omega;intro _ C;refine aK ?_;refine Qt (ι:=Nat) (λk=>⟨[(2,.ref 2 0 0),(5,.ref 5 0 0),(6,.int .i64 k)],[(2,⟨[[.sl ((w).map Zi)]],1,25,true⟩),(5,⟨[Zi (w[i]'hi)],3,58,true⟩)]⟩) (λk=>k<=(w[i]'hi).cs.length/\(∀j (V:j<(w[i]'hi).cs.length),j<k->cdR w.length (w[i]'hi).cs[j]=true/\(0<j->SS ((w[i]'hi).cs[j - 1]'Wa).v (w[i]'hi).cs[j].v<0))) (λk=>(w[i]'hi).cs.length - k) 0 ?_ ?_ ?_;exact Ql (l:=[2,5,6]) (lH:=[2,5]) (kp3 Z Z Z) (Qa Z (Qa Z Qb)) Z Z Z;simp;intro k Y;refine aB ?_ ?_;intro T;refine Qr (ds0:=dn 22) (G9 (hw.a8 _ (QAp hi) _ (QAp (Wa:k<(w[i]'hi).cs.length)))) Z Z (.inr Z) Z Z (aB ?_ ?_);intro O;refine Qs Z (aK ?_);exact(BD λh=>by have:=(h.a8 hi k Wa).1;grind).symm
 intro O;refine aB ?_ ?_;intro M;refine Qr (ds0:=[2,1,0]) (Zf (hw.a8 _ (QAp hi) _ (QAp Wa)).v.1 (hw.a8 _ (QAp hi) _ (QAp Wa)).v.2 (hw.a8 _ (QAp hi) _ (QAp Wa)).v.1 (hw.a8 _ (QAp hi) _ (QAp Wa)).v.2) Z Z (.inr Z) Z Z (aB ?_ ?_);intro G;exact(BD λh=>by have:=(h.a8 hi k Wa).2 Wa;simp only[show((k:Int) - 1).toNat=k - 1 by omega]at G;grind [SS]).symm
 intro G;refine Qc (k+1) ?_ ?_ ?_;exact Ql (l:=[2,5,6]) (lH:=[2,5]) (kp3 Z Z Z) (Qa Z (Qa Z Qb)) Z Z Z;exact⟨Wa,QlI Wa Y.2 Wa (by(simp_all [SS]))⟩;omega;intro M;refine QH Z (aK ?_);refine Qc (k+1) ?_ ?_ ?_;exact Ql (l:=[2,5,6]) (lH:=[2,5]) (kp3 Z Z Z) (Qa Z (Qa Z Qb)) Z Z Z
 grind
 omega;intro T;exact(QvH ⟨λ_=>Wa,λ_=>hJ,λ_=>C.1,λ_=>C.2,λ_ j V=>Y.2 j V Wa⟩).symm
variable {w:Qe}
theorem FO (hw:Po w):Ok Tryz.prog 69 [QW w] (.bool (mayB w)):=by
 refine Ok.n6 tfol Tryz.func69 QzY (QAk Z) ?_;show TW _ _ tf69.body _ _;have C:=hw.len;refine aX ?_ ?_;intro h1;refine Qs Z (aK ?_);exact(Fr λh=>by have:=h.len;omega).symm
 intro h1;refine aB ?_ ?_;intro h2;exact(Fr λh=>by have:=h.len;omega).symm
 intro h2;refine Qt (ι:=Nat) (λi=>⟨[(1,.ref 1 0 0),(3,.int .i64 i)],[(1,⟨[[.sl ((w).map Zi)]],1,25,true⟩)]⟩) (λi=>i<=w.length/\∀j,j<i->UOk w j) (λi=>w.length - i) 0 ?_ ?_ ?_;exact Ql (l:=[1,3]) (lH:=[1]) (kp2 Z Z) (Qa Z Qb) Z Z Z;simp;intro i G;refine aB ?_ ?_;intro O;refine Qg (Ff hw (i:=i) Wa) Z Z (.inr Z) (aB ?_ ?_);intro M;exact(Fr λh=>Qrb Wa (h.u i Wa)).symm;intro M;refine Qc (i+1) ?_ ?_ ?_;exact Ql (l:=[1,3]) (lH:=[1]) (kp2 Z Z) (Qa Z Qb) Z Z Z
 grind [Qrc]
 omega;intro O;exact(QmD ⟨Wa,λj T=>G.2 j Wa⟩).symm
theorem YL (hw:Po w) {c:List Int} (Y:c.length<=1048576):Ok Tryz.prog 53 [QW w,Qz c] (.bool (mayC w c)):=by
 refine Ok.n6 tfol Tryz.func53 QzQ (QAk Z) ?_;show TW _ _ tf53.body _ _;have M:=hw.len;refine aX ?_ ?_;intro h1;refine Qs Z (aK ?_);exact(LY λh=>by have:=h.len;omega).symm
 intro h1;refine Qg (FO hw) Z Z (.inr Z) (aB ?_ ?_);intro h2
 (grind [mayC])
 intro h2;refine Qt (ι:=Nat) (λi=>⟨[(1,Qz c),(2,.ref 2 0 0),(5,.int .i64 i)],[(2,⟨[[.sl ((w).map Zi)]],1,25,true⟩)]⟩) (λi=>i<=c.length/\∀j (h:j<c.length) (h2:j<w.length),j<i->-1<=c[j]/\c[j]<w[j].cs.length) (λi=>c.length - i) 0 ?_ ?_ ?_;exact Ql (l:=[1,2,5]) (lH:=[2]) (kp3 Z Z Z) (Qa Z Qb) Z Z Z;simp;intro i G;refine aB ?_ ?_;intro V;refine aB ?_ ?_;intro U;refine Qs Z (aK ?_);exact(LY λh=>by have:=h.bd i Wa Wa;omega).symm
 intro U;refine aB ?_ ?_;intro T;exact(LY λh=>by have:=h.bd i Wa Wa;omega).symm
 intro T;refine Qc (i+1) ?_ ?_ ?_;exact Ql (l:=[1,2,5]) (lH:=[2]) (kp3 Z Z Z) (Qa Z Qb) Z Z Z;exact⟨Wa,QpC Wa Wa G.2 Wa Wa⟩;omega;intro V;exact(Pf (QfU Wa) ⟨Wa,λj O C=>G.2 j C O Wa⟩).symm
theorem ZO {w:Qe} (hw:WSm w) {c:List Int} (C:T1 w c) {x:QN} (hx:0<=x.u/\x.u<w.length) (M:Sm x.s.1/\Sm x.s.2):Ok Tryz.prog 59 [QW w,Qz c,.agg (Fo x)] (.bool (mtM w c x)):=by
 refine Ok.n6 tfol Tryz.func59 QzV (QAk Z) ?_;show TW _ _ tf59.body _ _;have T:=C.len;have G:x.u.toNat<c.length:=Wa;have hb:=Ms C G;refine aX ?_ ?_;intro h1;have O:=PB hb.2 h1;refine aK ?_;refine Qr (ds0:=[1,0]) (J6 (s:=x.s) M.1 M.2 (hw.vs _ (QAp (Wa:x.u.toNat<w.length)) _ (QAp O)).1 (hw.vs _ (QAp (Wa:x.u.toNat<w.length)) _ (QAp O)).2) Z Z (.inr Z) Z Z (aK ?_)
 (rw[Qkh hw C hx.1 hx.2 G h1 (PB hb.2 h1)];rfl)
 intro h1
 grind [QdD]
theorem YQ {l:List Int} (G:l.length<=1048576):Ok Tryz.prog 20 [Qz l,Qz l] (.bool true):=by
 refine Ok.n6 tfol Tryz.func20 Qzz (QAk Z) ?_;show TW _ _ tf20.body _ _;refine aX ?_ ?_;intro h1
 grind
 intro h1;refine Qt (ι:=Nat) (λi=>⟨[(0,Qz l),(1,Qz l),(5,.int .i64 i)],[]⟩) (λi=>i<=l.length) (λi=>l.length - i) 0 ?_ ?_ ?_;exact QB (kp3 Z Z Z);omega;intro i M;refine aB ?_ ?_;intro h2;refine aB ?_ ?_;intro C
 grind
 intro C;refine Qc (i+1) ?_ ?_ ?_;exact QB (kp3 Z Z Z);omega;omega;intro h2;rfl
end Go.Proofs
namespace M25
open Go Go.Abs M3
variable {a i j k:Nat} {c:List Int} {ns:List (List QN)} {o o0:List Bool} {w:Qe}
theorem SI.len {w:Qe} {c:List Int} {o0 o:List Bool} {i:Nat} (h:SI w c o0 i o):o.length=c.length:=h.nd.len
theorem SR.len {w:Qe} {c:List Int} {o0 o:List Bool} {i a:Nat} {ns:List (List QN)} (h:SR w c o0 i ns a o):o.length=c.length:=h.si.nd.len
theorem SK.len {w:Qe} {c:List Int} {k:Nat} {o:List Bool} (h:SK w c k o):o.length=c.length:=h.nd.len
theorem SK.lh (h:SK w c k o):SI w c o 0 o:=⟨h.nd,λ_ h=>h,.inl rfl,λ_ h=>absurd h (QBH _)⟩
theorem Do {b:Bool} (h:k<o.length) (e:o[k]=b):o.set k b=o:=by
 apply List.ext_getElem;simp
 grind
theorem SI.put {w:Qe} {c:List Int} {o0 o:List Bool} {i k:Nat} (h:SI w c o0 i o) (hk:k<o.length) (he:o[k]=false) (M:Ndd w c k):SI w c o0 i (o.set k true):=by
 have h1:=L4 hk he;refine⟨h.nd.put hk M,λj G=>by rw[Z3 hk,h.mono j G,QBu],.inr ?_,λj G C=>(h.prev j G C).mono hk⟩;rcases h.qh with rfl |h2
 omega;omega
theorem ib.set {w:Qe} {c:List Int} {o:List Bool} {ns:List (List QN)} {a k:Nat} (hk:k<o.length) (h:ib w c o ns a):ib w c (o.set k true) ns a:=λk' G C x hx hm=>by
 rw[Z3 hk,h k' G C x hx hm,QBu]
theorem SR.vi (h:SR w c o0 i ns a o) {r:List QN} (hr:s9 w c o r j) (C:j<r.length) (hx:onB o r[j].u.toNat=true):SR w c o0 i ns a o/\s9 w c o r (j+1):=
 ⟨h,hr.next C λ_=>hx⟩
theorem SR.xh (h:SR w c o0 i ns a o) (ha:a<ns.length) (C:Jc w c i=ns) (hr:s9 w c o ns[a] j) (G:j<ns[a].length) (hk:ns[a][j].u.toNat<o.length) (hx:o[ns[a][j].u.toNat]=false):
  SR w c o0 i ns a (o.set ns[a][j].u.toNat (mtM w c ns[a][j]))/\s9 w c (o.set ns[a][j].u.toNat (mtM w c ns[a][j])) ns[a] (j+1):=by
 cases hm:mtM w c ns[a][j]with
 |false=>rw[Do hk hx];exact⟨h,hr.next G λh=>by grind⟩
 |true=>
  have M:Ndd w c ns[a][j].u.toNat:=.step (h.si.nd.snd _ h.on) (C ▸ QAp ha) (QAp G) hm;exact⟨⟨h.si.put hk hx M,by rw[Z3 hk,h.on,QBu],h.rows.set hk⟩,(hr.set hk).next G λ_=>by grind [Z3]⟩
theorem SR.next (h:SR w c o0 i ns a o) (ha:a<ns.length) (hr:s9 w c o ns[a] j) (T:ns[a].length<=j):SR w c o0 i ns (a+1) o:=
 ⟨h.si,h.on,λk' O M x hx hm=>by
  by_cases e:k'=a
  subst e;obtain⟨G,C,rfl⟩:=QBF.1 hx;exact hr G C Wa hm;exact h.rows k' O Wa x hx hm⟩
theorem SR.stop (h:SR w c o0 i ns a o) (ha:ns.length<=a) (C:Jc w c i=ns):SI w c o0 (i+1) o:=
 ⟨h.si.nd,h.si.mono,h.si.qh,λj O M=>by
  by_cases e:j=i
  subst e;intro r hr x hx hm;rw[C]at hr;obtain⟨k',G,rfl⟩:=QBF.1 hr;exact h.rows k' G Wa x hx hm;exact h.si.prev j Wa M⟩
theorem SI.skip (h:SI w c o0 i o) (G:onB o i=false):SI w c o0 (i+1) o:=
 ⟨h.nd,h.mono,h.qh,λj M C=>by
  by_cases e:j=i
  subst e;rw[h.mono j C]at G;grind;exact h.prev j Wa C⟩
theorem SI.start (h:SI w c o0 i o) (C:onB o i=true) (ns:List (List QN)):SR w c o0 i ns 0 o:=⟨h,C,λ_ _ h=>absurd h (QBH _)⟩
theorem SI.done {w:Qe} {c:List Int} {o0 o:List Bool} {i k:Nat} (h:SI w c o0 i o) (hi:c.length<=i) (hk:SK w c k o0):SK w c (k+1) o:=by
 refine⟨h.nd, ?_⟩;have C:∀j,onB o0 j=true->vc w c o j:=λj G=>h.prev j (by have:=Qcp G;have:=hk.len;omega) G
 rcases h.qh with rfl |h2;exact .inl C;rcases hk.cl with O |O
 ·have e:=hk.nd.done O;refine .inl λj G=>C j ?_;have T:=h.nd.snd j G;have M:=Qcp G;rw[h.len]at M;rw[NP (by rw[hk.len];omega)]
  grind [nddL,Qf0]
 have:=h.len;have:=hk.len;omega
theorem SK.yh (h:SK w c k o) (hk:c.length<=k):o=nddL w c:=by
 rcases h.cl with h1 |h1
 ·exact h.nd.done h1
 have:=h.len;omega
theorem SK.first {w:Qe} {c:List Int} (C:0<c.length):SK w c 0 ((List.replicate c.length false).set 0 (decide (0<=cA c 0))):=by
 by_cases h0:0<=cA c 0
 rw[decide_eq_true h0];have h:=ua.first (w:=w) C h0
 refine⟨h.nd,.inr ?_⟩;have:=h.bd
 grind
 rw[decide_eq_false h0,Do Wb Wc];have h:=ua.none (w:=w) h0;exact⟨h.nd,.inl λi hi=>by grind [Sk]⟩
theorem C1 (h:mayC w c=false):neededR w c=[]:=if_neg Wb
theorem MK (w:Qe) (c:List Int):(neededR w c).length<=c.length:=by
 unfold neededR;split;rw[PW];omega;simp
theorem Qg1 (hi:i<c.length):(tidyM w c).take (i+1)=(tidyM w c).take i++[tdAt w c i]:=by
 grind [List.take_add_one,tidyM,tdAt]
theorem BA (w:Qe) (c:List Int):(tidyR w c).length=(neededR w c).length:=by
 grind [tidyR,neededR,GC,PW]
theorem QdC (h:i<(neededR w c).length):mayC w c=true:=by
 cases e:mayC w c with
 |true=>rfl
 |false=>rw[C1 e]at h;grind
theorem GY (h:i<(neededR w c).length):(tidyR w c).take (i+1)=(tidyR w c).take i++[tdAt w c i]:=by
 grind [QdC,MK,Qa2,Qg1]
theorem C3 (h:i<(neededR w c).length):(neededR w c)[i]=nddB w c i:=by
 grind [neededR,L1]
end M25
namespace Go.Proofs
open Go Go.Abs M3 M25
variable {b:Bool} {k:Nat} {o:List Bool}
theorem QaV:(o.map rB).set k [.bool b]=(o.set k b).map rB:=List.map_set.symm
theorem Qnb (h:k<o.length) (e:o[k]=b):(o.map rB).set k [.bool b]=o.map rB:=by rw[QaV,Do h e]
theorem Qgh {a:Nat × u4} {r C:List (List D)} {X:QAh} (h:r=C):a::(18,⟨r,1,4,true⟩)::X=a::(18,⟨C,1,4,true⟩)::X:=by rw[h]
theorem Qir {c:List Int} (C:0<c.length):((List.replicate c.length false).map rB).set 0 [.bool (decide (0<=c[0]))]=((List.replicate c.length false).set 0 (decide (0<=cA c 0))).map rB:=by grind [QaV,cA]
theorem Xk {w:Qe} (hw:Po w) {c:List Int} (hc:c.length<=1048576):Ok Tryz.prog 29 [QW w,Qz c] (X9 (neededR w c)):=by
 refine Ok.n6 tfol Tryz.func29 QzI (QAk Z) ?_;show TW _ _ tf29.body _ _;refine aS ?_;refine Qg (YL hw hc) Z Z (.inr Z) (aB ?_ ?_);intro h1;refine QM Z ?_;rw[C1 Wa];rfl;intro h1;obtain⟨hmw,hfw⟩:=MH (w:=w) (c:=c) Wa;have hv:=hmw.val hw;have hs:=hv.se;have hr:=hv.jf;have U:=hfw.ch;have hcl:=U.len;have hvl:=hv.len;refine aK ?_;refine Qeb Z Z Z Wa Wa Wa (aK ?_);refine YX Z Z Z Wc Wa Wa Z (Ke Z Z (Qkr Wa Wa) Z Z Z Z Z (aK ?_));refine Qt (ι:=Nat × List Bool) (λk=>⟨[(1,Qz c),(2,.ref 2 0 0),(5,.s4 18 (k.2).length),(6,.int .i64 k.1)],[(2,⟨[[.sl ((w).map Zi)]],1,25,true⟩),(18,⟨(k.2).map rB,1,4,true⟩)]⟩) (λk=>k.1<=c.length/\SK w c k.1 k.2) (λk=>c.length - k.1) (0,(List.replicate c.length false).set 0 (decide (0<=cA c 0))) ?_ ?_ ?_;exact Ql (l:=[1,2,5,6]) (lH:=[2,18]) (kp4 Z Z Z Z) (Qa Z (Qa Z Qb)) Wc (by rw[Qgx];exact Qgh (Qir Wa)) Z
 exact⟨QAw _,SK.first Wa⟩;intro k T;have hol0:=T.2.len;refine aB ?_ ?_;intro h2;refine Qt (ι:=Nat × List Bool) (λi=>⟨[(1,Qz c),(2,.ref 2 0 0),(5,.s4 18 (i.2).length),(6,.int .i64 k.1),(7,.int .i64 i.1)],[(2,⟨[[.sl ((w).map Zi)]],1,25,true⟩),(18,⟨(i.2).map rB,1,4,true⟩)]⟩) (λi=>i.1<=c.length/\SI w c k.2 i.1 i.2) (λi=>c.length - i.1) (0,k.2) ?_ ?_ ?_;exact Ql (l:=[1,2,5,6,7]) (lH:=[2,18]) (kp5 Z Z Z Z Z) (Qa Z (Qa Z Qb)) Z Z Z;exact⟨QAw _,T.2.lh⟩;intro i O;have hol1:=O.2.len;refine aB ?_ ?_;intro h3;refine YX Z Z Z Wc Wa Wa Z (Ft Z (Mj Z (YC Wa Wa)) Z (aB ?_ ?_));intro h4;refine Qc (i.1+1,i.2) ?_ ?_ ?_;exact Ql (l:=[1,2,5,6,7]) (lH:=[2,18]) (kp5 Z Z Z Z Z) (Qa Z (Qa Z Qb)) Z Z Z;exact⟨Wa,O.2.skip (by grind [NP])⟩;omega;intro h4;have hon:onB i.2 i.1=true:=(by grind [NP]);have hN:=O.2.nd.snd _ hon;obtain⟨G,hc0⟩:=MJ hs hr U (Wa:0<c.length) hN;have C:i.1<w.length:=Wa;have hb:=Ms U G;have M:=PB hb.2 hc0;have er:=KN C G M;have hwn:=hs.ns _ (QAp C) _ (QAp M);have hwl:=hs.nl _ (QAp C) _ (QAp M);have V:=hs.nw _ (QAp C) _ (QAp M);have Y:=hr.nr _ (QAp C) _ (QAp M);obtain⟨y,hy⟩:∃y,(w[i.1]'C).cs[(c[i.1]'G).toNat]=y:=⟨_,rfl⟩;rw[hy]at er hwn hwl V Y;have hst:=O.2.start hon y.ns;refine aK ?_;refine Qt (ι:=Nat × List Bool) (λa=>⟨[(1,Qz c),(2,.ref 2 0 0),(5,.s4 18 (a.2).length),(6,.int .i64 k.1),(7,.int .i64 i.1),(54,Xm y.ns),(55,.int .i64 y.ns.length),(56,.int .i64 a.1)],[(2,⟨[[.sl ((w).map Zi)]],1,25,true⟩),(18,⟨(a.2).map rB,1,4,true⟩)]⟩) (λa=>a.1<=y.ns.length/\SR w c k.2 i.1 y.ns a.1 a.2) (λa=>y.ns.length - a.1) (0,i.2) ?_ ?_ ?_;exact Ql (l:=[1,2,5,6,7,54,55,56]) (lH:=[2,18]) (kp8 Z Z Z Z Z Z Z Z) (Qa Z (Qa Z Qb)) Wb Z Z
 grind
 intro a hA;have hol2:=hA.2.len;refine aB ?_ ?_;intro h5;refine Qt (ι:=Nat × List Bool) (λb=>⟨[(1,Qz c),(2,.ref 2 0 0),(5,.s4 18 (b.2).length),(6,.int .i64 k.1),(7,.int .i64 i.1),(54,Xm y.ns),(55,.int .i64 y.ns.length),(56,.int .i64 a.1),(60,ZR (y.ns[a.1]'Wa)),(61,.int .i64 (y.ns[a.1]'Wa).length),(62,.int .i64 b.1)],[(2,⟨[[.sl ((w).map Zi)]],1,25,true⟩),(18,⟨(b.2).map rB,1,4,true⟩)]⟩) (λb=>b.1<=(y.ns[a.1]'Wa).length/\SR w c k.2 i.1 y.ns a.1 b.2/\s9 w c b.2 (y.ns[a.1]'Wa) b.1) (λb=>(y.ns[a.1]'Wa).length - b.1) (0,a.2) ?_ ?_ ?_;exact Ql (l:=[1,2,5,6,7,54,55,56,60,61,62]) (lH:=[2,18]) (QfF Z Z Z Z Z Z Z Z Z Z Z) (Qa Z (Qa Z Qb)) Z Z Z;exact⟨QAw _,hA.2,λ_ _ h=>absurd h (QBH _)⟩;intro b hB;have hol3:=hB.2.1.len;refine aB ?_ ?_;intro h6;have hrl:=hwl _ (QAp (Wa:a.1<y.ns.length));have hxu:=Y _ (QAp (Wa:a.1<y.ns.length)) _ (QAp (Wa:b.1<(y.ns[a.1]'Wa).length));refine aK ?_;refine HL (ds0:=[8,7,6,5,4,3,2,0]) Z Z Z Wc Wa Wa Z Z Z (FG (ds0:=[7,6,5,4,3,2,0,0]) Z (Mj Z (YC Wa Wa)) Z Z Z (aR ?_ ?_));intro h7;refine HL (ds0:=[0]) Z Z Z Wc Wa Wa Z Z Z (Xz (ds0:=[]) Z Z (YC Wa Wa) Z Z Z Z Z Z Z (aK ?_));refine Qc (b.1+1,b.2) ?_ ?_ ?_;exact Ql (l:=[1,2,5,6,7,54,55,56,60,61,62]) (lH:=[2,18]) (QfF Z Z Z Z Z Z Z Z Z Z Z) (Qa Z (Qa Z Qb)) Z (Qgh (Qnb Wa h7)) Z;exact⟨Wa,hB.2.1.vi hB.2.2 Wa (by grind [NP])⟩;omega;intro h7;refine Qr (ds0:=[2,0]) (ZO hs U (Y _ (QAp (Wa:a.1<y.ns.length)) _ (QAp (Wa:b.1<(y.ns[a.1]'Wa).length))) (V _ (QAp (Wa:a.1<y.ns.length)) _ (QAp (Wa:b.1<(y.ns[a.1]'Wa).length)))) Z Z (.inr Z) Z Z (aK ?_);refine HL (ds0:=[0]) Z Z Z Wc Wa Wa Z Z Z (Xz (ds0:=[]) Z Z (YC Wa Wa) Z Z Z Z Z Z Z (aK ?_));refine Qc (b.1+1,b.2.set ((y.ns[a.1]'Wa)[b.1]'Wa).u.toNat (mtM w c ((y.ns[a.1]'Wa)[b.1]'Wa))) ?_ ?_ ?_;exact Ql (l:=[1,2,5,6,7,54,55,56,60,61,62]) (lH:=[2,18]) (QfF Z Z Z Z Z Z Z Z Z Z Z) (Qa Z (Qa Z Qb)) Wc (Qgh QaV) Z;exact⟨Wa,hB.2.1.xh Wa er hB.2.2 Wa Wa h7⟩;omega;intro h6;refine Qc (a.1+1,b.2) ?_ ?_ ?_;exact Ql (l:=[1,2,5,6,7,54,55,56]) (lH:=[2,18]) (kp8 Z Z Z Z Z Z Z Z) (Qa Z (Qa Z Qb)) Z Z Z
 ·exact⟨Wa,hB.2.1.next Wa hB.2.2 Wa⟩
 omega;intro h5;refine Qc (i.1+1,a.2) ?_ ?_ ?_;exact Ql (l:=[1,2,5,6,7]) (lH:=[2,18]) (kp5 Z Z Z Z Z) (Qa Z (Qa Z Qb)) Z Z Z;exact⟨Wa,hA.2.stop Wa er⟩;omega;intro h3;refine Qc (k.1+1,i.2) ?_ ?_ ?_;exact Ql (l:=[1,2,5,6]) (lH:=[2,18]) (kp4 Z Z Z Z) (Qa Z (Qa Z Qb)) Z Z Z
 ·exact⟨Wa,O.2.done Wa T.2⟩
 omega;intro h2;exact Xb Z Z Z Wc (by rw[C2 Wa,<- T.2.yh Wa];rfl)
theorem Fg {w:Qe} (hw:Po w) {c:List Int} (M:c.length<=1048576):Ok Tryz.prog 22 [QW w,Qz c] (Qz (tidyR w c)):=by
 refine Ok.n6 tfol Tryz.func22 QzB (QAk Z) ?_;show TW _ _ tf22.body _ _;have G:=MK w c;have C:=BA w c;refine aS ?_;refine Qg (Xk hw M) Z Z (.inl Z) (aK ?_);refine Qt (ι:=Nat) (λi=>⟨[(1,Qz c),(5,.s4 5 ((tidyR w c).take i).length),(6,X9 (neededR w c)),(7,.int .i64 i)],[(5,⟨((tidyR w c).take i).map rI,1,3,true⟩)]⟩) (λi=>i<=(neededR w c).length) (λi=>(neededR w c).length - i) 0 ?_ ?_ ?_;exact le_trans (Q8 5 5 1 3 Z Z) (Ql (l:=[1,5,6,7]) (lH:=[5]) (kp4 Z Z Z Z) (Qa Z Qb) Z Z Z);omega;intro i O;have hlen:((tidyR w c).take i).length<=i:=by grind
 refine aB ?_ ?_;intro h1;refine aB ?_ ?_;intro h2;refine Qn Z Z (Zu Z Z (λ_ h=>ZN Z Z Z h) Z Wc Z Z Z Wb Wb (aK ?_));refine Qc (i+1) ?_ ?_ ?_;exact Ql (l:=[1,5,6,7]) (lH:=[5]) (kp4 Z Z Z Z) (Qa Z Qb) (by rw[GY Wa,QAY]<;>rfl) (by rw[GY Wa,QBi,tdAt,if_neg (by grind [C3])]<;>rfl) Z
 omega;omega;intro h2;refine Qn Z Z (Zu Z Z (λ_ h=>ZN Z Z Z h) Z Wc Z Z Z Wb Wb (aK ?_));refine Qc (i+1) ?_ ?_ ?_;exact Ql (l:=[1,5,6,7]) (lH:=[5]) (kp4 Z Z Z Z) (Qa Z Qb) (by rw[GY Wa,QAY]<;>rfl) (by rw[GY Wa,QBi,tdAt,if_pos (by grind [C3]),HX Wa]<;>rfl) Z
 omega;omega;intro h1;exact Xb Z Z Z Wc (by rw[QAA (Wa:(tidyR w c).length<=i)];rfl)
end Go.Proofs
namespace M25
open Go Go.Abs M3
theorem MV {w:Qe} (hw:Po w) {c:List Int}:(wrongR w c).length<=1048576:=by
 cases h:mayC w c with
 |false=>rw[DP h];simp
 |true=>
  obtain⟨h1,h2⟩:=MH h;have C:=h1.val hw;have:=Hq C.se c c.length;rw[Hp h,SQ];have:=h2.len;have:=C.len;omega
end M25
namespace Go.Proofs
open Go Go.Abs
set_option maxRecDepth 100000
set_option maxHeartbeats 0
set_option cbv.maxSteps 100000000
def t19:TT false Tryz.f19:=⟨_,by cbv⟩
def tf19:z5:=t19.1
theorem Qzy:Qj Tryz.prog Tryz.f19=some tf19.erase:=by kernel_rfl
def t26:TT false Tryz.f26:=⟨_,by cbv⟩
def tf26:z5:=t26.1
theorem QzF:Qj Tryz.prog Tryz.f26=some tf26.erase:=by kernel_rfl
def t56:TT false Tryz.f56:=⟨_,by cbv⟩
def tf56:z5:=t56.1
theorem QzT:Qj Tryz.prog Tryz.f56=some tf56.erase:=by kernel_rfl
def t85:TT false Tryz.f85:=⟨_,by cbv⟩
def tf85:z5:=t85.1
theorem Qz6:Qj Tryz.prog Tryz.f85=some tf85.erase:=by kernel_rfl
open M3 M25
set_option maxRecDepth 4000
set_option maxHeartbeats 4000000
variable {c:List Int} {w:Qe}
theorem Fh (hw:WSm w) (C:T1 w c) {l:List QN} (G:l.length<=1000) (hx:∀x∈l,(0<=x.u/\x.u<w.length)/\(Sm x.s.1/\Sm x.s.2)):Ok Tryz.prog 85 [QW w,Qz c,ZR l] (.bool (MC w c l)):=by
 refine Ok.n6 tfol Tryz.func85 Qz6 (QAk Z) ?_;show TW _ _ tf85.body _ _;refine aS ?_;refine Qt (ι:=Nat) (λi=>⟨[(1,Qz c),(2,ZR l),(3,.ref 3 0 0),(7,.int .i64 i)],[(3,⟨[[.sl ((w).map Zi)]],1,25,true⟩)]⟩) (λi=>i<=l.length/\(l.take i).any (mtM w c)=false) (λi=>l.length - i) 0 ?_ ?_ ?_;exact Ql (l:=[1,2,3,7]) (lH:=[3]) (kp4 Z Z Z Z) (Qa Z Qb) Z Z Z;simp;intro i M;refine aB ?_ ?_;intro h1;refine Qr (ds0:=[]) (ZO hw C (hx _ (QAp (Wa:i<l.length))).1 (hx _ (QAp (Wa:i<l.length))).2) Z Z (.inr Z) Z Z (aR ?_ ?_);intro h2;exact(QBs.2 ⟨_,QAp (Wa:i<l.length),h2⟩).symm;intro h2;refine Qc (i+1) ?_ ?_ ?_;exact Ql (l:=[1,2,3,7]) (lH:=[3]) (kp4 Z Z Z Z) (Qa Z Qb) Z Z Z
 grind [MX]
 omega;intro h1
 grind [MC]
theorem FQ (hw:WSm w) (hr:WIn w) (O:T1 w c) {u:Nat} (hu:u<w.length) (huc:u<c.length) (hc0:0<=c[u]):Ok Tryz.prog 56 [QW w,Qz c,.int .i64 ((u:Nat):Int)] (Pp (QmP w c u)):=by
 refine Ok.n6 tfol Tryz.func56 QzT (QAk Z) ?_;show TW _ _ tf56.body _ _;have hb:=Ms O huc;have C:=PB hb.2 hc0;have e1:=L5 hu huc C;have Y:=hw.ns _ (QAp hu) _ (QAp C);have T:=hw.nl _ (QAp hu) _ (QAp C);have G:=hw.nw _ (QAp hu) _ (QAp C);have M:=hw.bw _ (QAp hu) _ (QAp C);have U:=hr.nr _ (QAp hu) _ (QAp C);have V:=hr.bw _ (QAp hu) _ (QAp C);obtain⟨y,hy⟩:∃y,(w[u]'hu).cs[(c[u]'huc).toNat]=y:=⟨_,rfl⟩;rw[hy]at e1 Y T G M U V;refine aS ?_;refine Xz (ds0:=[]) Z Z Z Z Z Z Z Z Z Z (aK ?_);refine Qt (ι:=Nat) (λi=>⟨[(1,Qz c),(2,.int .i64 ((u:Nat):Int)),(3,.ref 3 0 0),(7,.s4 7 (JL w c u y.ns i).length),(8,.ref 8 0 0),(9,.int .i64 i)],[(3,⟨[[.sl ((w).map Zi)]],1,25,true⟩),(7,⟨(JL w c u y.ns i).map Qdn,3,40,true⟩),(8,⟨[RE y],8,70,true⟩)]⟩) (λi=>i<=y.ns.length) (λi=>y.ns.length - i) 0 ?_ ?_ ?_;exact le_trans (Q8 7 7 3 40 Z Z) (Ql (l:=[1,2,3,7,8,9]) (lH:=[3,7,8]) (kp6 Z Z Z Z Z Z) (Qa Z (Qa Z (Qa Z Qb))) Z (by rw[<- hy]<;>rfl) Z)
 omega;intro i hI;have hlen:=KM w c u y.ns i;refine aB ?_ ?_;intro h1;refine Qr (ds0:=[0]) (Fh hw O (T _ (QAp (Wa:i<y.ns.length))) (λx hx=>⟨U _ (QAp (Wa:i<y.ns.length)) x hx,G _ (QAp (Wa:i<y.ns.length)) x hx⟩)) Z Z (.inr Z) Z Z (aB ?_ ?_);intro h2;refine Qn Z Z (Zu Z Z (λ_ h=>ZN Z Z Z h) Z Wc Z Z Z Wb Wb (aK ?_));refine Qc (i+1) ?_ ?_ ?_;exact Ql (l:=[1,2,3,7,8,9]) (lH:=[3,7,8]) (kp6 Z Z Z Z Z Z) (Qa Z (Qa Z (Qa Z Qb))) (by rw[PY Wa h2,QAY]<;>rfl) (by rw[PY Wa h2,QBi]<;>rfl) Z
 omega;omega;intro h2;refine Qc (i+1) ?_ ?_ ?_;exact Ql (l:=[1,2,3,7,8,9]) (lH:=[3,7,8]) (kp6 Z Z Z Z Z Z) (Qa Z (Qa Z (Qa Z Qb))) (by grind [PX]) (by grind [PX]) Z;omega;omega;intro h1;refine Qt (ι:=Nat) (λi=>⟨[(1,Qz c),(2,.int .i64 ((u:Nat):Int)),(3,.ref 3 0 0),(7,.s4 7 (JL w c u y.ns y.ns.length++SW w c u y.bs i).length),(8,.ref 8 0 0),(10,.int .i64 i)],[(3,⟨[[.sl ((w).map Zi)]],1,25,true⟩),(7,⟨((JL w c u y.ns y.ns.length++SW w c u y.bs i)).map Qdn,3,40,true⟩),(8,⟨[RE y],8,70,true⟩)]⟩) (λi=>i<=y.bs.length) (λi=>y.bs.length - i) 0 ?_ ?_ ?_;exact Ql (l:=[1,2,3,7,8,10]) (lH:=[3,7,8]) (kp6 Z Z Z Z Z Z) (Qa Z (Qa Z (Qa Z Qb))) (by grind [SW]) (by grind [SW]) Z;omega;intro i hI;have hlen:=KM w c u y.ns y.ns.length;have hlen2:=PD w c u y.bs i;refine aB ?_ ?_;intro h3;refine Qr (ds0:=[]) (ZO hw O (V _ (QAp (Wa:i<y.bs.length))) (M _ (QAp (Wa:i<y.bs.length)))) Z Z (.inr Z) Z Z (aR ?_ ?_);intro h4;refine Qn Z Z (Zu Z Z (λ_ h=>ZN Z Z Z h) Z Wc Z Z Z Wb Wb (aK ?_));refine Qc (i+1) ?_ ?_ ?_;exact Ql (l:=[1,2,3,7,8,10]) (lH:=[3,7,8]) (kp6 Z Z Z Z Z Z) (Qa Z (Qa Z (Qa Z Qb))) (by rw[Lj Wa h4,<- QA9,QAY (bs:=[_])]<;>rfl) (by rw[Lj Wa h4,<- QA9,QBi (l₂:=[_])]<;>rfl) Z
 omega;omega;intro h4;refine Qc (i+1) ?_ ?_ ?_;exact Ql (l:=[1,2,3,7,8,10]) (lH:=[3,7,8]) (kp6 Z Z Z Z Z Z) (Qa Z (Qa Z (Qa Z Qb))) (by grind [Lk]) (by grind [Lk]) Z;omega;omega;intro h3;exact Xb Z Z Z Wc (by rw[e1,QiZ,show y.bs.length=i by omega];rfl)
theorem XJ (hw:Po w) (hc:c.length<=1048576):Ok Tryz.prog 26 [QW w,Qz c] (Pp (wrongR w c)):=by
 refine Ok.n6 tfol Tryz.func26 QzF (QAk Z) ?_;show TW _ _ tf26.body _ _;refine aS ?_;refine Qg (YL hw hc) Z Z (.inr Z) (aV ?_ ?_);intro h1;refine aK ?_;refine QM Z ?_;rw[DP Wa];rfl;intro h1;obtain⟨T,V⟩:=MH (w:=w) (c:=c) Wa;have M:=T.val hw;have O:=M.se;have hr:=M.jf;have C:=V.ch;have hcl:=C.len;have Y:=M.len;refine aJ ?_;refine HO (ι:=Unit) (λ_=>⟨[(1,Qz c),(2,.ref 2 0 0),(5,.s4 5 (Q4 w c 0).length)],[(2,⟨[[.sl ((w).map Zi)]],1,25,true⟩),(5,⟨(Q4 w c 0).map Qdn,3,40,true⟩)]⟩) (λ_=>True) ?_ ?_
 skip
 refine aB ?_ ?_;intro h2;refine Qn Z Z (Qa8 Z Z (λ_ h=>ZN Z Z Z h) Z (.inl Z) Wc Wc Wc (aK ?_));refine QT () ?_ ?_;exact le_trans (MD (l:=[1,2]) (lH:=[2]) 18 5 5 (kp2 Z Z) (Qa Z Qb) Z Z Z Z Z Z Z) (Ql (l:=[1,2,5]) (lH:=[2,5]) (kp3 Z Z Z) (Qa Z (Qa Z Qb)) (by grind [DQ]) (by rw[DQ Wa h2]<;>rfl) Z)
 simp;intro h2;refine QT () ?_ ?_;exact le_trans (Q8 5 5 3 40 Z Z) (Ql (l:=[1,2,5]) (lH:=[2,5]) (kp3 Z Z Z) (Qa Z (Qa Z Qb)) (by grind [Ra]) (by rw[Ra Wa h2]<;>rfl) Z)
 simp;intro _ hJ;refine aK ?_;refine Qt (ι:=Nat) (λi=>⟨[(1,Qz c),(2,.ref 2 0 0),(5,.s4 5 (Q4 w c i).length),(6,.int .i64 i)],[(2,⟨[[.sl ((w).map Zi)]],1,25,true⟩),(5,⟨(Q4 w c i).map Qdn,3,40,true⟩)]⟩) (λi=>i<=c.length) (λi=>c.length - i) 0 ?_ ?_ ?_;exact Ql (l:=[1,2,5,6]) (lH:=[2,5]) (kp4 Z Z Z Z) (Qa Z (Qa Z Qb)) Z Z Z;omega;intro i hI;have hlen:=Hq O c i;have U:=L6 O c i;refine aB ?_ ?_;intro h3;refine aB ?_ ?_;intro G;refine Qg (FQ O hr C (u:=i) Wa Wa G) rfl rfl (.inl rfl) (Zu rfl rfl (λ_ h=>Pl (λr hr=>by obtain⟨f,_,rfl⟩:=QAy.1 hr;rfl) h) rfl Wc rfl rfl rfl Wb Wb (aK ?_))
 refine Qc (i+1) ?_ ?_ ?_;exact Ql (l:=[1,2,5,6]) (lH:=[2,5]) (kp4 Z Z Z Z) (Qa Z (Qa Z Qb)) (by rw[Ma Wa G,QAY,QBd]<;>rfl) (by rw[Ma Wa G,QBi]<;>rfl) Z
 omega;omega;intro G;refine Qc (i+1) ?_ ?_ ?_;exact Ql (l:=[1,2,5,6]) (lH:=[2,5]) (kp4 Z Z Z Z) (Qa Z (Qa Z Qb)) (by grind [Mb]) (by grind [Mb]) Z;omega;omega;intro h3;exact Xb Z Z Z Wc (by rw[Hp Wa,SQ,show c.length=i by omega];rfl)
theorem Gc (hw:Po w) (C:c.length<=1048576):Ok Tryz.prog 19 [QW w,Qz c] (.bool (holdsR w c)):=by
 refine Ok.n6 tfol Tryz.func19 Qzy (QAk Z) ?_;show TW _ _ tf19.body _ _;refine aS ?_;refine Qg (YL hw C) Z Z (.inr Z) (aR ?_ ?_);intro h1;refine Qg (XJ hw C) Z Z (.inl Z) (aK ?_);simp[holdsR, *];intro h1;simp[holdsR, *]
end Go.Proofs
namespace Go.Proofs
open Go Go.Abs
set_option maxRecDepth 100000
set_option maxHeartbeats 0
set_option cbv.maxSteps 100000000
def t3:TT false Tryz.f3:=⟨_,by cbv⟩
def tf3:z5:=t3.1
theorem tp3:Qj Tryz.prog Tryz.f3=some tf3.erase:=by kernel_rfl
def t24:TT false Tryz.f24:=⟨_,by cbv⟩
def tf24:z5:=t24.1
theorem QzD:Qj Tryz.prog Tryz.f24=some tf24.erase:=by kernel_rfl
def t27:TT false Tryz.f27:=⟨_,by cbv⟩
def tf27:z5:=t27.1
theorem QzG:Qj Tryz.prog Tryz.f27=some tf27.erase:=by kernel_rfl
open M3 M25
set_option maxRecDepth 4000
set_option maxHeartbeats 4000000
theorem Kh {l:List BO} (G:l.length<=1048576):Ok Tryz.prog 24 [Pp l,Pp l] (.bool true):=by
 refine Ok.n6 tfol Tryz.func24 QzD (QAk Z) ?_;show TW _ _ tf24.body _ _;refine aX ?_ ?_;intro h1;exact absurd trivial h1;intro h1;refine Qt (ι:=Nat) (λi=>⟨[(0,Pp l),(1,Pp l),(5,.int .i64 i)],[]⟩) (λi=>i<=l.length) (λi=>l.length - i) 0 ?_ ?_ ?_;exact QB (kp3 Z Z Z);exact QAw _;intro i M
 try dsimp only
 refine aB ?_ ?_;intro h2;refine QjH Z Z Z (aB ?_ ?_);intro C;simp at C;intro C;refine Qc (i+1) ?_ ?_ ?_;exact QB (kp3 Z Z Z);omega
 first |omega |(simp only;omega) |(dsimp only;omega)
 intro h2;rfl
theorem Kz {l:List Bool} (G:l.length<=1048576):Ok Tryz.prog 27 [X9 l,X9 l] (.bool true):=by
 refine Ok.n6 tfol Tryz.func27 QzG (QAk Z) ?_;show TW _ _ tf27.body _ _;refine aX ?_ ?_;intro h1;exact absurd trivial h1;intro h1;refine Qt (ι:=Nat) (λi=>⟨[(0,X9 l),(1,X9 l),(5,.int .i64 i)],[]⟩) (λi=>i<=l.length) (λi=>l.length - i) 0 ?_ ?_ ?_;exact QB (kp3 Z Z Z);exact QAw _;intro i M
 try dsimp only
 refine aB ?_ ?_;intro h2;refine aB ?_ ?_;intro C;simp at C;intro C;refine Qc (i+1) ?_ ?_ ?_;exact QB (kp3 Z Z Z);omega
 first |omega |(simp only;omega) |(dsimp only;omega)
 intro h2;rfl
theorem c_linchpinlaw19_ChoiceMade {l m:List Int} {up:Bool} {w:Qe} (hW:Ok Tryz.prog 15 [Qz l] (QW w)) (hw:Po w) (G:mayC w (YS w m up)=true) (U:(∀x∈m, -9223372036854775808<=x/\x<=9223372036854775807)):Ok Tryz.prog 3 [Qz l,Qz m,.bool up,gD] (.bool true):=by
 refine Ok.ia (ds:=[Qz l,Qz m,.bool up]) (dg:=gD) tfol Tryz.func3 tp3 (QAk Z) ?_;show TW _ _ tf3.body _ _;have M:=hw.len;have O:(YS w m up).length=w.length:=Qcs;have C:(YS w m up).length<=1048576:=Wa;have T:=@MV w hw (YS w m up);have Y:=MK w (YS w m up);have V:=BA w (YS w m up);refine aS ?_;refine Qg (hW) Z Z (.inl Z) (aK ?_);refine Qg (Yq hw U) Z Z (.inl Z) (aK ?_);refine Qr (ds0:=dn 19) (YP hw (c:=(YS w m up)) C) Z Z (.inr Z) Z Z (aB ?_ ?_)
 ·intro h1;refine Qr (ds0:=dn 12) (XB hw (c:=(YS w m up)) C) Z Z (.inr Z) Z Z (aK ?_);refine Qr (ds0:=dn 12) (Gc hw (c:=(YS w m up)) C) Z Z (.inr Z) Z Z (aF ?_)
  try intro h2
  refine Qr (ds0:=[2,1,0]) (Jg hw (c:=(YS w m up)) C) Z Z (.inl Z) Z Z (aK ?_);refine Qr (ds0:=[2,1,0]) (Fg hw (c:=(YS w m up)) C) Z Z (.inl Z) Z Z (aK ?_);refine Qr (ds0:=[1,0]) (YQ (l:=tidyR w (YS w m up)) Wa) Z Z (.inr Z) Z Z (aK ?_);refine Qr (ds0:=dn 22) (Z6) Z Z (.inr Z) Z Z (aK ?_);refine Qr (ds0:=dn 12) (Yw hw (c:=(YS w m up)) C) Z Z (.inl Z) Z Z (aK ?_);refine Qr (ds0:=dn 12) (XJ hw (c:=(YS w m up)) C) Z Z (.inl Z) Z Z (aK ?_);refine Qr (ds0:=dn 11) (Kh (l:=wrongR w (YS w m up)) Wa) Z Z (.inr Z) Z Z (aK ?_);refine Qr (ds0:=[2,1,0]) (Y0 hw (c:=(YS w m up)) C) Z Z (.inl Z) Z Z (aK ?_);refine Qr (ds0:=[2,1,0]) (Xk hw (c:=(YS w m up)) C) Z Z (.inl Z) Z Z (aK ?_);refine Qr (ds0:=[1,0]) (Kz (l:=neededR w (YS w m up)) Wa) Z Z (.inr Z) Z Z (aK ?_)
  (repeat clear hK K);first |rfl |(simp;done) |simp_all
 intro h1;rw[G]at h1;cases h1
end Go.Proofs
