/- Part 41 of the means of the proof: a verified evaluator and contracts of functions. -/
import Derived.Test.YtggcpapoljmiaaaGreatDoorC21
set_option maxRecDepth 4000
set_option maxHeartbeats 4000000
set_option linter.unusedSimpArgs false
set_option linter.unusedVariables false
set_option linter.unusedSectionVars false
namespace Go.Proofs
open Go Go.Abs M3 M25
variable {a b c:Int} {l:List (Cu × Cu)} {p q:List UInt8}
theorem P6 (C:Sm l):Ok Tryz.prog 157 [Qv l] (.bool (JL l)):=by
 refine Ok.b7 tfol Tryz.func157 Quy (QzN Z) ?_;show TW _ _ tf157.body _ _;have T:=C.1;refine aS ?_;refine QE (ι:=Nat) (λi=>⟨[(0,Qv l),(5,Qv l),(6,.int .i64 l.length),(7,.int .i64 i)],[]⟩) (λi=>i<=l.length/\(List.range i).all (QmD l)=true) (λi=>l.length - i) 0 ?_ ?_ ?_;exact Qn (l:=[0,5,6,7]) (kp4 Z Z Z Z) Qb Wc Z Z;simp;intro i G;refine aB ?_ ?_;intro h1;refine Qw (ds0:=dn 17) (FU (C.at (i:=i) Wa).1.1 (C.at (i:=i) Wa).1.2 (C.at (i:=i) Wa).2.1 (C.at (i:=i) Wa).2.2) Z Z (.inr Z) Z Z (aB ?_ ?_);intro h2;refine Qx Z (aK ?_)
 first
  |exact(GO G.2 Wa).symm
  |exact(YJ (i:=i) Wa (Hq Wa (.inl h2))).symm
  |(simp only[J1]at*;exact(YJ (i:=i) Wa (Hq Wa (.inr ⟨Wa,M⟩))).symm)
 intro h2;refine aB ?_ ?_;intro O;refine Qw (ds0:=[2,1,0]) (FT (C.at (i:=((i:Int) - 1).toNat) Wa).2.1 (C.at (i:=((i:Int) - 1).toNat) Wa).2.2 (C.at (i:=i) Wa).1.1 (C.at (i:=i) Wa).1.2) Z Z (.inr Z) Z Z (aB ?_ ?_);intro M
 first
  |exact(GO G.2 Wa).symm
  |exact(YJ (i:=i) Wa (Hq Wa (.inl h2))).symm
  |(simp only[J1]at*;exact(YJ (i:=i) Wa (Hq Wa (.inr ⟨Wa,M⟩))).symm)
 intro M;refine Qd (i+1) ?_ ?_ ?_;exact Qn (l:=[0,5,6,7]) (lH:=[]) (kp4 Z Z Z Z) Qb Z Z Z;exact⟨Wa,PC G.2 (QbX Wa h2 (by(simp only[J1]at*;exact .inr (Int.not_le.1 M))))⟩
 omega;intro O;refine QP Z (aK ?_);refine Qd (i+1) ?_ ?_ ?_;exact Qn (l:=[0,5,6,7]) (lH:=[]) (kp4 Z Z Z Z) Qb Z Z Z;exact⟨Wa,PC G.2 (QbX Wa h2 Wa)⟩;omega;intro h1
 first
  |exact(GO G.2 Wa).symm
  |exact(YJ (i:=i) Wa (Hq Wa (.inl h2))).symm
  |(simp only[J1]at*;exact(YJ (i:=i) Wa (Hq Wa (.inr ⟨Wa,M⟩))).symm)
theorem DY (C:Sm l) (hp:p.length<=1048576) (O:q.length<=1048576):Ok Tryz.prog 121 [Qv l,.agg [.int .i64 a,.int .i64 b,.int .i64 c,.str p,.str q]] (.bool (SL l a b c p q)):=by
 refine Ok.b7 tfol Tryz.func121 Que (QzN Z) ?_;show TW _ _ tf121.body _ _;have T:=C.1;refine aS ?_;refine Qf (P6 C) Z Z (.inr Z) (aB ?_ ?_);intro h1
 grind [Pi]
 intro h1;refine QE (ι:=Nat) (λi=>⟨[(3,.ref 3 0 0),(10,Qv l),(11,.int .i64 l.length),(12,.int .i64 i)],[(3,⟨[[.int .i64 a,.int .i64 b,.int .i64 c,.str p,.str q]],5,66,true⟩)]⟩) (λi=>i<=l.length/\(l.take i).any (λs=>RM s a b c p q)=false) (λi=>l.length - i) 0 ?_ ?_ ?_;exact Qn (l:=[3,10,11,12]) (lH:=[3]) (kp4 Z Z Z Z) (Qa Z Qb) Wc Z Z;simp;intro i M;refine aB ?_ ?_;intro h2;refine Qf (BG (C.at (i:=i) Wa).1.1 (C.at (i:=i) Wa).1.2 (C.at (i:=i) Wa).2.1 (C.at (i:=i) Wa).2.2 hp O) Z Z (.inr Z) (aB ?_ ?_);intro G
 first
  |exact(Ph (i:=i) Wa M.2).symm
  |exact(Pi h1).symm
  |exact(Qbo h1 (i:=i) Wa G).symm
 intro G;refine Qd (i+1) ?_ ?_ ?_;exact Qn (l:=[3,10,11,12]) (lH:=[3]) (kp4 Z Z Z Z) (Qa Z Qb) Z Z Z;exact⟨Wa,PV Wa M.2 G⟩;omega;intro h2
 grind [Ph]
theorem F2 {e:Int} {f:Bool}:Ok Tryz.prog 156 [.agg [.int .i64 e,.int .i64 a,.int .i64 b,.int .i64 c,.str p,.str q,.bool f],gD] (.bool (J0 e a b c p q f)):=by
 refine Ok.ka (ds:=[.agg [.int .i64 e,.int .i64 a,.int .i64 b,.int .i64 c,.str p,.str q,.bool f]]) (dg:=gD) tfol Tryz.func156 Qux (QzN Z) ?_;show TW _ _ tf156.body _ _;refine aX ?_ ?_;intro h1
 grind [J0]
 intro h1;refine aB ?_ ?_;intro h2;refine aB ?_ ?_;intro C;refine Qjn Z Z Z (aK ?_)
 grind [J0]
 intro C
 grind [J0]
 intro h2
 grind [J0]
variable {s:List (Cu × Cu) × List (Cu × Cu)}
theorem DZ (C:Sm s.1) (M:Sm s.2):Ok Tryz.prog 120 [Li s,gD] (.bool (Kh s)):=by
 refine Ok.ka (ds:=[Li s]) (dg:=gD) tfol Tryz.func120 Qud (QzN Z) ?_;show TW _ _ tf120.body _ _;have U:=C.1;refine aS ?_;refine QE (ι:=Nat) (λi=>⟨[(1,.ref 1 0 0),(6,Qv s.1),(7,.int .i64 s.1.length),(8,.int .i64 i),(900000,gD)],[(1,⟨[[Qv s.1,Qv s.2]],2,79,true⟩)]⟩) (λi=>i<=s.1.length/\(s.1.take i).all (λx=>Xf x.1&&Xf x.2)=true) (λi=>s.1.length - i) 0 ?_ ?_ ?_;exact Qn (l:=[1,6,7,8,900000]) (lH:=[1]) (kp5 Z Z Z Z Z) (Qa Z Qb) Wc Z Z;simp;intro i O;refine aB ?_ ?_;intro h1;refine Qf (F2) Z Z (.inr Z) (aB ?_ ?_);intro h2;refine Qx Z (aK ?_)
 first
  |exact(Pt (i:=i) Wa (.inl h2)).symm
  |exact(Pt (i:=i) Wa (.inr G)).symm
  |(rw[Pu (i:=i) Wa O.2];simp_all)
 intro h2;refine Qf (F2) Z Z (.inr Z) (aB ?_ ?_);intro G
 first
  |exact(Pt (i:=i) Wa (.inl h2)).symm
  |exact(Pt (i:=i) Wa (.inr G)).symm
  |(rw[Pu (i:=i) Wa O.2];simp_all)
 intro G;refine Qd (i+1) ?_ ?_ ?_;exact Qn (l:=[1,6,7,8,900000]) (lH:=[1]) (kp5 Z Z Z Z Z) (Qa Z Qb) Z Z Z
 grind [Zg,Xf]
 omega;intro h1;refine Qf (P6 C) Z Z (.inr Z) (aR ?_ ?_);intro T;refine Qf (P6 M) Z Z (.inr Z) (aK ?_)
 grind [Pu]
 intro T
 grind [Pu]
theorem Qd3 (G:Sm s.1) (C:Sm s.2) {a b c:Int} {p q:List UInt8} (hp:p.length<=1048576) (M:q.length<=1048576):Ok Tryz.prog 84 [Li s,.agg [.int .i64 a,.int .i64 b,.int .i64 c,.str p,.str q],gD] (.bool (Nt s a b c p q)):=by
 refine Ok.ka (ds:=[Li s,.agg [.int .i64 a,.int .i64 b,.int .i64 c,.str p,.str q]]) (dg:=gD) tfol Tryz.func84 Qzz (QzN Z) ?_;show TW _ _ tf84.body _ _;refine aS ?_;refine Qf (DZ G C) Z Z (.inr Z) (aB ?_ ?_);intro h1;refine Qx Z (aK ?_)
 grind [Nt]
 intro h1;refine Qf (ZO hp M) Z Z (.inr Z) (aB ?_ ?_);intro h2
 grind [Nt]
 intro h2;refine aB ?_ ?_;intro O;refine Qf (DY G hp M) Z Z (.inr Z) (aK ?_)
 grind [Nt]
 intro O;refine Qf (DY C hp M) Z Z (.inr Z) (aK ?_)
 grind [Nt]
variable {n:Nat}
theorem F3 {l:List QZ} (O:l.length<=1048576) (hx:∀x∈l,Sm x.s.1/\Sm x.s.2):Ok Tryz.prog 119 [Xh l,.int .i64 ((n:Nat):Int),gD] (.bool (l.all (wnR n))):=by
 refine Ok.ka (ds:=[Xh l,.int .i64 ((n:Nat):Int)]) (dg:=gD) tfol Tryz.func119 Quc (QzN Z) ?_;show TW _ _ tf119.body _ _;refine aS ?_;refine QE (ι:=Nat) (λi=>⟨[(1,.int .i64 ((n:Nat):Int)),(7,Xh l),(8,.int .i64 l.length),(9,.int .i64 i),(900000,gD)],[]⟩) (λi=>i<=l.length/\(l.take i).all (wnR n)=true) (λi=>l.length - i) 0 ?_ ?_ ?_;exact Qn (l:=[1,7,8,9,900000]) (lH:=[]) (kp5 Z Z Z Z Z) Qb Z Z Z;simp;intro i C;refine aB ?_ ?_;intro h1;refine aB ?_ ?_;intro h2;refine Qx Z (aK ?_)
 first |(exact(PU (i:=i) Wa (by grind [wnR])).symm) |(rw[<- C.2,Qz3 Wa])
 intro h2;refine aB ?_ ?_;intro M;refine Qx Z (aK ?_)
 first |(exact(PU (i:=i) Wa (by grind [wnR])).symm) |(rw[<- C.2,Qz3 Wa])
 intro M;refine Qf (DZ (s:=l[i].s) (hx _ (QzS (Wa:i<l.length))).1 (hx _ (QzS (Wa:i<l.length))).2) Z Z (.inr Z) (aB ?_ ?_);intro G
 grind [wnR]
 intro G;refine Qd (i+1) ?_ ?_ ?_;exact Qn (l:=[1,7,8,9,900000]) (lH:=[]) (kp5 Z Z Z Z Z) Qb Z Z Z
 grind [Zg,wnR]
 omega;intro h1
 grind
theorem Kt {c:CandT} (C:Qsi c):Ok Tryz.prog 83 [.agg (Lh c),.int .i64 ((n:Nat):Int),gD] (.bool (cdN n c)):=by
 refine Ok.ka (ds:=[.agg (Lh c),.int .i64 ((n:Nat):Int)]) (dg:=gD) tfol Tryz.func83 Qzy (QzN Z) ?_;show TW _ _ tf83.body _ _;have G:=C.nl;have M:=C.bl;refine aX ?_ ?_;intro h1;refine Qx Z (aK ?_)
 grind [cdN]
 intro h1;refine aB ?_ ?_;intro h2
 grind [cdN]
 intro h2;refine QE (ι:=Nat) (λi=>⟨[(1,.int .i64 ((n:Nat):Int)),(2,.ref 2 0 0),(18,Ky c.ns),(19,.int .i64 c.ns.length),(20,.int .i64 i),(900000,gD)],[(2,⟨[[.int .i64 (c).v.a,.int .i64 (c).v.b,.int .i64 (c).v.c,.str (c).v.p,.str (c).v.q,.int .i64 (c).sh,Ky (c).ns,Xh (c).bs]],8,70,true⟩)]⟩) (λi=>i<=c.ns.length/\(c.ns.take i).all (Qg4 n)=true) (λi=>c.ns.length - i) 0 ?_ ?_ ?_;exact Qn (l:=[1,2,18,19,20,900000]) (lH:=[2]) (kp6 Z Z Z Z Z Z) (Qa Z Qb) Z Z Z;simp;intro i Y;refine aB ?_ ?_;intro V;refine aB ?_ ?_;intro U;refine Qx Z (aK ?_)
 (rw[cdN,PU (p:=Qg4 n) (l:=c.ns) (i:=i) Wa (by grind [Qg4])];simp)
 intro U;refine aB ?_ ?_;intro T;refine Qx Z (aK ?_)
 (rw[cdN,PU (p:=Qg4 n) (l:=c.ns) (i:=i) Wa (by grind [Qg4])];simp)
 intro T;refine Qf (F3 (C.rows _ (QzS (Wa:i<c.ns.length))).1 (C.rows _ (QzS (Wa:i<c.ns.length))).2) Z Z (.inr Z) (aB ?_ ?_);intro O
 (rw[cdN,PU (p:=Qg4 n) (l:=c.ns) (i:=i) Wa (by grind [Qg4])];simp)
 intro O;refine Qd (i+1) ?_ ?_ ?_;exact Qn (l:=[1,2,18,19,20,900000]) (lH:=[2]) (kp6 Z Z Z Z Z Z) (Qa Z Qb) Z Z Z
 grind [Zg,Qg4]
 omega;intro V;refine Qf (F3 C.bl C.bars) Z Z (.inr Z) (aK ?_)
 grind [cdN]
theorem Ld {a b:List UInt8} {a' b':List UInt8}:Ok Tryz.prog 80 [.agg [.str a,.str a'],.agg [.str b,.str b']] (.int .i64 (Zy [X3 a b,X3 a' b'])):=by
 refine Ok.b7 tfol Tryz.func80 Qzv (QzN Z) ?_;show TW _ _ tf80.body _ _;refine aS ?_;refine Qw (ds0:=[2,1,0]) (Ys) Z Z (.inr Z) Z Z (aK ?_);refine Qw (ds0:=[2,1,0]) (Ys) Z Z (.inr Z) Z Z (Qo Z Z (Qw (ds0:=[0]) (Mz (l:=[X3 a b,X3 a' b']) Wc) Z Z (.inr Z) Z Z (aK ?_)));rfl
theorem BH {w:Qg} (hw:DO w):Ok Tryz.prog 51 [Q6 w,gD] (.bool (mayB w)):=by
 refine Ok.ka (ds:=[Q6 w]) (dg:=gD) tfol Tryz.func51 Qzl (QzN Z) ?_;show TW _ _ tf51.body _ _;have hwl:=hw.len;refine aX ?_ ?_;intro h1;refine Qx Z (aK ?_);exact(Mm λh=>by have:=h.len;omega).symm
 intro h1;refine aB ?_ ?_;intro h2;refine Qx Z (aK ?_);exact(Mm λh=>by have:=h.len;omega).symm
 intro h2;refine aB ?_ ?_;intro h3;refine Qx Z (aK ?_);exact(Mm λh=>by have:=(h.u 0 Wa).r0 Wa rfl;grind).symm
 intro h3;refine aB ?_ ?_;intro h4;refine Qx Z (aK ?_);exact(Mm λh=>by have:=(h.u 0 Wa).r0 Wa rfl;grind).symm
 intro h4;refine aB ?_ ?_;intro h5;exact(Mm λh=>by have:=(h.u 0 Wa).r0 Wa rfl;grind).symm
 intro h5;refine QE (ι:=Nat) (λi=>⟨[(1,.ref 1 0 0),(3,.int .i64 w.length),(43,.sl (w.map Yk)),(44,.int .i64 w.length),(45,.int .i64 i),(900000,gD)],[(1,⟨[[.sl ((w).map Yk)]],1,25,true⟩)]⟩) (λi=>i<=w.length/\∀j,j<i->UOk w j) (λi=>w.length - i) 0 ?_ ?_ ?_;exact Qn (l:=[1,3,43,44,45,900000]) (lH:=[1]) (kp6 Z Z Z Z Z Z) (Qa Z Qb) Z Z Z;simp;intro i hI;refine aV ?_ ?_;intro h6;refine aJ ?_;refine Kr (aJ ?_);refine aZ ?_;refine FQ (ι:=Unit) (λ_=>⟨[(1,.ref 1 0 0),(3,.int .i64 w.length),(5,.ref 5 0 0),(43,.sl (w.map Yk)),(44,.int .i64 w.length),(45,.int .i64 i),(900000,gD)],[(1,⟨[[.sl ((w).map Yk)]],1,25,true⟩),(5,⟨[Yk (w[i]'Wa)],3,58,true⟩)]⟩) (λ_=>((0<i->(w[i]'Wa).n≠[])/\(1<i->SV (w[i - 1]'Wa) (w[i]'Wa)=true))/\(w[i]'Wa).cs.length<=16) ?_ ?_
 skip
 refine aB ?_ ?_;intro h7;refine aB ?_ ?_;intro h8;refine Qx Z (aK ?_);exact(Mm λh=>(h.u i Wa).name Wa Wa Wa).symm;intro h8;refine aB ?_ ?_;intro h9;refine Qw (ds0:=dn 9) (Ld) Z Z (.inr Z) Z Z (aB ?_ ?_);intro h10;refine Qx Z (aK ?_);exact(Mm λh=>by have:=CP.2 ((h.u i Wa).nh Wa Wa);grind).symm
 intro h10;refine aB ?_ ?_;intro h11;exact(Mm λh=>by have:=(h.u i Wa).cl Wa;omega).symm
 intro h11;refine Ze () ?_ ?_;exact Qn (l:=[1,3,5,43,44,45,900000]) (lH:=[1,5]) (kp7 Z Z Z Z Z Z Z) (Qa Z (Qa Z Qb)) Z Z Z
 grind [CP]
 intro h9;refine aB ?_ ?_;intro h12;exact(Mm λh=>by have:=(h.u i Wa).cl Wa;omega).symm
 intro h12;refine Ze () ?_ ?_;exact Qn (l:=[1,3,5,43,44,45,900000]) (lH:=[1,5]) (kp7 Z Z Z Z Z Z Z) (Qa Z (Qa Z Qb)) Z Z Z
 grind
 intro h7;refine aB ?_ ?_;intro h13
 grind
 intro h13;refine aB ?_ ?_;intro h16
 (repeat clear hK K);simp_all
 intro h16;refine Ze () ?_ ?_;exact Qn (l:=[1,3,5,43,44,45,900000]) (lH:=[1,5]) (kp7 Z Z Z Z Z Z Z) (Qa Z (Qa Z Qb)) Z Z Z;omega;intro _ M;refine aK ?_;refine QE (ι:=Nat) (λk=>⟨[(1,.ref 1 0 0),(3,.int .i64 w.length),(5,.ref 5 0 0),(43,.sl (w.map Yk)),(44,.int .i64 w.length),(45,.int .i64 i),(92,QaY (w[i]'Wa).cs),(93,.int .i64 (w[i]'Wa).cs.length),(94,.int .i64 k),(900000,gD)],[(1,⟨[[.sl ((w).map Yk)]],1,25,true⟩),(5,⟨[Yk (w[i]'Wa)],3,58,true⟩)]⟩) (λk=>k<=(w[i]'Wa).cs.length/\(∀j (C:j<(w[i]'Wa).cs.length),j<k->cdR w.length (w[i]'Wa).cs[j]=true/\(0<j->SC ((w[i]'Wa).cs[j - 1]'Wa).v (w[i]'Wa).cs[j].v<0))) (λk=>(w[i]'Wa).cs.length - k) 0 ?_ ?_ ?_;exact Qn (l:=[1,3,5,43,44,45,92,93,94,900000]) (lH:=[1,5]) (Qrg Z Z Z Z Z Z Z Z Z Z) (Qa Z (Qa Z Qb)) Z Z Z;simp;intro k G;refine aB ?_ ?_;intro h17;refine Qw (ds0:=dn 24) (ZO (hw.n8 _ (QzS (Wa:i<w.length)) _ (QzS (Wa:k<(w[i]'Wa).cs.length))).v.1 (hw.n8 _ (QzS (Wa:i<w.length)) _ (QzS (Wa:k<(w[i]'Wa).cs.length))).v.2) Z Z (.inr Z) Z Z (aB ?_ ?_);intro Y;refine Qx Z (aK ?_);exact(Mm λh=>by have:=((h.u i Wa).n8 Wa k Wa).1;rw[cdR,QzR]at this;grind).symm
 intro Y;refine aB ?_ ?_;intro V;refine Qw (ds0:=dn 9) (Xk (hw.n8 _ (QzS (Wa:i<w.length)) _ (QzS Wa)).v.1 (hw.n8 _ (QzS (Wa:i<w.length)) _ (QzS Wa)).v.2 (hw.n8 _ (QzS (Wa:i<w.length)) _ (QzS Wa)).v.1 (hw.n8 _ (QzS (Wa:i<w.length)) _ (QzS Wa)).v.2) Z Z (.inr Z) Z Z (aB ?_ ?_);intro U;refine Qx Z (aK ?_);exact(Mm λh=>by have:=((h.u i Wa).n8 Wa k Wa).2 Wa;simp only[show((k:Int) - 1).toNat=k - 1 by omega]at*;grind [SC]).symm
 intro U;refine Qw (ds0:=[1,0]) (Kt (hw.n8 _ (QzS (Wa:i<w.length)) _ (QzS (Wa:k<(w[i]'Wa).cs.length)))) Z Z (.inr Z) Z Z (aB ?_ ?_);intro T;exact(Mm λh=>by have:=((h.u i Wa).n8 Wa k Wa).1;rw[cdR,QzR]at this;grind).symm
 intro T;refine Qd (k+1) ?_ ?_ ?_;exact Qn (l:=[1,3,5,43,44,45,92,93,94,900000]) (lH:=[1,5]) (Qrg Z Z Z Z Z Z Z Z Z Z) (Qa Z (Qa Z Qb)) Z Z Z;exact⟨Wa,Qo1 Wa G.2 (by rw[cdR,QzR];grind) (by(simp_all [SC]))⟩
 omega;intro V;refine Qw (ds0:=[1,0]) (Kt (hw.n8 _ (QzS (Wa:i<w.length)) _ (QzS (Wa:k<(w[i]'Wa).cs.length)))) Z Z (.inr Z) Z Z (aB ?_ ?_);intro O;exact(Mm λh=>by have:=((h.u i Wa).n8 Wa k Wa).1;rw[cdR,QzR]at this;grind).symm
 intro O;refine Qd (k+1) ?_ ?_ ?_;exact Qn (l:=[1,3,5,43,44,45,92,93,94,900000]) (lH:=[1,5]) (Qrg Z Z Z Z Z Z Z Z Z Z) (Qa Z (Qa Z Qb)) Z Z Z;exact⟨Wa,Qo1 Wa G.2 (by rw[cdR,QzR];grind) Wa⟩
 omega;intro h17;refine Qd (i+1) ?_ ?_ ?_;exact Qn (l:=[1,3,43,44,45,900000]) (lH:=[1]) (kp6 Z Z Z Z Z Z) (Qa Z Qb) Z Z Z;exact⟨Wa,Qvs hI.2 ⟨λ_=>M.2,λ_ e=>⟨by grind,by grind,by grind⟩,λ_=>M.1.1,λ_=>M.1.2,λ_ j C=>G.2 j C Wa⟩⟩;omega;intro h6;refine aK ?_;exact(QpO ⟨Wa,λj C=>hI.2 j Wa⟩).symm
def rI (v:Int):List D:=[.int .i64 v]
def rB (b:Bool):List D:=[.bool b]
theorem Qqo {α:Type} {x:α} {n k:Int} (h0:0<=k) (h:k<n):(List.replicate n.toNat x)[k.toNat]?=some x:=by
 grind
theorem Qkk {o:List Bool} {k:Nat}:(o.map rB).set k [.bool true]=(o.set k true).map rB:=List.map_set.symm
theorem Qke {n:Nat}:List.replicate (n:Int).toNat [D.bool false]=(List.replicate n false).map rB:=by
 rw[List.map_replicate];rfl
abbrev HW (h cu wk:Nat) (w:Qg) (c:List Int) (hb:Bool) (f:Nat) (ps:List D) (b1 b2:u4):QzK:=
 [(500001,b1),(h,b2),(cu,⟨c.map rI,1,3,true⟩),(wk,⟨[[Qpb w,.s4 cu c.length,.bool hb,.r9 f h ps]],4,179,false⟩)]
end Go.Proofs
namespace Go.Proofs
open Go Go.Abs M3 M25
theorem Qqk {ρ:Nat->Nat} {c:List Int}:(c.map rI).map (λr=>r.map (D.o6 ρ))=c.map rI:=by simp[rI,D.o6,Function.comp]
structure Qho {σ:Type} (w:Qg) (hb:Bool) (p:Qoa σ) (B1 B2:σ->u4) (f:Nat) (ps:List D):Prop where
 p1:∀s,(B1 s).pr=true
 s1:∀s,∀r∈(B1 s).rows,∀d∈r,d.l4=[]
 s2:∀s,∀r∈(B2 s).rows,∀d∈r,∀j∈d.l4,j=500001
 cap:ps.all D.fa=true
 o5:∀ρ:Nat->Nat,(ps.map λd=>(d.o5 ρ).can)=ps
 ids:∀d∈ps,d.ids=[]
 ok:∀s cur c,p.ok s 1->n6 Tryz.prog f (Q0 c::.ref 2000006 0 0::ps) (HW 2000006 2500003 2500000 w cur hb f ps (B1 s) (B2 s)) (.bool (p.st s c).2) (HW 2000006 2500003 2500000 w cur hb f ps (B1 (p.st s c).1) (B2 (p.st s c).1))
section
variable {σ:Type} {w:Qg} {hb:Bool} {p:Qoa σ} {B1 B2:σ->u4} {f:Nat} {ps:List D} (hp:Qho w hb p B1 B2 f ps)
include hp
omit hp in
omit hp in
end
end Go.Proofs
namespace Go.Proofs
open Go Go.Abs M3 M25
theorem set_rI {o:List Int} {k:Nat} {b:Int}:(o.map rI).set k [.int .i64 b]=(o.set k b).map rI:=List.map_set.symm
section
variable {w:Qg} {c:List Int} {i:Nat} {q:List Int}
end
section
variable {w:Qg} {t:Nat} {most:Int}
end
theorem Qqp {n:Nat}:List.replicate (n:Int).toNat [D.int .i64 0]=(List.replicate n (0:Int)).map rI:=by
 rw[List.map_replicate];rfl
theorem QlK {c:List Int} {i:Nat} (h:i<c.length) (e:c.take i=List.replicate i (-1)):(c.set i (-1)).take (i+1)=List.replicate (i+1) (-1):=by
 (repeat clear hK K);simp_all [QAZ,List.take_set_of_le,List.replicate_succ']
end Go.Proofs
namespace Go.Proofs
open Go Go.Abs M3 M25
section
variable {w:Qg} {x:Int} {c:List Int} (hw:DO w)
include hw
end
theorem QfT {v:Int} {n:Nat} (G:0<n/\(n:Int)<=9223372036854775807) (C: -9223372036854775808<=v/\v<=9223372036854775807):∃u:Nat,u<n/\Ok Tryz.prog 35 [.int .i64 v,.int .i64 n] (.int .i64 (u:Int)):=by
 have h1:=QiJ (v:=v) (n:=(n:Int)) Wa;have h2:=QiI (v:=v) (n:=(n:Int)) Wa;refine⟨(Y6 v n).toNat,Wa, ?_⟩
 grind [XW]
end Go.Proofs
namespace Go.Proofs
open Go Go.Abs M3 M25
theorem QsT {n:Nat} {c:CandT} (h:Qhw n c):cdR n c=true:=by
 simp only[cdR,cdN,Qg4,QzR,decide_eq_true_eq,QzX];exact⟨h.may,⟨h.nl,h.bl⟩,λr hr=>⟨λx hx=>(Qg2 ((h.rows r hr).2 x hx).sm).2 ((h.rows r hr).2 x hx),(h.rows r hr).1⟩,λx hx=>(Qg2 (h.bars x hx).sm).2 (h.bars x hx)⟩
theorem QgT {w:Qg} (h:fc w):jc w:=⟨h.len,λi hi=>⟨λhi=>h.cl _ (QzS hi),λhi e=>by subst e;exact h.r0 hi,λhi=>h.name i hi,λhi=>h.nh i hi,λhi k hk=>⟨QsT (h.n8 _ (QzS hi) _ (QzS hk)),h.dh _ (QzS hi) k hk⟩⟩⟩
variable {c:List Int} {w:Qg}
theorem La (hw:DO w) (V:c.length<=1048576):Ok Tryz.prog 52 [Q6 w,Q0 c] (.bool (Qhc w c)):=by
 refine Ok.b7 tfol Tryz.func52 Qzm (QzN Z) ?_;show TW _ _ tf52.body _ _;have M:=hw.len;refine aX ?_ ?_;intro h1;exact(Qh9 λh=>by have:=h.len;omega).symm
 intro h1;refine QE (ι:=Nat) (λi=>⟨[(2,.ref 2 0 0),(13,Q0 c),(14,.int .i64 c.length),(15,.int .i64 i)],[(2,⟨[[.sl ((w).map Yk)]],1,25,true⟩)]⟩) (λi=>i<=c.length/\∀j (h:j<c.length) (h2:j<w.length),j<i->-1<=c[j]/\c[j]<w[j].cs.length) (λi=>c.length - i) 0 ?_ ?_ ?_;exact Qn (l:=[2,13,14,15]) (lH:=[2]) (kp4 Z Z Z Z) (Qa Z Qb) Z Z Z;simp;intro i G;refine aB ?_ ?_;intro h2;refine aB ?_ ?_;intro U;refine Qx Z (aK ?_);exact(Qh9 λh=>by have:=h.bd i Wa Wa;omega).symm
 intro U;refine aB ?_ ?_;intro T;exact(Qh9 λh=>by have:=h.bd i Wa Wa;omega).symm
 intro T;refine Qd (i+1) ?_ ?_ ?_;exact Qn (l:=[2,13,14,15]) (lH:=[2]) (kp4 Z Z Z Z) (Qa Z Qb) Z Z Z;exact⟨Wa,Qs4 Wa Wa G.2 Wa Wa⟩;omega;intro h2;exact(Qpn ⟨Wa,λj O C=>G.2 j C O Wa⟩).symm
theorem YP (hw:DO w) (C:c.length<=1048576):Ok Tryz.prog 17 [Q6 w,Q0 c,gD] (.bool (mayC w c)):=by
 refine Ok.ka (ds:=[Q6 w,Q0 c]) (dg:=gD) tfol Tryz.func17 Qzd (QzN Z) ?_;show TW _ _ tf17.body _ _;refine aS ?_;refine Qf (BH hw) Z Z (.inr Z) (aR ?_ ?_);intro h1;refine Qf (La hw C) Z Z (.inr Z) (aK ?_)
 (grind [mayC])
 intro h1
 (grind [mayC])
theorem JS (hw:WSm w) (C:Qjk w c) {x:QZ} (hx:0<=x.u/\x.u<w.length) (M:Sm x.s.1/\Sm x.s.2):Ok Tryz.prog 55 [Q6 w,Q0 c,.agg (F8 x),gD] (.bool (mtM w c x)):=by
 refine Ok.ka (ds:=[Q6 w,Q0 c,.agg (F8 x)]) (dg:=gD) tfol Tryz.func55 Qzo (QzN Z) ?_;show TW _ _ tf55.body _ _;have T:=C.len;have G:x.u.toNat<c.length:=Wa;have hb:=BL C G;refine aX ?_ ?_;intro h1;have O:=Qdm hb.2 h1;refine aK ?_;refine Qw (ds0:=[1,0]) (Qd3 (s:=x.s) M.1 M.2 (hw.vs _ (QzS (Wa:x.u.toNat<w.length)) _ (QzS O)).1 (hw.vs _ (QzS (Wa:x.u.toNat<w.length)) _ (QzS O)).2) Z Z (.inr Z) Z Z (aK ?_)
 (rw[QpU hw C hx.1 hx.2 G h1 (Qdm hb.2 h1)];rfl)
 intro h1
 grind [Qmt]
theorem My (hw:WSm w) (C:Qjk w c) {l:List QZ} (G:l.length<=1000) (hx:∀x∈l,(0<=x.u/\x.u<w.length)/\(Sm x.s.1/\Sm x.s.2)):Ok Tryz.prog 54 [Q6 w,Q0 c,Xh l,gD] (.bool (Qe9 w c l)):=by
 refine Ok.ka (ds:=[Q6 w,Q0 c,Xh l]) (dg:=gD) tfol Tryz.func54 Qzn (QzN Z) ?_;show TW _ _ tf54.body _ _;refine aS ?_;refine QE (ι:=Nat) (λi=>⟨[(1,Q0 c),(3,.ref 3 0 0),(9,Xh l),(10,.int .i64 l.length),(11,.int .i64 i),(900000,gD)],[(3,⟨[[.sl ((w).map Yk)]],1,25,true⟩)]⟩) (λi=>i<=l.length/\(l.take i).any (mtM w c)=false) (λi=>l.length - i) 0 ?_ ?_ ?_;exact Qn (l:=[1,3,9,10,11,900000]) (lH:=[3]) (kp6 Z Z Z Z Z Z) (Qa Z Qb) Z Z Z;simp;intro i M;refine aB ?_ ?_;intro h1;refine Qf (JS hw C (hx _ (QzS (Wa:i<l.length))).1 (hx _ (QzS (Wa:i<l.length))).2) Z Z (.inr Z) (aR ?_ ?_);intro h2;exact(QAW.2 ⟨_,QzS (Wa:i<l.length),h2⟩).symm;intro h2;refine Qd (i+1) ?_ ?_ ?_;exact Qn (l:=[1,3,9,10,11,900000]) (lH:=[3]) (kp6 Z Z Z Z Z Z) (Qa Z Qb) Z Z Z
 grind [PV]
 omega;intro h1
 grind [Qe9]
theorem J7 (hw:DO w) (hc:c.length<=1048576):Ok Tryz.prog 25 [Q6 w,Q0 c,gD] (Qlz (wrongR w c)):=by
 refine Ok.ka (ds:=[Q6 w,Q0 c]) (dg:=gD) tfol Tryz.func25 Qwf (QzN Z) ?_;show TW _ _ tf25.body _ _;refine aS ?_;refine Qf (YP hw hc) Z Z (.inr Z) (aV ?_ ?_);intro h1;refine aK ?_;refine QO Z ?_;rw[QcC Wa];rfl;intro h1;obtain⟨hmw,hfw⟩:=RQ (w:=w) (c:=c) Wa;have hv:=hmw.val hw;have V:=hv.yg;have hr:=hv.fh;have O:=hfw.ch;have hcl:=O.len;have hvl:=hv.len;refine aJ ?_;refine aZ ?_;refine FQ (ι:=Unit) (λ_=>⟨[(1,Q0 c),(2,.ref 2 0 0),(5,.s4 5 (QX w c 0).length),(900000,gD)],[(2,⟨[[.sl ((w).map Yk)]],1,25,true⟩),(5,⟨(QX w c 0).map Sv,3,40,true⟩)]⟩) (λ_=>True) ?_ ?_
 skip
 refine aB ?_ ?_;intro h2;refine Qo Z Z (QaG Z Z (λ_ h=>YE Z Z Z h) Z (.inl Z) Wc Wc Wc (aK ?_));refine Ze () ?_ ?_;exact le_trans (FC (l:=[1,2,900000]) (lH:=[2]) 24 5 5 (kp3 Z Z Z) (Qa Z Qb) Z Z Z Z Z Z Z) (Qn (l:=[1,2,5,900000]) (lH:=[2,5]) (kp4 Z Z Z Z) (Qa Z (Qa Z Qb)) (by grind [Su]) (by rw[Su Wa h2]<;>rfl) Z)
 simp;intro h2;refine Ze () ?_ ?_;exact le_trans (Zi 5 5 3 40 Z Z) (Qn (l:=[1,2,5,900000]) (lH:=[2,5]) (kp4 Z Z Z Z) (Qa Z (Qa Z Qb)) (by grind [PJ]) (by rw[PJ Wa h2]<;>rfl) Z)
 simp;intro _ hJ;refine aK ?_;refine QE (ι:=Nat) (λi=>⟨[(1,Q0 c),(2,.ref 2 0 0),(5,.s4 5 (QX w c i).length),(25,Q0 c),(26,.int .i64 c.length),(27,.int .i64 i),(900000,gD)],[(2,⟨[[.sl ((w).map Yk)]],1,25,true⟩),(5,⟨(QX w c i).map Sv,3,40,true⟩)]⟩) (λi=>i<=c.length) (λi=>c.length - i) 0 ?_ ?_ ?_;exact Qn (l:=[1,2,5,25,26,27,900000]) (lH:=[2,5]) (kp7 Z Z Z Z Z Z Z) (Qa Z (Qa Z Qb)) Z Z Z;omega;intro i hI;have hlen:=Hl V c i;have hlen2:=LS V c i;refine aB ?_ ?_;intro h3;refine aB ?_ ?_;intro h4;refine Qd (i+1) ?_ ?_ ?_;exact Qn (l:=[1,2,5,25,26,27,900000]) (lH:=[2,5]) (kp7 Z Z Z Z Z Z Z) (Qa Z (Qa Z Qb)) (by grind [KI]) (by grind [KI]) Z;omega;omega;intro h4;have C:i<w.length:=Wa;have M:i<c.length:=Wa;have hb:=BL O M;have G:=Qdm hb.2 Wa;have e1:=Qam C M G;have hwn:=V.ns _ (QzS C) _ (QzS G);have hwl:=V.nl _ (QzS C) _ (QzS G);have T:=V.nw _ (QzS C) _ (QzS G);have U:=V.bw _ (QzS C) _ (QzS G);have hrn:=hr.nr _ (QzS C) _ (QzS G);have hrb:=hr.bw _ (QzS C) _ (QzS G);obtain⟨y,hy⟩:∃y,(w[i]'C).cs[(c[i]'M).toNat]=y:=⟨_,rfl⟩;rw[hy]at e1 hwn hwl T U hrn hrb;refine aK ?_;refine QE (ι:=Nat) (λk=>⟨[(1,Q0 c),(2,.ref 2 0 0),(5,.s4 5 (QX w c i++X9 w c i y.ns k).length),(6,.int .i64 i),(8,.ref 8 0 0),(25,Q0 c),(26,.int .i64 c.length),(27,.int .i64 i),(44,Ky y.ns),(45,.int .i64 y.ns.length),(46,.int .i64 k),(900000,gD)],[(2,⟨[[.sl ((w).map Yk)]],1,25,true⟩),(5,⟨((QX w c i++X9 w c i y.ns k)).map Sv,3,40,true⟩),(8,⟨[Lh y],8,70,true⟩)]⟩) (λk=>k<=y.ns.length) (λk=>y.ns.length - k) 0 ?_ ?_ ?_;exact Qn (l:=[1,2,5,6,8,25,26,27,44,45,46,900000]) (lH:=[2,5,8]) (Qrh Z Z Z Z Z Z Z Z Z Z Z Z) (Qa Z (Qa Z (Qa Z Qb))) (by grind [X9]) (by rw[X9,QAj,<- hy]<;>rfl) Z
 omega;intro k hQ;have Y:=KE w c i y.ns k;refine aB ?_ ?_;intro h5;refine Qf (My V O (hwl _ (QzS (Wa:k<y.ns.length))) (λx hx=>⟨hrn _ (QzS (Wa:k<y.ns.length)) x hx,T _ (QzS (Wa:k<y.ns.length)) x hx⟩)) Z Z (.inr Z) (aB ?_ ?_);intro h6;refine Qo Z Z (ZR Z Z (λ_ h=>YE Z Z Z h) Z Wc Z Z Z Wb Wb (aK ?_));refine Qd (k+1) ?_ ?_ ?_;exact Qn (l:=[1,2,5,6,8,25,26,27,44,45,46,900000]) (lH:=[2,5,8]) (Qrh Z Z Z Z Z Z Z Z Z Z Z Z) (Qa Z (Qa Z (Qa Z Qb))) (by rw[Pw Wa h6,<- QAD,QAs (bs:=[_])]<;>rfl) (by rw[Pw Wa h6,<- QAD,QAM (l₂:=[_])]<;>rfl) Z
 omega;omega;intro h6;refine Qd (k+1) ?_ ?_ ?_;exact Qn (l:=[1,2,5,6,8,25,26,27,44,45,46,900000]) (lH:=[2,5,8]) (Qrh Z Z Z Z Z Z Z Z Z Z Z Z) (Qa Z (Qa Z (Qa Z Qb))) (by grind [Pv]) (by grind [Pv]) Z;omega;omega;intro h5;refine QE (ι:=Nat) (λk=>⟨[(1,Q0 c),(2,.ref 2 0 0),(5,.s4 5 (QX w c i++(X9 w c i y.ns y.ns.length++SY w c i y.bs k)).length),(6,.int .i64 i),(25,Q0 c),(26,.int .i64 c.length),(27,.int .i64 i),(64,Xh y.bs),(65,.int .i64 y.bs.length),(66,.int .i64 k),(900000,gD)],[(2,⟨[[.sl ((w).map Yk)]],1,25,true⟩),(5,⟨((QX w c i++(X9 w c i y.ns y.ns.length++SY w c i y.bs k))).map Sv,3,40,true⟩)]⟩) (λk=>k<=y.bs.length) (λk=>y.bs.length - k) 0 ?_ ?_ ?_;exact Qn (l:=[1,2,5,6,25,26,27,64,65,66,900000]) (lH:=[2,5]) (QjS Z Z Z Z Z Z Z Z Z Z Z) (Qa Z (Qa Z Qb)) (by grind [SY]) (by grind [SY]) Z;omega;intro k hQ;have Y:=KE w c i y.ns y.ns.length;have hlen4:=M9 w c i y.bs k;refine aB ?_ ?_;intro h7;refine Qf (JS V O (hrb _ (QzS (Wa:k<y.bs.length))) (U _ (QzS (Wa:k<y.bs.length)))) Z Z (.inr Z) (aR ?_ ?_);intro h8;refine Qo Z Z (ZR Z Z (λ_ h=>YE Z Z Z h) Z Wc Z Z Z Wb Wb (aK ?_));refine Qd (k+1) ?_ ?_ ?_;exact Qn (l:=[1,2,5,6,25,26,27,64,65,66,900000]) (lH:=[2,5]) (QjS Z Z Z Z Z Z Z Z Z Z Z) (Qa Z (Qa Z Qb)) (by rw[T5 Wa h8,<- QAD,<- QAD,<- QAD,QAs (bs:=[_])]<;>rfl) (by rw[T5 Wa h8,<- QAD,<- QAD,<- QAD,QAM (l₂:=[_])]<;>rfl) Z
 omega;omega;intro h8;refine Qd (k+1) ?_ ?_ ?_;exact Qn (l:=[1,2,5,6,25,26,27,64,65,66,900000]) (lH:=[2,5]) (QjS Z Z Z Z Z Z Z Z Z Z Z) (Qa Z (Qa Z Qb)) (by grind [T6]) (by grind [T6]) Z;omega;omega;intro h7;refine Qd (i+1) ?_ ?_ ?_;exact Qn (l:=[1,2,5,25,26,27,900000]) (lH:=[2,5]) (kp7 Z Z Z Z Z Z Z) (Qa Z (Qa Z Qb)) (by grind [Gx,QiE]) (by grind [Gx,QiE]) Z;omega;omega;intro h3;exact GL Z Z Z Wc (by rw[Hk Wa,Ss,show c.length=i by omega];rfl)
theorem SA (hw:DO w) (C:c.length<=1048576):Ok Tryz.prog 18 [Q6 w,Q0 c,gD] (.bool (holdsR w c)):=by
 refine Ok.ka (ds:=[Q6 w,Q0 c]) (dg:=gD) tfol Tryz.func18 Qze (QzN Z) ?_;show TW _ _ tf18.body _ _;refine aS ?_;refine Qf (YP hw C) Z Z (.inr Z) (aR ?_ ?_);intro h1;refine Qf (J7 hw C) Z Z (.inl Z) (aK ?_);simp[holdsR, *];intro h1;simp[holdsR, *]
variable {R X:QzK} {rows:List (List D)} {x:Int}
theorem Ql3 {a b a' b':u4} {i j:Nat}:∀k,1000000<=k->(lk ((i,a)::(j,b)::R) k).isSome=true->(lk ((i,a')::(j,b')::R) k).isSome=true:=λk _ h=>by
 rw[Qe]at h ⊢;split;rfl;rename_i e;rw[if_neg e,Qe]at h;rw[Qe];grind
theorem qcl {n:Nat} {eq:Nat} (M:Big R) (G:DH R):∀k b,lk ((1000006,⟨[[.s4 500000 n]],1,eq,false⟩)::(500000,⟨rows,1,3,true⟩)::R) k=some b->500000<=k/\∀j∈b.ids,(lk ((1000006,(⟨[[.s4 500000 n]],1,eq,false⟩:u4))::(500000,⟨rows,1,3,true⟩)::R) j).isSome=true:=λk b h=>by
 rw[Qe]at h;split at h;rename_i e;cases h;subst e;refine⟨Wa,λj C=>?_⟩;simp[u4.ids,D.l4]at C;subst C;rfl;rw[Qe]at h;split at h
 grind [u4.ids]
 refine⟨Qz6 We (M k b h),λj C=>?_⟩;rw[Qe];split;rfl;rw[Qe];split;rfl;exact G k b h j C
theorem QsP {eq:Nat} (T:rows.length<=1000000) (O:Big R) (M:DH R) (G:(R.map λp=>(p.1,p.2.z2 500000))=R):
  n6 Tryz.prog 57 [.ref 1000006 0 0,.int .i64 x] ((1000006,⟨[[.s4 500000 rows.length]],1,eq,false⟩)::(500000,⟨rows,1,3,true⟩)::R) (.l7 []) ((1000006,⟨[[.s4 500000 (rows++[[D.int .i64 x]]).length]],1,eq,false⟩)::(500000,⟨rows++[[.int .i64 x]],1,3,true⟩)::R):=by
 refine n6.b7 tfol Tryz.func57 Qzp (QzN rfl) Ql3 (qcl O M) ?_;show TW _ _ tf57.body _ _;refine Mw λK C=>?_;refine Yr rfl (Yr rfl (ZV rfl rfl (Xu rfl rfl (FP rfl rfl rfl (Yr rfl (QF rfl rfl (ZR rfl rfl (λ_ h=>QqL Wc h) rfl rfl rfl rfl rfl Wb Wb (ZV rfl rfl (Xu rfl rfl (Jh rfl rfl rfl rfl rfl rfl rfl rfl ?_))))))))));refine C _ (QfU rfl λk b h=>?_);rw[QAr,QAr,G];rw[Qe]at h ⊢
 by_cases e1:1000006=k
 rw[if_pos e1]at h ⊢;rw[<- h,QAs];rfl
 (repeat clear C K);simp_all [Qe]
def qH (eq:Nat) (l:List Int) (R:QzK):QzK:=(1000006,⟨[[.s4 500000 l.length]],1,eq,false⟩)::(500000,⟨l.map rI,1,3,true⟩)::R
theorem Qll {eq:Nat} (M:Big R) (G:DH R):n6 Tryz.prog 58 [.ref 1000006 0 0] (qH eq [] R) (.l7 [.int .i64 0,.bool false]) (qH eq [] R):=by
 refine n6.b7 tfol Tryz.func58 Qwg (QzN rfl) Ql3 (qcl M G) ?_;show TW _ _ tf58.body _ _;refine MW λK C=>?_;refine Yr rfl (Yr rfl (C _ _ (Ji (Qc rfl Qs) ?_)));clear C K;refine MW λK C=>?_;refine Yr rfl (C _ _ (Ji (Qc rfl (Qc rfl Qs)) ?_));clear C K;refine Kr (MW λK C=>?_);refine Yr rfl (ZV rfl rfl (Xu rfl rfl (FP rfl rfl rfl (Sy rfl rfl (QcI rfl rfl (C _ _ (Ji (Qc rfl (Qc rfl (Qc rfl Qs))) ?_)))))));clear C K;refine DN rfl (λ_=>?_) (λh=>absurd h Wc);refine MW λK C=>?_;refine Yr rfl (Yr rfl (Yr rfl (C _ _ (Ji (Qc rfl (Qc rfl Qs)) ?_))));clear C K;refine By (L9 ?_);exact Y9 rfl rfl ⟨rfl,rfl⟩ ⟨rfl,rfl⟩ λk b h=>h
theorem Qlm {eq:Nat} {q:List Int} (M:Big R) (G:DH R) (O:(R.all λp=>p.1==1000006||p.2.pr||!p.2.ids.contains 500000)=true):
  n6 Tryz.prog 58 [.ref 1000006 0 0] (qH eq (x::q) R) (.l7 [.int .i64 x,.bool true]) (qH eq q R):=by
 refine n6.b7 tfol Tryz.func58 Qwg (QzN rfl) Ql3 (qcl M G) ?_;show TW _ _ tf58.body _ _;refine MW λK C=>?_;refine Yr rfl (Yr rfl (C _ _ (Ji (Qc rfl Qs) ?_)));clear C K;refine MW λK C=>?_;refine Yr rfl (C _ _ (Ji (Qc rfl (Qc rfl Qs)) ?_));clear C K;refine Kr (MW λK C=>?_);refine Yr rfl (ZV rfl rfl (Xu rfl rfl (FP rfl rfl rfl (Sy rfl rfl (QcI rfl rfl (C _ _ (Ji (Qc rfl (Qc rfl (Qc rfl Qs))) ?_)))))));clear C K;refine DN rfl (λh=>absurd (of_decide_eq_true h) Wb) (λ_=>?_);refine SU (JD (Qc rfl Qs) (MW λK C=>?_));refine Yr rfl (Yr rfl (ZV rfl rfl (Xu rfl rfl (NY rfl rfl rfl rfl rfl (DI rfl rfl rfl Wc Wa Wc rfl rfl rfl (NY rfl rfl rfl rfl rfl (Yr rfl (ZV rfl rfl (Xu rfl rfl (NY rfl rfl rfl rfl rfl ?_))))))))));refine Qhv (l:=1) rfl rfl rfl Wa Wb (Yr rfl (ZV rfl rfl (Xu rfl rfl (KN rfl rfl rfl rfl rfl rfl rfl rfl rfl rfl (C _ _ (Ji (Qc rfl Qs) ?_))))));clear C K;refine Dx (Qma 1000006 0 500000 rfl rfl rfl rfl Wb rfl rfl We We We rfl ?_ (λi d hi hd=>by cases i with |zero=>omega |succ i=>trivial)) ?_;trivial;refine MW λK C=>?_;refine Yr rfl (Yr rfl (Yr rfl (C _ _ (Ji (Qc rfl (Qc rfl Qs)) ?_))));clear C K;refine By (Y9 rfl rfl ⟨rfl,rfl⟩ ⟨rfl,rfl⟩ λk b h=>?_);simp only[qH]at h;rw[Qe]at h ⊢
 by_cases e1:1000006=k
 rw[if_pos e1]at h ⊢;trivial
 (repeat clear C K);simp_all [Qe,qH]
theorem prR (h:(R.all λp=>p.2.pr&&Nat.ble 1000000 p.1)=true):Big R/\DH R/\(R.all λp=>p.1==1000006||p.2.pr||!p.2.ids.contains 500000)=true/\(R.map λp=>(p.1,p.2.z2 500000))=R:=by
 simp only[QzX,QzR]at h;refine⟨λk b hk=>QzN (h (k,b) (QV hk)).2,λk b hk j G=>?_, ?_, ?_⟩;have:=(h (k,b) (QV hk)).1
 (repeat clear hK K);simp_all [u4.ids]
 grind
 have:∀l:QzK,(∀p∈l,p.2.pr=true)->(l.map λp=>(p.1,p.2.z2 500000))=l:=by
  intro l
  induction l with
  |nil=>simp
  |cons p l ih=>
   intro C
   (repeat clear hK K);simp_all [u4.z2]
 grind
theorem QjB {eq:Nat} (l:List Int) (C:(R.all λp=>p.2.pr&&Nat.ble 1000000 p.1)=true):n6 Tryz.prog 58 [.ref 1000006 0 0] (qH eq l R) (.l7 [.int .i64 (l.headD 0),.bool (!l.isEmpty)]) (qH eq l.tail R):=by
 obtain⟨h1,h2,M,G⟩:=prR C;cases l with
 |nil=>grind [Qll]
 |cons x q=>grind [Qlm]
theorem QjA {eq:Nat} (l:List Int) (G:l.length<=1000000) (C:(R.all λp=>p.2.pr&&Nat.ble 1000000 p.1)=true):n6 Tryz.prog 57 [.ref 1000006 0 0,.int .i64 x] (qH eq l R) (.l7 []) (qH eq (l++[x]) R):=by
 obtain⟨h1,h2,O,M⟩:=prR C
 grind [QsP,rI,List.length_map,qH]
theorem Gq (ρ:Nat->Nat) (o:List Bool):u4.o5 ρ ⟨o.map rB,1,4,true⟩=⟨o.map rB,1,4,true⟩:=by
 simp only[u4.o5,QA7];rfl
theorem QmP (ρ:Nat->Nat) (l:List Int):u4.o5 ρ ⟨l.map rI,1,3,true⟩=⟨l.map rI,1,3,true⟩:=by
 simp only[u4.o5,QA7];rfl
theorem MN {eq:Nat} (l:List Int) (C:∀p∈X,p.1≠60/\p.2.o5 (JA 60)=p.2):Sw 60 ((6,⟨[[.s4 60 l.length]],1,eq,false⟩)::(60,⟨l.map rI,1,3,true⟩)::X)=qH eq l (X.map λp=>(p.1+1000000,p.2)):=by
 have hx:Sw 60 X=X.map λp=>(p.1+1000000,p.2):=QAP λp hp=>by
  obtain⟨h1,h2⟩:=C p hp
  (repeat clear hK K);simp_all [JA,upN]
 have e1:JA 60 6=1000006:=by rfl
 have e2:JA 60 60=500000:=by rfl
 have e3:u4.o5 (JA 60) ⟨[[.s4 60 l.length]],1,eq,false⟩=⟨[[.s4 500000 l.length]],1,eq,false⟩:=by
  rfl
 have G:Sw 60 ((6,⟨[[.s4 60 l.length]],1,eq,false⟩)::(60,⟨l.map rI,1,3,true⟩)::X)=(JA 60 6,u4.o5 (JA 60) ⟨[[.s4 60 l.length]],1,eq,false⟩)::(JA 60 60,u4.o5 (JA 60) ⟨l.map rI,1,3,true⟩)::Sw 60 X:=rfl;rw[G,e1,e2,e3,QmP,hx];rfl
theorem prX (h:(X.all λp=>p.2.pr)=true):((X.map λp=>(p.1+1000000,p.2)).all λp=>p.2.pr&&Nat.ble 1000000 p.1)=true:=by
 simp only[List.all_map,QzX,Function.comp,QzR]at h ⊢
 grind [Nat.ble_eq_true_of_le]
theorem Qv4 {a b:Nat × u4} {r C:List (List D)} (h:r=C):a::b::(19,⟨r,1,4,true⟩)::X=a::b::(19,⟨C,1,4,true⟩)::X:=by rw[h]
theorem P3 {w:Qg} (hw:DO w) {c:List Int} (hc:c.length<=1048576):Ok Tryz.prog 28 [Q6 w,Q0 c,gD] (QaX (neededR w c)):=by
 refine Ok.ka (ds:=[Q6 w,Q0 c]) (dg:=gD) tfol Tryz.func28 Qzh (QzN Z) ?_;show TW _ _ tf28.body _ _;refine aS ?_;refine Qf (YP hw hc) Z Z (.inr Z) (aB ?_ ?_);intro h1;refine QO Z ?_;rw[neededR,if_neg Wb];rfl;intro h1;obtain⟨hmw,hfw⟩:=RQ (w:=w) (c:=c) Wa;have hv:=hmw.val hw;have hs:=hv.yg;have hr:=hv.fh;have T:=hfw.ch;have hcl:=T.len;have hvl:=hv.len;refine aK ?_;refine QdG Z Z Z Wa Wa Wa (aJ ?_);refine aZ ?_;refine FQ (ι:=List Bool × List Int) (λs=>⟨[(1,Q0 c),(2,.ref 2 0 0),(5,.s4 19 (s.1).length),(6,.ref 6 0 0),(900000,gD)],[(2,⟨[[.sl (w.map Yk)]],1,25,true⟩),(6,⟨[[.s4 60 (s.2).length]],1,92,false⟩),(19,⟨(s.1).map rB,1,4,true⟩),(60,⟨(s.2).map rI,1,3,true⟩)]⟩) (λs=>cb w c s.1 s.2 (λ_=>False)) ?_ ?_
 skip
 refine Dx (Gf 6 0 60 1 3 Z Z Z Z) ?_;refine aB ?_ ?_;intro h2;refine Yg Z Z Z Wc Wa Wa Z (Jh Z Z (Qqo Wa Wa) Z Z Z Z Z (aL ?_));refine Dx (s':=⟨_,[(6,⟨[[.s4 60 (([]:List Int)).length]],1,92,false⟩),(60,⟨(([]:List Int)).map rI,1,3,true⟩),(19,⟨((List.replicate c.length false).set 0 true).map rB,1,4,true⟩),(2,⟨[[.sl (w.map Yk)]],1,25,true⟩)]⟩) (Qn (l:=[1,2,5,6,900000]) (lH:=[6,60,19,2]) (kp5 rfl rfl rfl rfl rfl) (Qa rfl (Qa rfl (Qa rfl (Qa rfl Qb)))) rfl (by rw[Qke];exact Qv4 Qkk) rfl) (DK (l:=[]) rfl (Py (k:=60) (Hr:=[(6,⟨[[.s4 60 ([0]).length]],1,92,false⟩),(60,⟨([0]).map rI,1,3,true⟩),(19,⟨((List.replicate c.length false).set 0 true).map rB,1,4,true⟩),(2,⟨[[.sl (w.map Yk)]],1,25,true⟩)]) rfl rfl We rfl rfl rfl rfl (MN ([]) (by intro p hp;simp only[QzP,QzO,or_false]at hp;rcases hp with rfl |rfl<;>exact⟨by simp,by first |rfl |exact Gq _ _⟩)) (MN ([0]) (by intro p hp;simp only[QzP,QzO,or_false]at hp;rcases hp with rfl |rfl<;>exact⟨by simp,by first |rfl |exact Gq _ _⟩)) (QjA [] Wc (prX rfl)) ?_))
 refine Ze ((List.replicate c.length false).set 0 true,[0]) ?_ ?_;exact Qn (l:=[1,2,5,6,900000]) (lH:=[2,6,19,60]) (kp5 Z Z Z Z Z) (Qa Z (Qa Z (Qa Z (Qa Z Qb)))) Wc Z Z
 grind [cb.first,QcR]
 intro h2;refine Ze ((List.replicate c.length false),[]) ?_ ?_;exact Qn (l:=[1,2,5,6,900000]) (lH:=[2,6,19,60]) (kp5 Z Z Z Z Z) (Qa Z (Qa Z (Qa Z (Qa Z Qb)))) Wc (by rw[Qke]<;>rfl) Z
 grind [cb.none,cA]
 intro s hJ;refine Kr (Dx (s':=⟨_,[(6,⟨[[.s4 60 (s.2).length]],1,92,false⟩),(60,⟨(s.2).map rI,1,3,true⟩),(19,⟨(s.1).map rB,1,4,true⟩),(2,⟨[[.sl (w.map Yk)]],1,25,true⟩)]⟩) (Qn (l:=[1,2,5,6,900000]) (lH:=[6,60,19,2]) (kp5 Z Z Z Z Z) (Qa Z (Qa Z (Qa Z (Qa Z Qb)))) Z (Z) Z) (QkO (l:=[]) (λK hK=>?_)));refine Py (k:=60) (Hr:=[(6,⟨[[.s4 60 (s.2.tail).length]],1,92,false⟩),(60,⟨(s.2.tail).map rI,1,3,true⟩),(19,⟨(s.1).map rB,1,4,true⟩),(2,⟨[[.sl (w.map Yk)]],1,25,true⟩)]) rfl rfl We rfl rfl rfl rfl (MN (s.2) (by intro p hp;simp only[QzP,QzO,or_false]at hp;rcases hp with rfl |rfl<;>exact⟨by simp,by first |rfl |exact Gq _ _⟩)) (MN (s.2.tail) (by intro p hp;simp only[QzP,QzO,or_false]at hp;rcases hp with rfl |rfl<;>exact⟨by simp,by first |rfl |exact Gq _ _⟩)) (QjB s.2 (prX rfl)) (aK ?_)
 refine kc7 hK Z Z Z Z Z Z Z ?_;have hT:=hJ.take;refine aK ?_;refine QE (ι:=QS) (λt=>⟨[(1,Q0 c),(2,.ref 2 0 0),(5,.s4 19 (t.1).length),(6,.ref 6 0 0),(7,.int .i64 t.2.2.1),(8,.bool t.2.2.2),(900000,gD)],[(2,⟨[[.sl (w.map Yk)]],1,25,true⟩),(6,⟨[[.s4 60 (t.2.1).length]],1,92,false⟩),(19,⟨(t.1).map rB,1,4,true⟩),(60,⟨(t.2.1).map rI,1,3,true⟩)]⟩) (λt=>QI w c t) (λt=>muQ t) (tkQ s.1 s.2) ?_ ?_ ?_;exact Qn (l:=[1,2,5,6,7,8,900000]) (lH:=[2,6,19,60]) (kp7 Z Z Z Z Z Z Z) (Qa Z (Qa Z (Qa Z (Qa Z Qb)))) Z Z Z;omega;clear hJ hT;clear s;intro s hI;refine aR ?_ ?_;intro h3;obtain⟨_,⟨hu0,hu1⟩,hun⟩:=hI.on h3;have hN:=(hI.on h3).1.nd.snd _ hun;obtain⟨G,hc0⟩:=Qmw hs hr T (Wa:0<c.length) hN;have C:s.2.2.1.toNat<w.length:=Wa;have hb:=BL T G;have M:=Qdm hb.2 hc0;have er:=C6 C G M;have hwn:=hs.ns _ (QzS C) _ (QzS M);have Y:=hs.nl _ (QzS C) _ (QzS M);have U:=hs.nw _ (QzS C) _ (QzS M);have V:=hr.nr _ (QzS C) _ (QzS M);obtain⟨y,hy⟩:∃y,(w[s.2.2.1.toNat]'C).cs[(c[s.2.2.1.toNat]'G).toNat]=y:=⟨_,rfl⟩;rw[hy]at er hwn Y U V;have hst:=ae.start hI h3 y.ns;refine aK ?_;refine QE (ι:=Nat × List Bool × List Int) (λa=>⟨[(1,Q0 c),(2,.ref 2 0 0),(5,.s4 19 (a.2.1).length),(6,.ref 6 0 0),(48,Ky y.ns),(49,.int .i64 y.ns.length),(50,.int .i64 a.1),(900000,gD)],[(2,⟨[[.sl (w.map Yk)]],1,25,true⟩),(6,⟨[[.s4 60 (a.2.2).length]],1,92,false⟩),(19,⟨(a.2.1).map rB,1,4,true⟩),(60,⟨(a.2.2).map rI,1,3,true⟩)]⟩) (λa=>a.1<=y.ns.length/\ae w c s.2.2.1.toNat (2*Dz s.1+s.2.1.length) y.ns a.1 a.2.1 a.2.2) (λa=>y.ns.length - a.1) (0,s.1,s.2.1) ?_ ?_ ?_;exact Qn (l:=[1,2,5,6,48,49,50,900000]) (lH:=[2,6,19,60]) (kp8 Z Z Z Z Z Z Z Z) (Qa Z (Qa Z (Qa Z (Qa Z Qb)))) Wb Z Z
 grind
 intro a hA;have hol:=hA.2.len;refine aV ?_ ?_;intro h4;refine aK ?_;refine QE (ι:=Nat × List Bool × List Int) (λb=>⟨[(1,Q0 c),(2,.ref 2 0 0),(5,.s4 19 (b.2.1).length),(6,.ref 6 0 0),(48,Ky y.ns),(49,.int .i64 y.ns.length),(50,.int .i64 a.1),(54,Xh (y.ns[a.1]'Wa)),(55,.int .i64 (y.ns[a.1]'Wa).length),(56,.int .i64 b.1),(900000,gD)],[(2,⟨[[.sl (w.map Yk)]],1,25,true⟩),(6,⟨[[.s4 60 (b.2.2).length]],1,92,false⟩),(19,⟨(b.2.1).map rB,1,4,true⟩),(60,⟨(b.2.2).map rI,1,3,true⟩)]⟩) (λb=>b.1<=(y.ns[a.1]'Wa).length/\ae w c s.2.2.1.toNat (2*Dz s.1+s.2.1.length) y.ns a.1 b.2.1 b.2.2/\fb w c b.2.1 (y.ns[a.1]'Wa) b.1) (λb=>(y.ns[a.1]'Wa).length - b.1) (0,a.2.1,a.2.2) ?_ ?_ ?_;exact Qn (l:=[1,2,5,6,48,49,50,54,55,56,900000]) (lH:=[2,6,19,60]) (QjS Z Z Z Z Z Z Z Z Z Z Z) (Qa Z (Qa Z (Qa Z (Qa Z Qb)))) Z Z Z;exact⟨QzZ _,hA.2,λ_ _ h=>absurd h (Nat.not_lt_zero _)⟩;intro b O;have hol2:=O.2.1.len;refine aB ?_ ?_;intro h5;have hrl:=Y _ (QzS (Wa:a.1<y.ns.length));have hxu:=V _ (QzS (Wa:a.1<y.ns.length)) _ (QzS (Wa:b.1<(y.ns[a.1]'Wa).length));refine aK ?_;refine Yg Z Z Z Wc Wa Wa Z (FP Z (T3 Z (JY Wa Wa)) Z (aB ?_ ?_));intro h6;refine Qf (JS hs T (V _ (QzS (Wa:a.1<y.ns.length)) _ (QzS (Wa:b.1<(y.ns[a.1]'Wa).length))) (U _ (QzS (Wa:a.1<y.ns.length)) _ (QzS (Wa:b.1<(y.ns[a.1]'Wa).length)))) Z Z (.inr Z) (aR ?_ ?_);intro h7;refine Yg Z Z Z Wc Wa Wa Z (Jh Z Z (JY Wa Wa) Z Z Z Z Z (aL ?_));refine Dx (s':=⟨_,[(6,⟨[[.s4 60 (b.2.2).length]],1,92,false⟩),(60,⟨(b.2.2).map rI,1,3,true⟩),(19,⟨((b.2.1.set ((y.ns[a.1]'Wa)[b.1]'Wa).u.toNat true)).map rB,1,4,true⟩),(2,⟨[[.sl (w.map Yk)]],1,25,true⟩),(12,⟨[F8 ((y.ns[a.1]'Wa)[b.1]'Wa)],3,82,true⟩)]⟩) (Qn (l:=[1,2,5,6,12,48,49,50,54,55,56,900000]) (lH:=[6,60,19,2,12]) (Qrh Z Z Z Z Z Z Z Z Z Z Z Z) (Qa Z (Qa Z (Qa Z (Qa Z (Qa Z Qb))))) Z (Qv4 Qkk) Z) (DK (l:=[_,_]) Z ?_);refine aK ?_;refine Py (k:=60) (Hr:=[(6,⟨[[.s4 60 ((b.2.2++[((y.ns[a.1]'Wa)[b.1]'Wa).u])).length]],1,92,false⟩),(60,⟨((b.2.2++[((y.ns[a.1]'Wa)[b.1]'Wa).u])).map rI,1,3,true⟩),(19,⟨((b.2.1.set ((y.ns[a.1]'Wa)[b.1]'Wa).u.toNat true)).map rB,1,4,true⟩),(2,⟨[[.sl (w.map Yk)]],1,25,true⟩),(12,⟨[F8 ((y.ns[a.1]'Wa)[b.1]'Wa)],3,82,true⟩)]) rfl rfl We rfl rfl rfl rfl (MN (b.2.2) (by intro p hp;simp only[QzP,QzO,or_false]at hp;rcases hp with rfl |rfl |rfl<;>exact⟨by simp,by first |rfl |exact Gq _ _⟩)) (MN ((b.2.2++[((y.ns[a.1]'Wa)[b.1]'Wa).u])) (by intro p hp;simp only[QzP,QzO,or_false]at hp;rcases hp with rfl |rfl |rfl<;>exact⟨by simp,by first |rfl |exact Gq _ _⟩)) (QjA b.2.2 (by have:=O.2.1.inv.bd;omega) (prX rfl)) (aK ?_)
 refine Qd (b.1+1,b.2.1.set ((y.ns[a.1]'Wa)[b.1]'Wa).u.toNat true,b.2.2++[((y.ns[a.1]'Wa)[b.1]'Wa).u]) ?_ ?_ ?_;exact Qn (l:=[1,2,5,6,48,49,50,54,55,56,900000]) (lH:=[2,6,19,60]) (QjS Z Z Z Z Z Z Z Z Z Z Z) (Qa Z (Qa Z (Qa Z (Qa Z Qb)))) Wc Z Z
 ·exact⟨Wa,O.2.1.put Wa (QzS (Wa:b.1<(y.ns[a.1]'Wa).length)) er h7 hxu.1 Wa (by grind [CN]),(O.2.2.set Wa).next Wa λ_=>by grind [Y8]⟩
 omega;intro h7;refine Qd (b.1+1,b.2.1,b.2.2) ?_ ?_ ?_;exact Qn (l:=[1,2,5,6,48,49,50,54,55,56,900000]) (lH:=[2,6,19,60]) (QjS Z Z Z Z Z Z Z Z Z Z Z) (Qa Z (Qa Z (Qa Z (Qa Z Qb)))) Z Z Z
 ·exact⟨Wa,O.2.1,O.2.2.next Wa λh=>absurd h Wb⟩
 omega;intro h6;refine QP Z (aK ?_);refine Qd (b.1+1,b.2.1,b.2.2) ?_ ?_ ?_;exact Qn (l:=[1,2,5,6,48,49,50,54,55,56,900000]) (lH:=[2,6,19,60]) (QjS Z Z Z Z Z Z Z Z Z Z Z) (Qa Z (Qa Z (Qa Z (Qa Z Qb)))) Z Z Z
 ·exact⟨Wa,O.2.1,O.2.2.next Wa λ_=>by grind [CN]⟩
 omega;intro h5;refine Qd (a.1+1,b.2.1,b.2.2) ?_ ?_ ?_;exact Qn (l:=[1,2,5,6,48,49,50,900000]) (lH:=[2,6,19,60]) (kp8 Z Z Z Z Z Z Z Z) (Qa Z (Qa Z (Qa Z (Qa Z Qb)))) Z Z Z
 ·exact⟨Wa,O.2.1.next Wa O.2.2 Wa⟩
 omega;intro h4;refine Mx (Gt (KF (HN (HO (ks5 rfl rfl rfl rfl rfl (Dx (s':=⟨_,[(6,⟨[[.s4 60 (a.2.2).length]],1,92,false⟩),(60,⟨(a.2.2).map rI,1,3,true⟩),(19,⟨(a.2.1).map rB,1,4,true⟩),(2,⟨[[.sl (w.map Yk)]],1,25,true⟩)]⟩) (Qn (l:=[1,2,5,6,900000]) (lH:=[6,60,19,2]) (kp5 rfl rfl rfl rfl rfl) (Qa rfl (Qa rfl (Qa rfl (Qa rfl Qb)))) rfl (rfl) rfl) (QcJ (l:=[]) rfl (Py (k:=60) (Hr:=[(6,⟨[[.s4 60 (a.2.2.tail).length]],1,92,false⟩),(60,⟨(a.2.2.tail).map rI,1,3,true⟩),(19,⟨(a.2.1).map rB,1,4,true⟩),(2,⟨[[.sl (w.map Yk)]],1,25,true⟩)]) rfl rfl We rfl rfl rfl rfl (MN (a.2.2) (by intro p hp;simp only[QzP,QzO,or_false]at hp;rcases hp with rfl |rfl<;>exact⟨by simp,by first |rfl |exact Gq _ _⟩)) (MN (a.2.2.tail) (by intro p hp;simp only[QzP,QzO,or_false]at hp;rcases hp with rfl |rfl<;>exact⟨by simp,by first |rfl |exact Gq _ _⟩)) (QjB a.2.2 (prX rfl)) ?_))))))))
 refine aK ?_;have hT:=(hA.2.stop Wa er).take;refine Qd (tkQ a.2.1 a.2.2) ?_ ?_ ?_;exact Qn (l:=[1,2,5,6,7,8,900000]) (lH:=[2,6,19,60]) (kp7 Z Z Z Z Z Z Z) (Qa Z (Qa Z (Qa Z (Qa Z Qb)))) Z Z Z;omega;show muQ _<muQ s;have:=Qmu hA.2.mu;have e:muQ s=(2*Dz s.1+s.2.1.length)+1:=(by rw[muQ,if_pos h3]);omega;intro h3;exact GL Z Z Z Wc (by rw[neededR,if_pos Wa,<- hI.stop Wa];rfl)
variable {i:Nat}
theorem Qza (hi:i<c.length) (h:nddB w c i=false):((tidyUp w c i).map rI).set i [.int .i64 (-1)]=(tidyUp w c (i+1)).map rI:=by
 rw[<- TD hi,List.map_set,tdAt,if_neg Wb];rfl
theorem Qzb (hi:i<c.length) (h:nddB w c i=true):(((tidyUp w c i).map rI).set i [.int .i64 (-1)]).set i [.int .i64 c[i]]=(tidyUp w c (i+1)).map rI:=by
 rw[<- TD hi,List.map_set,tdAt,if_pos h,List.set_set,QcR hi];rfl
theorem Qy9:List.replicate ((c.length:Nat):Int).toNat [D.int .i64 0]=(tidyUp w c 0).map rI:=by
 rw[tidyUp,List.take_zero,QA2,List.map_replicate];rfl
theorem QfP {r C:List (List D)} {X:QzK} (h:r=C):(14,(⟨r,1,3,true⟩:u4))::X=(14,⟨C,1,3,true⟩)::X:=by rw[h]
theorem QmZ {α:Type} {l:List α} {k:Nat} {x:α} (h:k<l.length):(l.set k x)[k]?=some x:=List.getElem?_set_self h
theorem QsK (hw:DO w) (C:c.length<=1048576) (h:mayC w c=true):Ok Tryz.prog 28 [Q6 w,Q0 c,gD] (QaX (nddL w c)):=by
 grind [P3,Qfw]
theorem T9 {w:Qg} (hw:DO w) {c:List Int} (T:c.length<=1048576):Ok Tryz.prog 21 [Q6 w,Q0 c,gD] (Q0 (tidyR w c)):=by
 refine Ok.ka (ds:=[Q6 w,Q0 c]) (dg:=gD) tfol Tryz.func21 Qzf (QzN Z) ?_;show TW _ _ tf21.body _ _;refine aS ?_;refine Qf (YP hw T) Z Z (.inr Z) (aB ?_ ?_);intro h1;refine QO Z ?_;rw[QnT Wa];rfl;intro h1;obtain⟨G,M⟩:=RQ (w:=w) (c:=c) Wa;have C:=G.val hw;have hs:=C.yg;have hr:=C.fh;have O:=M.ch;have Y:=O.len;have U:=C.len;refine aK ?_;refine QdG Z Z Z Wa Wa Wa (aK ?_);refine Qf (QsK hw T Wa) Z Z (.inl Z) (aK ?_);refine QE (ι:=Nat) (λi=>⟨[(1,Q0 c),(5,.s4 14 (tidyUp w c i).length),(17,QaX (nddL w c)),(18,.int .i64 c.length),(19,.int .i64 i)],[(14,⟨(tidyUp w c i).map rI,1,3,true⟩)]⟩) (λi=>i<=c.length) (λi=>c.length - i) 0 ?_ ?_ ?_;exact Qn (l:=[1,5,17,18,19]) (lH:=[14]) (kp5 Z Z Z Z Z) (Qa Z Qb) (by simp[GS (QzZ _),QbR]) (QfP Qy9) Z;omega;intro i hI;have hlen:=GS (w:=w) hI;have V:=QbR w c;refine aB ?_ ?_;intro h2;refine Yg Z Z Z Wc Wa Wa Z (Jh Z Z (JY Wa Wa) Z Z Z Z Z (aR ?_ ?_));intro h3;refine Yg Z Z Z Wc Wa Wa Z (Jh Z Z (QmZ Wb) Z Z Z Z Z (aK ?_));refine Qd (i+1) ?_ ?_ ?_;exact Qn (l:=[1,5,17,18,19]) (lH:=[14]) (kp5 Z Z Z Z Z) (Qa Z Qb) (by grind [GS]) (QfP (Qzb Wa (by grind [Qai]))) Z;omega;omega;intro h3;refine Qd (i+1) ?_ ?_ ?_;exact Qn (l:=[1,5,17,18,19]) (lH:=[14]) (kp5 Z Z Z Z Z) (Qa Z Qb) (by grind [GS]) (QfP (Qza Wa (by grind [Qai]))) Z;omega;omega;intro h2;exact GL Z Z Z Wc (by rw[QgD Wa,<- Qdl (i:=i) Wa];rfl)
theorem QsO:Ok Tryz.prog 25 [Q6 wAwk,Q0 [0, -1, -1],gD] (Qlz [⟨2,0,0⟩]):=by
 grind [J7,T4,QdT]
theorem QsN:Ok Tryz.prog 21 [Q6 wAwk,Q0 [0,0,0],gD] (Q0 [0,0, -1]):=by
 grind [T9,T4,QhC]
theorem QsL:Ok Tryz.prog 18 [Q6 wAwk,Q0 [0,0, -1],gD] (.bool true):=by
 grind [SA,T4,QdS]
theorem QsM:Ok Tryz.prog 17 [Q6 wAwk,Q0 [0,1, -1],gD] (.bool false):=by
 grind [YP,T4,QoR]
theorem XB:Ok Tryz.prog 23 [gD] (.bool true):=by
 refine Ok.ka (ds:=[]) (dg:=gD) tfol Tryz.func23 Qzg (QzN Z) ?_;show TW _ _ tf23.body _ _;refine aS ?_;refine Qf (FZ) Z Z (.inl Z) (aK ?_);refine QF Z Z (QF Z Z (aK ?_));refine QF Z Z (aK ?_);refine QF Z Z (aK ?_);refine QF Z Z (aK ?_);refine QF Z Z (aK ?_);refine QF Z Z (Qf (Ok.kf QsO Wl) Z Z (.inl Z) (aK ?_));refine QF Z Z (Qf (Ok.kf QsN Wl) Z Z (.inl Z) (aK ?_));refine QF Z Z (Qf (Ok.kf QsL Wl) Z Z (.inr Z) (aK ?_));refine KM Z Z Z We Z Z (aK ?_);refine JO Z Z Z (aK ?_);refine KM Z Z Z We Z Z (aK ?_);refine KM Z Z Z We Z Z (aK ?_);refine QF Z Z (aK ?_);refine Qf (Ok.kf QsM Wl) Z Z (.inr Z) (aK ?_);rfl
end Go.Proofs
