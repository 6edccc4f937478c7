/- Part 6 of the means of the proof: a verified abstract evaluator and contracts of functions. It states nothing of the claim by itself. -/
import Derived.Test.YtggcpapoljmiaaaGreatDoorB5
set_option maxRecDepth 4000
set_option maxHeartbeats 4000000
set_option linter.unusedSimpArgs false
set_option linter.unusedVariables false
set_option linter.unusedSectionVars false
namespace Go.Proofs
open Go Go.Abs M3
variable {a a' b b' c c' e e':Int} {f f':Bool} {p p' q q':List UInt8}
theorem Zf (hp:p.length<=1048576) (U:q.length<=1048576) (G:p'.length<=1048576) (C:q'.length<=1048576):Ok Tryz.prog 147 [.agg [.int .i64 a,.int .i64 b,.int .i64 c,.str p,.str q],.agg [.int .i64 a',.int .i64 b',.int .i64 c',.str p',.str q']] (.int .i64 (ME a b c p q a' b' c' p' q')):=by
 refine Ok.n6 tfol Tryz.func147 QuH (QAk Z) ?_;show TW _ _ tf147.body _ _;refine aS ?_;refine Qg (Qv Wa Wa) Z Z (.inr Z) (aB ?_ ?_);intro h1;refine Qs Z (aK ?_)
 grind [ME]
 intro h1;refine Qg (Qv Wa Wa) Z Z (.inr Z) (aB ?_ ?_);intro h2
 grind [ME]
 intro h2;refine Qg (QV) Z Z (.inr Z) (aB ?_ ?_);intro T
 grind [ME]
 intro T;refine Qg (QV) Z Z (.inr Z) (aB ?_ ?_);intro O
 grind [ME]
 intro O;refine Qg (QV) Z Z (.inr Z) (aB ?_ ?_);intro M
 grind [ME]
 intro M;refine Qg (FT Wa Wa) Z Z (.inr Z) (aK ?_)
 grind [ME]
theorem ZD (hp:p.length<=1048576) (T:q.length<=1048576):Ok Tryz.prog 229 [.agg [.int .i64 e,.int .i64 a,.int .i64 b,.int .i64 c,.str p,.str q,.bool f]] (.bool (XX e a b c p q f)):=by
 refine Ok.n6 tfol Tryz.func229 Qvp (QAk Z) ?_;show TW _ _ tf229.body _ _;refine aX ?_ ?_;intro h1;refine Qg (Qv Wa Wa) Z Z (.inr Z) (aR ?_ ?_);intro h2
 grind [XX]
 intro h2
 grind [XX]
 intro h1;refine aB ?_ ?_;intro O;refine JY Z Z Z (aB ?_ ?_);intro M
 grind [XX]
 intro M
 grind [XX]
 intro O;refine aB ?_ ?_;intro G;refine JY Z Z Z (aB ?_ ?_);intro C
 grind [XX]
 intro C
 grind [XX]
 intro G
 grind [XX]
theorem QR (hp:p.length<=1048576) (Y:q.length<=1048576) (G:p'.length<=1048576) (C:q'.length<=1048576):Ok Tryz.prog 195 [.agg [.int .i64 e,.int .i64 a,.int .i64 b,.int .i64 c,.str p,.str q,.bool f],.agg [.int .i64 e',.int .i64 a',.int .i64 b',.int .i64 c',.str p',.str q',.bool f']] (.int .i64 (Kq e a b c p q f e' a' b' c' p' q' f')):=by
 refine Ok.n6 tfol Tryz.func195 Qu8 (QAk Z) ?_;show TW _ _ tf195.body _ _;refine aS ?_;refine Qg (ZD Wa Wa) Z Z (.inr Z) (aB ?_ ?_);intro h1;refine Qs Z (aK ?_)
 grind [Kq]
 intro h1;refine Qg (ZD Wa Wa) Z Z (.inr Z) (aB ?_ ?_);intro h2
 grind [Kq]
 intro h2;refine aB ?_ ?_;intro V;refine Qs Z (aK ?_);refine Qg (QV) Z Z (.inr Z) (aK ?_)
 grind [Kq]
 intro V;refine aB ?_ ?_;intro U;refine Qg (QV) Z Z (.inr Z) (aK ?_)
 grind [Kq]
 intro U;refine Qg (Zf Wa Wa Wa Wa) Z Z (.inr Z) (aB ?_ ?_);intro T
 grind [Kq]
 intro T;refine aB ?_ ?_;intro O
 grind [Kq]
 intro O;refine aR ?_ ?_;intro M
 grind [Kq]
 intro M
 grind [Kq]
theorem X4 (hp:p.length<=1048576) (U:q.length<=1048576) (G:p'.length<=1048576) (C:q'.length<=1048576):Ok Tryz.prog 201 [.agg [.int .i64 e,.int .i64 a,.int .i64 b,.int .i64 c,.str p,.str q,.bool f],.agg [.int .i64 a',.int .i64 b',.int .i64 c',.str p',.str q']] (.bool (Ja e a b c p q f a' b' c' p' q')):=by
 refine Ok.n6 tfol Tryz.func201 Qve (QAk Z) ?_;show TW _ _ tf201.body _ _;refine aS ?_;refine Qg (ZD Wa Wa) Z Z (.inr Z) (aB ?_ ?_);intro h1;refine Qs Z (aK ?_)
 grind [Ja]
 intro h1;refine Qg (Qv Wa Wa) Z Z (.inr Z) (aB ?_ ?_);intro h2
 grind [Ja]
 intro h2;refine aB ?_ ?_;intro T
 grind [Ja]
 intro T;refine Qg (Zf Wa Wa Wa Wa) Z Z (.inr Z) (aB ?_ ?_);intro O
 grind [Ja]
 intro O;refine aB ?_ ?_;intro M
 grind [Ja]
 intro M
 grind [Ja]
theorem Z0 (hp:p.length<=1048576) (M:q.length<=1048576) (G:p'.length<=1048576) (C:q'.length<=1048576):Ok Tryz.prog 194 [.agg [.int .i64 e,.int .i64 a,.int .i64 b,.int .i64 c,.str p,.str q,.bool f,.int .i64 e',.int .i64 a',.int .i64 b',.int .i64 c',.str p',.str q',.bool f']] (.bool (Sb e a b c p q f e' a' b' c' p' q' f')):=by
 refine Ok.n6 tfol Tryz.func194 Qu7 (QAk Z) ?_;show TW _ _ tf194.body _ _;refine aS ?_;refine Qg (ZD Wa Wa) Z Z (.inr Z) (aR ?_ ?_);intro h1;refine Qg (ZD Wa Wa) Z Z (.inr Z) (aR ?_ ?_);intro h2;refine Qg (QR Wa Wa Wa Wa) Z Z (.inr Z) (aK ?_)
 grind [Sb]
 intro h2
 grind [Sb]
 intro h1
 grind [Sb]
theorem Fk (hp:p.length<=1048576) (T:q.length<=1048576) (G:p'.length<=1048576) (C:q'.length<=1048576) {x y z:Int} {r s:List UInt8} (hr:r.length<=1048576) (O:s.length<=1048576):Ok Tryz.prog 163 [.agg [.int .i64 e,.int .i64 a,.int .i64 b,.int .i64 c,.str p,.str q,.bool f,.int .i64 e',.int .i64 a',.int .i64 b',.int .i64 c',.str p',.str q',.bool f'],.agg [.int .i64 x,.int .i64 y,.int .i64 z,.str r,.str s]] (.bool (Gs e a b c p q f e' a' b' c' p' q' f' x y z r s)):=by
 refine Ok.n6 tfol Tryz.func163 QuT (QAk Z) ?_;show TW _ _ tf163.body _ _;refine aS ?_;refine Qg (Z0 Wa Wa Wa Wa) Z Z (.inr Z) (aR ?_ ?_);intro h1;refine Qg (Qv Wa Wa) Z Z (.inr Z) (aR ?_ ?_);intro h2;refine Qg (X4 Wa Wa Wa Wa) Z Z (.inr Z) (aR ?_ ?_);intro M;refine Qg (X4 Wa Wa Wa Wa) Z Z (.inr Z) (aK ?_)
 grind [Gs]
 intro M
 grind [Gs]
 intro h2
 grind [Gs]
 intro h1
 grind [Gs]
variable {s:List UInt8}
theorem Kg (hl:s.length<=1048576):Ok Tryz.prog 153 [.str s] (.u7 [.int .i64 (ZF s).1,.bool (ZF s).2]):=by
 refine Ok.n6 tfol Tryz.func153 QuJ (QAk Z) ?_;show TW _ _ tf153.body _ _;refine aZ ?_;refine HO (ι:=Unit) (λ_u=>⟨[(0,.str s)],[]⟩) (λ_u=>¬(s=[]\/4<s.length\/(1<s.length/\s.head?=some 48))) ?_ ?_
 skip
 refine aR ?_ ?_;intro h1
 try simp only[qB,QAo,QAx,decide_eq_true_eq]at h1
 refine aK ?_;refine Qs Z (aK ?_);refine QX Z Z ?_
 (rw[Qcl (s:=s) Wb];trivial)
 intro h1
 try simp only[qB,QAo,QAx,decide_eq_true_eq]at h1
 refine aR ?_ ?_;intro h2
 try simp only[qB,QAo,QAx,decide_eq_true_eq]at h2
 refine aK ?_;refine Qs Z (aK ?_);refine QX Z Z ?_
 (rw[Qcl (s:=s) Wa];trivial)
 intro h2
 try simp only[qB,QAo,QAx,decide_eq_true_eq]at h2
 refine aK ?_;refine Kw Z Z Wa (CJ (i:=0) (QA0.2 Wa)) (aR ?_ ?_);intro h3
 try simp only[qB,QAo,QAx,decide_eq_true_eq]at h3
 refine aR ?_ ?_;intro Y
 try simp only[qB,QAo,QAx,decide_eq_true_eq]at Y
 refine aK ?_;refine QX Z Z ?_
 (rw[Qcm (s:=s) Wa Wa];trivial)
 intro Y
 try simp only[qB,QAo,QAx,decide_eq_true_eq]at Y
 refine aK ?_;refine QT () ?_ ?_;exact QB (kp1 Z)
 grind
 intro h3
 try simp only[qB,QAo,QAx,decide_eq_true_eq]at h3
 refine aK ?_;refine QH Z (aK ?_);refine QT () ?_ ?_;exact QB (kp1 Z)
 grind [Qfs]
 intro _u hJ;refine aK ?_;refine Qed Z Z (aK ?_);refine Qt (ι:=Nat) (λi=>⟨[(4,.int .i64 (val (s.take i))),(25,.ref 25 0 0)],[(25,⟨[],0,QU s i,false⟩)]⟩) (λi=>i<=s.length/\(s.take i).all Y6=true/\s.length<=4/\0<s.length) (λi=>s.length - i) 0 ?_ ?_ ?_;exact Ql (l:=[4,25]) (lH:=[25]) (kp2 Z Z) (Qa Z Qb) Wm Z Z
 grind
 intro i O;have hv:=Qhj (s:=s.take i) O.2.1;have hp:10 ^ (s.take i).length<=10 ^ 4:=QBB Wa Wb;have hI1:=O.1;have hI3:=O.2.2.1;refine aK ?_;rcases QAH (i) (s).length with G |G
 rcases QAH (((s)[i]).toNat) 128 with V |V;refine Qa9 Z Z G (Co G V) (aK ?_);refine Qs Z (aR ?_ ?_);intro U
 try simp only[qB,QAo,QAx,decide_eq_true_eq]at U
 refine aR ?_ ?_;intro T
 try simp only[qB,QAo,QAx,decide_eq_true_eq]at T
 refine aK ?_;refine QoX Z Z Wn (aK ?_);refine QjG Z Wn (aK ?_);refine Qc (i+1) ?_ ?_ ?_;exact Ql (l:=[4,25]) (lH:=[25]) (kp2 Z Z) (Qa Z Qb) (by grind [Qc0]) Z Z
 grind [Q9,Y6]
 omega;intro T
 try simp only[qB,QAo,QAx,decide_eq_true_eq]at T
 refine aK ?_;refine QX Z Z ?_
 (rw[L3 (s:=s) (i:=i) Wa Wq];trivial)
 intro U
 try simp only[qB,QAo,QAx,decide_eq_true_eq]at U
 refine aK ?_;refine QH Z (aK ?_);refine QX Z Z ?_
 (rw[L3 (s:=s) (i:=i) Wa Wq];trivial)
 obtain⟨cwh6,nwh6,hch6,C⟩:=Qbq G V;refine Qa9 Z Z G C (aK ?_);refine Qs Z (aR ?_ ?_);intro h9
 try simp only[qB,QAo,QAx,decide_eq_true_eq]at h9
 refine aR ?_ ?_;intro M
 grind
 intro M
 try simp only[qB,QAo,QAx,decide_eq_true_eq]at M
 refine aK ?_;refine QX Z Z ?_
 (rw[L3 (s:=s) (i:=i) Wa Wq];trivial)
 intro h9
 grind
 refine DZ Z Z Wa (aK ?_);refine QH Z (aK ?_);refine QX Z Z ?_
 (rw[QmM (s:=s) (i:=i) hJ Wa O.2.1];exact⟨rfl,by grind [XS,D.fz,D.n7,D.can,D.z6]⟩)
theorem _root_.We {p:Prop} (h:p:=by decide):p:=h
theorem Kj (hl:s.length<=1048576):Ok Tryz.prog 114 [.str s] (.bool (Fy s)):=by
 refine Ok.n6 tfol Tryz.func114 Qum (QAk Z) ?_;show TW _ _ tf114.body _ _;refine aS ?_;refine Qg (Jh Wa) Z Z (.inl Z) (aK ?_);refine Qt (ι:=Nat) (λi=>⟨[(4,.bool (decide ((QD s 46).length<=4))),(14,.sl (XL (QD s 46))),(15,.int .i64 (QD s 46).length),(16,.int .i64 i)],[]⟩) (λi=>i<=(QD s 46).length/\((QD s 46).take i).all DR=true) (λi=>(QD s 46).length - i) 0 ?_ ?_ ?_;exact Ql (l:=[4,14,15,16]) (kp4 Z Z Z Z) Qb (by simp[Qk];omega) Z Z
 simp;intro i hI;have sl:=N5 (s:=s) (c:=46);refine aR ?_ ?_;intro h1
 try simp only[qB,Qk]at h1
 refine aR ?_ ?_;intro h2
 try simp only[qB,Qk]at h2
 refine aK ?_;refine Qs Z (aK ?_);refine Zn We (aK ?_);exact(GX (i:=i) Wa (Qcc Wb)).symm;intro h2
 try simp only[qB,Qk]at h2
 refine aR ?_ ?_;intro h3
 try simp only[qB,Qk]at h3
 refine aK ?_;refine Zn We (aK ?_);exact(GX (i:=i) Wa (Qcc Wa)).symm;intro h3
 try simp only[qB,Qk]at h3
 refine aK ?_;refine Qed Z Z (aK ?_);have C:i<(QD s 46).length:=Wa;refine Qt (ι:=Nat) (λj=>⟨[(4,.bool (decide ((QD s 46).length<=4))),(14,.sl (XL (QD s 46))),(15,.int .i64 (QD s 46).length),(16,.int .i64 i),(28,.ref 28 0 0)],[(28,⟨[],0,QU ((QD s 46)[i]'C) j,false⟩)]⟩) (λj=>j<=((QD s 46)[i]'C).length/\(((QD s 46)[i]'C).take j).all Kl=true) (λj=>((QD s 46)[i]'C).length - j) 0 ?_ ?_ ?_;exact Ql (l:=[4,14,15,16,28]) (lH:=[28]) (kp5 Z Z Z Z Z) (Qa Z Qb) Z Z Z;simp;intro j hJ;have hJ1:=hJ.1;refine aK ?_;rcases QAH (j) (((QD s 46)[i]'C)).length with O |O
 rcases QAH (((((QD s 46)[i]'C))[j]).toNat) 128 with h5 |h5;refine Qa9 Z Z O (Co O h5) (aK ?_);refine Qs Z (aR ?_ ?_);intro h6
 try simp only[qB,Qk]at h6
 refine aR ?_ ?_;intro h7
 try simp only[qB,Qk]at h7
 refine aR ?_ ?_;intro h8
 try simp only[qB,Qk]at h8
 refine aK ?_;refine Zn We (aK ?_);refine Zn We (Zn We (aK ?_))
 grind [GX,PR,Jv,Kl]
 intro h8
 try simp only[qB,Qk]at h8
 refine aK ?_;refine Qc (j+1) ?_ ?_ ?_;exact Ql (l:=[4,14,15,16,28]) (lH:=[28]) (kp5 Z Z Z Z Z) (Qa Z Qb) Z Z Z
 grind [Q9,Kl]
 omega;intro h7
 try simp only[qB,Qk]at h7
 refine aR ?_ ?_;intro h9
 try simp only[qB,Qk]at h9
 refine aR ?_ ?_;intro h10
 try simp only[qB,Qk]at h10
 refine aK ?_;refine Zn We (aK ?_);refine Zn We (Zn We (aK ?_))
 grind [GX,PR,Jv,Kl]
 intro h10
 grind
 intro h9
 try simp only[qB,Qk]at h9
 refine aK ?_;refine QH Z (aK ?_);refine Qc (j+1) ?_ ?_ ?_;exact Ql (l:=[4,14,15,16,28]) (lH:=[28]) (kp5 Z Z Z Z Z) (Qa Z Qb) Z Z Z
 grind [Q9,Kl]
 omega;intro h6
 try simp only[qB,Qk]at h6
 refine aR ?_ ?_;intro G
 try simp only[qB,Qk]at G
 refine aR ?_ ?_;intro h12
 grind
 intro h12
 try simp only[qB,Qk]at h12
 refine aR ?_ ?_;intro h14
 try simp only[qB,Qk]at h14
 refine aR ?_ ?_;intro h15
 try simp only[qB,Qk]at h15
 refine aK ?_;refine Zn We (aK ?_);refine Zn We (Zn We (aK ?_))
 grind [GX,PR,Jv,Kl]
 intro h15
 grind
 intro h14
 grind
 intro G
 try simp only[qB,Qk]at G
 refine aK ?_;refine QH Z (aK ?_);refine Qc (j+1) ?_ ?_ ?_;exact Ql (l:=[4,14,15,16,28]) (lH:=[28]) (kp5 Z Z Z Z Z) (Qa Z Qb) Z Z Z
 grind [Q9,Kl]
 omega;obtain⟨cwh5,nwh5,hch5,M⟩:=Qbq O h5;refine Qa9 Z Z O M (aK ?_);refine Qs Z (aR ?_ ?_);intro h16
 grind
 intro h16
 try simp only[qB,Qk]at h16
 refine aR ?_ ?_;intro Y
 try simp only[qB,Qk]at Y
 refine aR ?_ ?_;intro V
 grind
 intro V
 try simp only[qB,Qk]at V
 refine aR ?_ ?_;intro U
 try simp only[qB,Qk]at U
 refine aR ?_ ?_;intro T
 try simp only[qB,Qk]at T
 refine aK ?_;refine Zn We (aK ?_);refine Zn We (Zn We (aK ?_))
 grind [GX,PR,Jv,Kl]
 intro T
 grind
 intro U
 grind
 intro Y
 grind
 refine DZ Z Z Wa (aK ?_);refine QH Z (aK ?_);refine Qc (i+1) ?_ ?_ ?_;exact Ql (l:=[4,14,15,16]) (kp4 Z Z Z Z) Qb Z Z Z
 grind [Q9,QmA]
 omega;intro h1
 try simp only[qB,Qk]at h1
 refine aK ?_
 grind [QgX]
theorem Lq {a b:List UInt8} (ha:a.length<=1048576) (hb:b.length<=1048576):Ok Tryz.prog 118 [.str a,.str b] (.int .i64 (QaH a b)):=by
 refine Ok.n6 tfol Tryz.func118 Quq (QAk Z) ?_;show TW _ _ tf118.body _ _;refine aS ?_;refine Qg (Xr Wa) Z Z (.inr Z) (aK ?_);refine Qg (Xr Wa) Z Z (.inr Z) (aR ?_ ?_);intro h1;refine aR ?_ ?_;intro h2;refine Qg (Kg Wa) Z Z (.inr Z) (aK ?_);refine Qg (Kg Wa) Z Z (.inr Z) (aK ?_);refine Qg (Q7) Z Z (.inr Z) (aK ?_)
 grind [QaH]
 intro h2;refine aB ?_ ?_;intro G;refine Qs Z (aK ?_)
 grind [QaH]
 intro G
 grind
 intro h1;refine QH Z (aB ?_ ?_);intro C;refine QH Z (aK ?_)
 grind [QaH]
 intro C;refine Qg (Yp) Z Z (.inr Z) (aK ?_)
 grind [QaH]
theorem Lp (G:s.length<=1048576):Ok Tryz.prog 113 [.str s] (.bool (CT s)):=by
 refine Ok.n6 tfol Tryz.func113 Qul (QAk Z) ?_;show TW _ _ tf113.body _ _;refine aS ?_;refine Qg (Kj Wa) Z Z (.inr Z) (aR ?_ ?_);intro h1
 try simp only[qB,Qk]at h1
 refine aK ?_
 grind [CT]
 intro h1
 try simp only[qB,Qk]at h1
 refine aK ?_;refine Qg (Jh Wa) Z Z (.inl Z) (aK ?_);refine Qt (ι:=Nat) (λi=>⟨[(11,.sl (XL (QD s 46))),(12,.int .i64 (QD s 46).length),(13,.int .i64 i)],[]⟩) (λi=>i<=(QD s 46).length/\((QD s 46).take i).all Bd=true) (λi=>(QD s 46).length - i) 0 ?_ ?_ ?_;exact Ql (l:=[11,12,13]) (kp3 Z Z Z) Qb (by simp[Qk]) Z Z;simp;intro i O;have sl:=N5 (s:=s) (c:=46);refine aR ?_ ?_;intro h2
 try simp only[qB,Qk]at h2
 refine aK ?_;refine Qg (Kg (Jl Wa G)) Z Z (.inr Z) (aK ?_);refine Qg (Xr (Jl Wa G)) Z Z (.inr Z) (aR ?_ ?_);intro M;refine aR ?_ ?_;intro C
 try simp only[qB,Qk]at C
 refine aK ?_;exact(QmW (i:=i) Wa (by grind [Bd])).symm;intro C
 try simp only[qB,Qk]at C
 refine aK ?_;refine Qc (i+1) ?_ ?_ ?_;exact QB (kp3 Z Z Z)
 grind [Q9,Bd]
 omega;intro M;refine QH Z (aK ?_);refine Qc (i+1) ?_ ?_ ?_;exact QB (kp3 Z Z Z)
 grind [Q9,Bd]
 omega;intro h2
 try simp only[qB,Qk]at h2
 refine aK ?_
 grind [Qi5]
theorem ZP (hp:p.length<=1048576) (U:q.length<=1048576):Ok Tryz.prog 81 [.agg [.int .i64 a,.int .i64 b,.int .i64 c,.str p,.str q]] (.bool (JK a b c p q)):=by
 refine Ok.n6 tfol Tryz.func81 Qz2 (QAk Z) ?_;show TW _ _ tf81.body _ _;refine aS ?_;refine Qg (Ki) Z Z (.inr Z) (aR ?_ ?_);intro h1;refine Qg (Ki) Z Z (.inr Z) (aR ?_ ?_);intro h2;refine Qg (Ki) Z Z (.inr Z) (aR ?_ ?_);intro T;refine aB ?_ ?_;intro O;refine aB ?_ ?_;intro M
 grind [JK,Hb,KJ]
 intro M;refine Qg (Kj Wa) Z Z (.inr Z) (aK ?_)
 grind [JK,Hb,KJ]
 intro O;refine Qg (Lp Wa) Z Z (.inr Z) (aR ?_ ?_);intro G;refine aB ?_ ?_;intro C
 grind [JK,Hb,KJ]
 intro C;refine Qg (Kj Wa) Z Z (.inr Z) (aK ?_)
 grind [JK,Hb,KJ]
 intro G
 grind [JK,KJ]
 intro T
 grind [JK]
 intro h2
 grind [JK]
 intro h1
 grind [JK]
theorem Xq (hp:p.length<=1048576) (hq:q.length<=1048576) (C:p'.length<=1048576) (hq':q'.length<=1048576):Ok Tryz.prog 82 [.agg [.int .i64 a,.int .i64 b,.int .i64 c,.str p,.str q],.agg [.int .i64 a',.int .i64 b',.int .i64 c',.str p',.str q']] (.int .i64 (ME a b c p q a' b' c' p' q')):=by
 refine Ok.n6 tfol Tryz.func82 Qz3 (QAk Z) ?_;show TW _ _ tf82.body _ _;refine aS ?_;refine Qr (ds0:=dn 13) (ZP Wa Wa) Z Z (.inr Z) Z Z (aR ?_ ?_);intro h1
 try simp only[qB,Qk]at h1
 refine aK ?_;refine Qs Z (aK ?_)
 grind [ME]
 intro h1
 try simp only[qB,Qk]at h1
 refine aK ?_;refine Qr (ds0:=dn 9) (ZP Wa Wa) Z Z (.inr Z) Z Z (aR ?_ ?_);intro h2
 try simp only[qB,Qk]at h2
 refine aK ?_;refine Qs Z (aK ?_)
 grind [ME]
 intro h2
 try simp only[qB,Qk]at h2
 refine aK ?_;refine Qr (ds0:=[1,0]) (Fu) Z Z (.inl Z) Z Z (aK ?_);refine Qr (ds0:=[1,0]) (Fu) Z Z (.inl Z) Z Z (aK ?_);refine JY Z Z Z (aR ?_ ?_);intro Y
 try simp only[qB,Qk]at Y
 refine aK ?_
 grind [Qpj]
 intro Y
 try simp only[qB,Qk]at Y
 refine aK ?_;refine Qr (ds0:=[2,1,0]) (Q7) Z Z (.inr Z) Z Z (aK ?_);refine Qr (ds0:=[2,1,0]) (Q7) Z Z (.inr Z) Z Z (aK ?_);refine Qr (ds0:=[2,1,0]) (Q7) Z Z (.inr Z) Z Z (Qn Z Z (Qr (ds0:=[0]) (MY (l:=[Zj a a',Zj b b',Zj c c']) Wc) Z Z (.inr Z) Z Z (aR ?_ ?_)));intro V
 try simp only[qB,Qk]at V
 refine aK ?_
 grind [QlM]
 intro V
 try simp only[qB,Qk]at V
 refine aR ?_ ?_;intro U
 try simp only[qB,Qk]at U
 refine aK ?_
 grind [Qib]
 intro U
 try simp only[qB,Qk]at U
 refine aR ?_ ?_;intro T
 try simp only[qB,Qk]at T
 refine aK ?_
 grind [Qic]
 intro T
 try simp only[qB,Qk]at T
 refine aK ?_;refine Qr (ds0:=[1]) (Jh Wa) Z Z (.inl Z) Z Z (aK ?_);refine Qr (ds0:=[0]) (Jh Wa) Z Z (.inl Z) Z Z (aK ?_);refine Qt (ι:=Nat) (λi=>⟨[(6,.sl (XL (QD p 46))),(7,.sl (XL (QD p' 46))),(8,.int .i64 i)],[]⟩) (λi=>i<=(QD p 46).length/\i<=(QD p' 46).length/\ME a b c p q a' b' c' p' q'=Qca ((QD p 46).drop i) ((QD p' 46).drop i)) (λi=>(QD p 46).length - i) 0 ?_ ?_ ?_;exact Ql (l:=[6,7,8]) (kp3 Z Z Z) Qb Z Z Z
 (repeat clear hK K);simp_all [QlN]
 intro i hI;have sl:=N5 (s:=p) (c:=46);refine aR ?_ ?_;intro O
 try simp only[qB,Qk]at O
 refine aR ?_ ?_;intro M
 try simp only[qB,Qk]at M
 refine aK ?_;refine Qr (ds0:=[0]) (Lq (Jl Wa hp) (Jl Wa C)) Z Z (.inr Z) Z Z (aR ?_ ?_);intro G
 try simp only[qB,Qk]at G
 refine aK ?_
 grind [Qcb]
 intro G
 try simp only[qB,Qk]at G
 refine aK ?_;refine Qc (i+1) ?_ ?_ ?_;exact QB (kp3 Z Z Z)
 grind [CU]
 omega;intro M
 try simp only[qB,Qk]at M
 refine aK ?_;refine Qg (Q7) Z Z (.inr Z) (aK ?_)
 (grind [PQ,Qk])
 intro O
 try simp only[qB,Qk]at O
 refine aK ?_;refine QH Z (aK ?_);refine Qg (Q7) Z Z (.inr Z) (aK ?_)
 (grind [PQ,Qk])
theorem H3 (hp:p.length<=1048576) (T:q.length<=1048576):Ok Tryz.prog 228 [.agg [.int .i64 e,.int .i64 a,.int .i64 b,.int .i64 c,.str p,.str q,.bool f]] (.bool (XX e a b c p q f)):=by
 refine Ok.n6 tfol Tryz.func228 Qvo (QAk Z) ?_;show TW _ _ tf228.body _ _;refine aX ?_ ?_;intro h1;refine Qs Z (aK ?_);refine JY Z Z Z (aB ?_ ?_);intro h2
 grind [XX]
 intro h2
 grind [XX]
 intro h1;refine aB ?_ ?_;intro O;refine JY Z Z Z (aB ?_ ?_);intro M
 grind [XX]
 intro M
 grind [XX]
 intro O;refine aB ?_ ?_;intro G
 grind [XX]
 intro G;refine Qg (ZP Wa Wa) Z Z (.inr Z) (aR ?_ ?_);intro C
 grind [XX]
 intro C
 grind [XX]
theorem Nf (hp:p.length<=1048576) (Y:q.length<=1048576) (G:p'.length<=1048576) (C:q'.length<=1048576):Ok Tryz.prog 192 [.agg [.int .i64 e,.int .i64 a,.int .i64 b,.int .i64 c,.str p,.str q,.bool f],.agg [.int .i64 e',.int .i64 a',.int .i64 b',.int .i64 c',.str p',.str q',.bool f']] (.int .i64 (Kq e a b c p q f e' a' b' c' p' q' f')):=by
 refine Ok.n6 tfol Tryz.func192 Qu5 (QAk Z) ?_;show TW _ _ tf192.body _ _;refine aS ?_;refine Qg (H3 Wa Wa) Z Z (.inr Z) (aB ?_ ?_);intro h1;refine Qs Z (aK ?_)
 grind [Kq]
 intro h1;refine Qg (H3 Wa Wa) Z Z (.inr Z) (aB ?_ ?_);intro h2
 grind [Kq]
 intro h2;refine aB ?_ ?_;intro V;refine Qs Z (aK ?_);refine Qg (Q7) Z Z (.inr Z) (aK ?_)
 grind [Kq]
 intro V;refine aB ?_ ?_;intro U;refine Qg (Q7) Z Z (.inr Z) (aK ?_)
 grind [Qh8]
 intro U;refine Qg (Xq Wa Wa Wa Wa) Z Z (.inr Z) (aB ?_ ?_);intro T
 grind [Kq]
 intro T;refine aB ?_ ?_;intro O
 grind [Kq]
 intro O;refine aR ?_ ?_;intro M
 grind [Kq]
 intro M
 grind [Kq]
theorem Rv (hp:p.length<=1048576) (U:q.length<=1048576) (G:p'.length<=1048576) (C:q'.length<=1048576):Ok Tryz.prog 193 [.agg [.int .i64 e,.int .i64 a,.int .i64 b,.int .i64 c,.str p,.str q,.bool f],.agg [.int .i64 a',.int .i64 b',.int .i64 c',.str p',.str q']] (.bool (Ja e a b c p q f a' b' c' p' q')):=by
 refine Ok.n6 tfol Tryz.func193 Qu6 (QAk Z) ?_;show TW _ _ tf193.body _ _;refine aS ?_;refine Qg (H3 Wa Wa) Z Z (.inr Z) (aB ?_ ?_);intro h1;refine Qs Z (aK ?_)
 grind [Ja]
 intro h1;refine Qg (ZP Wa Wa) Z Z (.inr Z) (aB ?_ ?_);intro h2
 grind [Ja]
 intro h2;refine aB ?_ ?_;intro T
 grind [Ja]
 intro T;refine Qg (Xq Wa Wa Wa Wa) Z Z (.inr Z) (aB ?_ ?_);intro O
 grind [Ja]
 intro O;refine aB ?_ ?_;intro M
 grind [Ja]
 intro M
 grind [Ja]
theorem Ng (hp:p.length<=1048576) (M:q.length<=1048576) (G:p'.length<=1048576) (C:q'.length<=1048576):Ok Tryz.prog 191 [.agg [.int .i64 e,.int .i64 a,.int .i64 b,.int .i64 c,.str p,.str q,.bool f,.int .i64 e',.int .i64 a',.int .i64 b',.int .i64 c',.str p',.str q',.bool f']] (.bool (Sb e a b c p q f e' a' b' c' p' q' f')):=by
 refine Ok.n6 tfol Tryz.func191 Qu4 (QAk Z) ?_;show TW _ _ tf191.body _ _;refine aS ?_;refine Qg (H3 Wa Wa) Z Z (.inr Z) (aR ?_ ?_);intro h1;refine Qg (H3 Wa Wa) Z Z (.inr Z) (aR ?_ ?_);intro h2;refine Qg (Nf Wa Wa Wa Wa) Z Z (.inr Z) (aK ?_)
 grind [Sb]
 intro h2
 grind [Sb]
 intro h1
 grind [Sb]
theorem Qaa (hp:p.length<=1048576) (T:q.length<=1048576) (G:p'.length<=1048576) (C:q'.length<=1048576) {x y z:Int} {r:List UInt8} (hr:r.length<=1048576) (O:s.length<=1048576):Ok Tryz.prog 158 [.agg [.int .i64 e,.int .i64 a,.int .i64 b,.int .i64 c,.str p,.str q,.bool f,.int .i64 e',.int .i64 a',.int .i64 b',.int .i64 c',.str p',.str q',.bool f'],.agg [.int .i64 x,.int .i64 y,.int .i64 z,.str r,.str s]] (.bool (Gs e a b c p q f e' a' b' c' p' q' f' x y z r s)):=by
 refine Ok.n6 tfol Tryz.func158 QuO (QAk Z) ?_;show TW _ _ tf158.body _ _;refine aS ?_;refine Qg (Ng Wa Wa Wa Wa) Z Z (.inr Z) (aR ?_ ?_);intro h1;refine Qg (ZP Wa Wa) Z Z (.inr Z) (aR ?_ ?_);intro h2;refine Qg (Rv Wa Wa Wa Wa) Z Z (.inr Z) (aR ?_ ?_);intro M;refine Qg (Rv Wa Wa Wa Wa) Z Z (.inr Z) (aK ?_)
 grind [Gs]
 intro M
 grind [Gs]
 intro h2
 grind [Gs]
 intro h1
 grind [Gs]
open M25
theorem Jy:Ok Tryz.prog 243 [.agg [.int .i64 a,.int .i64 b,.int .i64 c,.str p,.str q]] (.agg [.int .i64 a,.int .i64 b,.int .i64 c,.str p,.str []]):=by
 refine Ok.n6 tfol Tryz.func243 Qvq (QAk Z) ?_;show TW _ _ tf243.body _ _;refine aS ?_;refine Zg (cs:=[_,_,_,_,_]) Z Z Z Z ?_;rfl
theorem Yt:Ok Tryz.prog 108 [] (.agg [.int .i64 (-1),.int .i64 0,.int .i64 0,.int .i64 0,.str [],.str [],.bool false]):=by
 refine Ok.n6 tfol Tryz.func108 Qug (QAk Z) ?_;show TW _ _ tf108.body _ _;refine aS ?_;refine Zg (cs:=[_,_,_,_,_,_,_]) Z Z Z Z ?_;rfl
theorem YM:Ok Tryz.prog 109 [] (.agg [.int .i64 1,.int .i64 0,.int .i64 0,.int .i64 0,.str [],.str [],.bool false]):=by
 refine Ok.n6 tfol Tryz.func109 Quh (QAk Z) ?_;show TW _ _ tf109.body _ _;refine aS ?_;refine Zg (cs:=[_,_,_,_,_,_,_]) Z Z Z Z ?_;rfl
theorem Z8:Ok Tryz.prog 214 [.agg [.int .i64 a,.int .i64 b,.int .i64 c,.str p,.str q]] (.agg [.int .i64 0,.int .i64 a,.int .i64 b,.int .i64 c,.str p,.str [],.bool false]):=by
 refine Ok.n6 tfol Tryz.func214 Qvg (QAk Z) ?_;show TW _ _ tf214.body _ _;refine aS ?_;refine Qg (Jy) Z Z (.inl Z) (aK ?_);refine Zg (cs:=[_,_,_,_,_,_,_]) Z Z Z Z ?_;rfl
theorem Gd:Ok Tryz.prog 215 [.agg [.int .i64 a,.int .i64 b,.int .i64 c,.str p,.str q]] (.agg [.int .i64 0,.int .i64 a,.int .i64 b,.int .i64 c,.str p,.str [],.bool true]):=by
 refine Ok.n6 tfol Tryz.func215 Qvh (QAk Z) ?_;show TW _ _ tf215.body _ _;refine aS ?_;refine Qg (Jy) Z Z (.inl Z) (aK ?_);refine Zg (cs:=[_,_,_,_,_,_,_]) Z Z Z Z ?_;rfl
theorem X6:Ok Tryz.prog 196 [.agg [.int .i64 a,.int .i64 b,.int .i64 c,.str p,.str q]] (.bool (Pa a b c)):=by
 refine Ok.n6 tfol Tryz.func196 Qu9 (QAk Z) ?_;show TW _ _ tf196.body _ _;refine aX ?_ ?_;intro h1;refine aB ?_ ?_;intro h2
 grind [Pa]
 intro h2
 grind [Pa]
 intro h1
 grind [Pa]
theorem FR (hp:p.length<=1048576) (V:q.length<=1048576) {part:Int}:Ok Tryz.prog 260 [.agg [.int .i64 a,.int .i64 b,.int .i64 c,.str p,.str q],.int .i64 part] (dOV (FW a b c p q part)):=by
 refine Ok.n6 tfol Tryz.func260 Qvv (QAk Z) ?_;show TW _ _ tf260.body _ _;refine aS ?_;refine Qg (Qv Wa Wa) Z Z (.inr Z) (aB ?_ ?_);intro h1;refine Qs Z (aK ?_);refine r7.eq (ZI (ds:=[.int .i64 _,.int .i64 _,.int .i64 _,.str _,.str _]) (d':=.bool _) (cs:=[_,_,_,_,_]) Z Z Z Z Z ⟨rfl,rfl⟩) ?_
 grind [FW,dOV]
 intro h1;refine aB ?_ ?_;intro h2;refine Qs Z (aK ?_);refine r7.eq (ZI (ds:=[.int .i64 _,.int .i64 _,.int .i64 _,.str _,.str _]) (d':=.bool _) (cs:=[_,_,_,_,_]) Z Z Z Z Z ⟨rfl,rfl⟩) ?_
 grind [FW,dOV]
 intro h2;refine aB ?_ ?_;intro U;refine r7.eq (ZI (ds:=[.int .i64 _,.int .i64 _,.int .i64 _,.str _,.str _]) (d':=.bool _) (cs:=[_,_,_,_,_]) Z Z Z Z Z ⟨rfl,rfl⟩) ?_
 grind [FW,dOV]
 intro U;refine aB ?_ ?_;intro T;refine Qc9 Z Z (Z5 (by have:=GO (by simpa using h1);omega) (by have:=GO (by simpa using h1);omega)) (aK ?_)
 refine Qg (Qv Wc Wc) Z Z (.inr Z) (aB ?_ ?_);intro O;refine r7.eq (ZI (ds:=[.int .i64 _,.int .i64 _,.int .i64 _,.str _,.str _]) (d':=.bool _) (cs:=[_,_,_,_,_]) Z Z Z Z Z ⟨rfl,rfl⟩) ?_
 grind [FW,dOV]
 intro O;refine r7.eq (ZI (ds:=[.int .i64 _,.int .i64 _,.int .i64 _,.str _,.str _]) (d':=.bool _) (cs:=[_,_,_,_,_]) Z Z Z Z Z ⟨rfl,rfl⟩) ?_
 grind [FW,dOV]
 intro T;refine aB ?_ ?_;intro M;refine Qc9 Z Z (Z5 (by have:=GO (by simpa using h1);omega) (by have:=GO (by simpa using h1);omega)) (aK ?_)
 refine Qg (Qv Wc Wc) Z Z (.inr Z) (aB ?_ ?_);intro G;refine r7.eq (ZI (ds:=[.int .i64 _,.int .i64 _,.int .i64 _,.str _,.str _]) (d':=.bool _) (cs:=[_,_,_,_,_]) Z Z Z Z Z ⟨rfl,rfl⟩) ?_
 grind [FW,dOV]
 intro G;refine r7.eq (ZI (ds:=[.int .i64 _,.int .i64 _,.int .i64 _,.str _,.str _]) (d':=.bool _) (cs:=[_,_,_,_,_]) Z Z Z Z Z ⟨rfl,rfl⟩) ?_
 grind [FW,dOV]
 intro M;refine Qc9 Z Z (Z5 (by have:=GO (by simpa using h1);omega) (by have:=GO (by simpa using h1);omega)) (aK ?_)
 refine Qg (Qv Wc Wc) Z Z (.inr Z) (aB ?_ ?_);intro C;refine r7.eq (ZI (ds:=[.int .i64 _,.int .i64 _,.int .i64 _,.str _,.str _]) (d':=.bool _) (cs:=[_,_,_,_,_]) Z Z Z Z Z ⟨rfl,rfl⟩) ?_
 grind [FW,dOV]
 intro C;refine r7.eq (ZI (ds:=[.int .i64 _,.int .i64 _,.int .i64 _,.str _,.str _]) (d':=.bool _) (cs:=[_,_,_,_,_]) Z Z Z Z Z ⟨rfl,rfl⟩) ?_
 grind [FW,dOV]
theorem FS (hp:p.length<=1048576) (U:q.length<=1048576):Ok Tryz.prog 244 [.agg [.int .i64 a,.int .i64 b,.int .i64 c,.str p,.str q]] (dOV (Qdz a b c p q)):=by
 refine Ok.n6 tfol Tryz.func244 Qvr (QAk Z) ?_;show TW _ _ tf244.body _ _;refine aS ?_;refine Qg (Qv Wa Wa) Z Z (.inr Z) (aB ?_ ?_);intro h1;refine r7.eq (ZI (ds:=[.int .i64 _,.int .i64 _,.int .i64 _,.str _,.str _]) (d':=.bool _) (cs:=[_,_,_,_,_]) Z Z Z Z Z ⟨rfl,rfl⟩) ?_
 grind [Qdz,dOV]
 intro h1;refine aB ?_ ?_;intro h2;refine r7.eq (ZI (ds:=[.int .i64 _,.int .i64 _,.int .i64 _,.str _,.str _]) (d':=.bool _) (cs:=[_,_,_,_,_]) Z Z Z Z Z ⟨rfl,rfl⟩) ?_
 grind [Qdz,dOV]
 intro h2;refine Qt (ι:=Nat) (λm=>⟨[(1,.ref 1 0 0),(2,.ref 2 0 0),(4,.int .i64 ((m:Int) - 1))],[(1,⟨[[.int .i64 a,.int .i64 b,.int .i64 c,.str p,.str q]],5,66,true⟩),(2,⟨[[.int .i64 0,.int .i64 0,.int .i64 0,.str [],.str []]],5,66,true⟩)]⟩) (λm=>m<=3/\XA a b c p q 3=XA a b c p q m) (λm=>m) 3 ?_ ?_ ?_;exact Ql (l:=[1,2,4]) (lH:=[1,2]) (kp3 Z Z Z) (Qa Z (Qa Z Qb)) Z Z Z;simp;intro m M;obtain⟨G,C⟩:=M;refine aB ?_ ?_;intro T;rcases Nat.eq_zero_or_pos m with hm |hm<;>first |omega |skip
 refine Qg (FR Wa Wa) Z Z (.inl Z) (aR ?_ ?_);intro O;refine r7.eq (ZI (ds:=[.int .i64 _,.int .i64 _,.int .i64 _,.str _,.str _]) (d':=.bool _) (cs:=[_,_,_,_,_]) Z Z Z Z Z ⟨rfl,rfl⟩) ?_
 grind [Qdz,dOV,D7]
 intro O;refine Qc (m - 1) ?_ ?_ ?_;refine Ql (l:=[1,2,4]) (lH:=[1,2]) (kp3 Z Z Z) (Qa Z (Qa Z Qb)) ?_ Z rfl;grind
 grind [B8]
 omega;intro T;rcases Nat.eq_zero_or_pos m with hm |hm<;>first |omega |skip
 refine r7.eq (ZI (ds:=[.int .i64 _,.int .i64 _,.int .i64 _,.str _,.str _]) (d':=.bool _) (cs:=[_,_,_,_,_]) Z Z Z Z Z ⟨rfl,rfl⟩) ?_
 grind [XA,Qdz,dOV]
theorem X7 {e:Int} {f:Bool}:Ok Tryz.prog 160 [.agg [.int .i64 e,.int .i64 a,.int .i64 b,.int .i64 c,.str p,.str q,.bool f]] (.bool (Pb e a b c p q f)):=by
 refine Ok.n6 tfol Tryz.func160 QuQ (QAk Z) ?_;show TW _ _ tf160.body _ _;refine aX ?_ ?_;intro h1
 grind [Pb]
 intro h1;refine aB ?_ ?_;intro h2;refine aB ?_ ?_;intro C;refine Qg (X6) Z Z (.inr Z) (aK ?_)
 grind [Pb]
 intro C
 grind [Pb]
 intro h2
 grind [Pb]
theorem Fm:Ok Tryz.prog 216 [.agg [.int .i64 a,.int .i64 b,.int .i64 c,.str p,.str q]] (.agg (dCu (R9 a b c))):=by
 refine Ok.n6 tfol Tryz.func216 Qvi (QAk Z) ?_;show TW _ _ tf216.body _ _;refine aS ?_;refine Qg (X6) Z Z (.inr Z) (aR ?_ ?_);intro h1;refine Qg (Yt) Z Z (.inl Z) (aK ?_);refine r7.eq (Zg (ds:=[.int .i64 _,.int .i64 _,.int .i64 _,.int .i64 _,.str _,.str _,.bool _]) (cs:=[_,_,_,_,_,_,_]) Z Z Z Z Z) ?_
 grind [R9,dCu,ZS]
 intro h1;refine Qg (Z8) Z Z (.inl Z) (aK ?_);refine r7.eq (Zg (ds:=[.int .i64 _,.int .i64 _,.int .i64 _,.int .i64 _,.str _,.str _,.bool _]) (cs:=[_,_,_,_,_,_,_]) Z Z Z Z Z) ?_
 grind [R9,dCu]
theorem Gf:Ok Tryz.prog 217 [.agg [.int .i64 a,.int .i64 b,.int .i64 c,.str p,.str q]] (.agg (dCu (NJ a b c))):=by
 refine Ok.n6 tfol Tryz.func217 Qvj (QAk Z) ?_;show TW _ _ tf217.body _ _;refine aS ?_;refine Qg (FS Wc Wc) Z Z (.inl Z) (aB ?_ ?_);intro h1;refine Qg (YM) Z Z (.inl Z) (aK ?_);refine r7.eq (Zg (ds:=[.int .i64 _,.int .i64 _,.int .i64 _,.int .i64 _,.str _,.str _,.bool _]) (cs:=[_,_,_,_,_,_,_]) Z Z Z Z Z) ?_
 grind [NJ,dCu,XW]
 intro h1;refine Qg (Z8) Z Z (.inl Z) (aK ?_);refine r7.eq (Zg (ds:=[.int .i64 _,.int .i64 _,.int .i64 _,.int .i64 _,.str _,.str _,.bool _]) (cs:=[_,_,_,_,_,_,_]) Z Z Z Z Z) ?_
 grind [NJ,dCu]
theorem X8:Ok Tryz.prog 78 [] (Qw [(ZS,XW)]):=by
 refine Ok.n6 tfol Tryz.func78 QzZ (QAk Z) ?_;show TW _ _ tf78.body _ _;refine aS ?_;refine Qg (Yt) Z Z (.inl Z) (Qg (YM) Z Z (.inl Z) (aK ?_));refine Qn Z Z (aK ?_);refine QM Z ?_;rfl
theorem FU:Ok Tryz.prog 213 [] (Lu ([],[])):=by
 refine Ok.n6 tfol Tryz.func213 Qvf (QAk Z) ?_;show TW _ _ tf213.body _ _;refine aS ?_;refine r7.eq (Zg (ds:=[.sl _,.sl _]) (cs:=[_,_]) Z Z Z Z Z) ?_;rfl
theorem Nl:Ok Tryz.prog 47 [] (Lu ([(ZS,XW)],[(ZS,XW)])):=by
 refine Ok.n6 tfol Tryz.func47 QzM (QAk Z) ?_;show TW _ _ tf47.body _ _;refine aS ?_;refine Qg (X8) Z Z (.inl Z) (Qg (X8) Z Z (.inl Z) (aK ?_));refine r7.eq (Zg (ds:=[.sl _,.sl _]) (cs:=[_,_]) Z Z Z Z Z) ?_;rfl
theorem X5 (hp:p.length<=1048576) (C:q.length<=1048576):Ok Tryz.prog 178 [.agg [.int .i64 a,.int .i64 b,.int .i64 c,.str p,.str q]] (Lu (Y9 a b c p q)):=by
 refine Ok.n6 tfol Tryz.func178 QuX (QAk Z) ?_;show TW _ _ tf178.body _ _;refine aS ?_;refine Qg (Qv Wa Wa) Z Z (.inr Z) (aB ?_ ?_);intro h1;refine Qg (FU) Z Z (.inl Z) (aK ?_);refine r7.eq (Zg (ds:=[.sl _,.sl _]) (cs:=[_,_]) Z Z Z Z Z) ?_
 grind [Y9,Lu,Qw]
 intro h1;refine aB ?_ ?_;intro h2;refine Qr (ds0:=dn 4) (Z8) Z Z (.inl Z) Z Z (aK ?_);refine Qr (ds0:=dn 4) (Gd) Z Z (.inl Z) Z Z (aK ?_);refine Qn Z Z (aK ?_);refine Xz (ds0:=[]) Z Z Z Z Z Z Z Z Z Z (aK ?_);refine r7.eq (Zg (ds:=[.sl _,.sl _]) (cs:=[_,_]) Z Z Z Z Z) ?_
 (repeat clear hK K);simp_all [Y9,Lu,Qw,JT,dCu]
 intro h2;refine Qr (ds0:=dn 4) (Fm) Z Z (.inl Z) Z Z (aK ?_);refine Qr (ds0:=dn 4) (Gf) Z Z (.inl Z) Z Z (aK ?_);refine Qn Z Z (aK ?_);refine Xz (ds0:=[]) Z Z Z Z Z Z Z Z Z Z (aK ?_);refine r7.eq (Zg (ds:=[.sl _,.sl _]) (cs:=[_,_]) Z Z Z Z Z) ?_
 (repeat clear hK K);simp_all [Y9,Lu,Qw,JT,dCu]
variable {l:List (Cu × Cu)}
theorem Q2 (C:Sm l):Ok Tryz.prog 159 [Qw l] (.bool (JV l)):=by
 refine Ok.n6 tfol Tryz.func159 QuP (QAk Z) ?_;show TW _ _ tf159.body _ _;have T:=C.1;refine aS ?_;refine Qt (ι:=Nat) (λi=>⟨[(0,Qw l),(3,.int .i64 i)],[]⟩) (λi=>i<=l.length/\(List.range i).all (QmO l)=true) (λi=>l.length - i) 0 ?_ ?_ ?_;exact QB (kp2 Z Z);simp;intro i G;refine aB ?_ ?_;intro h1;refine Qr (ds0:=dn 20) (Z0 (C.at (i:=i) Wa).1.1 (C.at (i:=i) Wa).1.2 (C.at (i:=i) Wa).2.1 (C.at (i:=i) Wa).2.2) Z Z (.inr Z) Z Z (aB ?_ ?_);intro h2;refine Qs Z (aK ?_)
 first
  |exact(GT G.2 Wa).symm
  |exact(YI (i:=i) Wa (Hw Wa (.inl h2))).symm
  |(simp only[Ka]at*;exact(YI (i:=i) Wa (Hw Wa (.inr ⟨Wa,M⟩))).symm)
 intro h2;refine aB ?_ ?_;intro O;refine Qr (ds0:=[2,1,0]) (QR (C.at (i:=((i:Int) - 1).toNat) Wa).2.1 (C.at (i:=((i:Int) - 1).toNat) Wa).2.2 (C.at (i:=i) Wa).1.1 (C.at (i:=i) Wa).1.2) Z Z (.inr Z) Z Z (aB ?_ ?_);intro M
 first
  |exact(GT G.2 Wa).symm
  |exact(YI (i:=i) Wa (Hw Wa (.inl h2))).symm
  |(simp only[Ka]at*;exact(YI (i:=i) Wa (Hw Wa (.inr ⟨Wa,M⟩))).symm)
 intro M;refine Qc (i+1) ?_ ?_ ?_;exact QB (kp2 Z Z);exact⟨Wa,P5 G.2 (Qco Wa h2 (by(simp only[Ka]at*;exact .inr (Int.not_le.1 M))))⟩
 omega;intro O;refine QH Z (aK ?_);refine Qc (i+1) ?_ ?_ ?_;exact QB (kp2 Z Z);exact⟨Wa,P5 G.2 (Qco Wa h2 Wa)⟩;omega;intro h1
 first
  |exact(GT G.2 Wa).symm
  |exact(YI (i:=i) Wa (Hw Wa (.inl h2))).symm
  |(simp only[Ka]at*;exact(YI (i:=i) Wa (Hw Wa (.inr ⟨Wa,M⟩))).symm)
theorem Yi (C:Sm l) {x y:Cu} (hx:Cu.sm x) (O:Cu.sm y):Ok Tryz.prog 281 [Qw l,.agg (dCu x),.agg (dCu y)] (.bool (mIn l x y)):=by
 refine Ok.n6 tfol Tryz.func281 QvA (QAk Z) ?_;show TW _ _ tf281.body _ _;have T:=C.1;refine aS ?_;refine Qt (ι:=Nat) (λi=>⟨[(0,Qw l),(4,.ref 4 0 0),(5,.ref 5 0 0),(7,.int .i64 i)],[(4,⟨[dCu x],7,190,true⟩),(5,⟨[dCu y],7,190,true⟩)]⟩) (λi=>i<=l.length/\(l.take i).any (inC x y)=false) (λi=>l.length - i) 0 ?_ ?_ ?_;exact Ql (l:=[0,4,5,7]) (lH:=[4,5]) (kp4 Z Z Z Z) (Qa Z (Qa Z Qb)) Z Z Z;simp;intro i G;refine aB ?_ ?_;intro h1;refine Qr (ds0:=dn 11) (QR (C.at (i:=i) Wa).1.1 (C.at (i:=i) Wa).1.2 hx.1 hx.2) Z Z (.inr Z) Z Z (aB ?_ ?_);intro h2;refine Qr (ds0:=[1,0]) (QR O.1 O.2 (C.at (i:=i) Wa).2.1 (C.at (i:=i) Wa).2.2) Z Z (.inr Z) Z Z (aB ?_ ?_);intro M
 first
  |exact(QjK (i:=i) Wa G.2).symm
  |exact(Qek (i:=i) Wa (QpT h2 M)).symm
 intro M;refine Qc (i+1) ?_ ?_ ?_;exact Ql (l:=[0,4,5,7]) (lH:=[4,5]) (kp4 Z Z Z Z) (Qa Z (Qa Z Qb)) Z Z Z;exact⟨Wa,MX Wa G.2 (QpS (by exact .inr M))⟩;omega;intro h2;refine QH Z (aK ?_);refine Qc (i+1) ?_ ?_ ?_;exact Ql (l:=[0,4,5,7]) (lH:=[4,5]) (kp4 Z Z Z Z) (Qa Z (Qa Z Qb)) Z Z Z;exact⟨Wa,MX Wa G.2 (QpS (by exact .inl h2))⟩;omega;intro h1
 first
  |exact(QjK (i:=i) Wa G.2).symm
  |exact(Qek (i:=i) Wa (QpT h2 M)).symm
variable {s:List (Cu × Cu) × List (Cu × Cu)}
theorem J4 {l:List (Cu × Cu)} (C:Sm l) (hp:p.length<=1048576) (O:q.length<=1048576):Ok Tryz.prog 124 [Qw l,.agg [.int .i64 a,.int .i64 b,.int .i64 c,.str p,.str q]] (.bool (S6 l a b c p q)):=by
 refine Ok.n6 tfol Tryz.func124 Quw (QAk Z) ?_;show TW _ _ tf124.body _ _;have T:=C.1;refine aS ?_;refine Qt (ι:=Nat) (λi=>⟨[(0,Qw l),(3,.ref 3 0 0),(5,.int .i64 i)],[(3,⟨[[.int .i64 a,.int .i64 b,.int .i64 c,.str p,.str q]],5,66,true⟩)]⟩) (λi=>i<=l.length/\(l.take i).any (λs=>Sa s a b c p q)=false) (λi=>l.length - i) 0 ?_ ?_ ?_;exact Ql (l:=[0,3,5]) (lH:=[3]) (kp3 Z Z Z) (Qa Z Qb) Z Z Z;simp;intro i M;refine aB ?_ ?_;intro h1;refine Qg (Q2 C) Z Z (.inr Z) (aR ?_ ?_);intro h2;refine Qr (ds0:=[]) (Fk (C.at (i:=i) Wa).1.1 (C.at (i:=i) Wa).1.2 (C.at (i:=i) Wa).2.1 (C.at (i:=i) Wa).2.2 hp O) Z Z (.inr Z) Z Z (aB ?_ ?_);intro G
 first
  |exact(PK (i:=i) Wa M.2).symm
  |exact(PL h2).symm
  |exact(QbQ h2 (i:=i) Wa G).symm
 intro G;refine Qc (i+1) ?_ ?_ ?_;exact Ql (l:=[0,3,5]) (lH:=[3]) (kp3 Z Z Z) (Qa Z Qb) Z Z Z;exact⟨Wa,MX Wa M.2 G⟩;omega;intro h2
 grind [PL]
 intro h1;refine QH Z (aK ?_)
 grind [PK]
theorem J7 (C:Sm s.1) (O:Sm s.2):Ok Tryz.prog 122 [Lu s] (.bool (JW s)):=by
 refine Ok.n6 tfol Tryz.func122 Quu (QAk Z) ?_;show TW _ _ tf122.body _ _;have V:=C.1;refine aS ?_;refine Qg (Q2 C) Z Z (.inr Z) (aB ?_ ?_);intro h1;refine Qs Z (aK ?_)
 grind [MG]
 intro h1;refine Qg (Q2 O) Z Z (.inr Z) (aB ?_ ?_);intro h2
 grind [MG]
 intro h2;refine Qt (ι:=Nat) (λi=>⟨[(1,.ref 1 0 0),(3,.int .i64 i)],[(1,⟨[[Qw s.1,Qw s.2]],2,79,true⟩)]⟩) (λi=>i<=s.1.length/\(s.1.take i).all (λx=>YA x.1&&YA x.2)=true) (λi=>s.1.length - i) 0 ?_ ?_ ?_;exact Ql (l:=[1,3]) (lH:=[1]) (kp2 Z Z) (Qa Z Qb) Z Z Z;simp;intro i T;refine aB ?_ ?_;intro U;refine Qg (X7) Z Z (.inr Z) (aB ?_ ?_);intro M;refine Qs Z (aK ?_)
 first
  |exact(LX (i:=i) h1 h2 Wa T.2).symm
  |exact(Sc (i:=i) Wa (.inl M)).symm
  |exact(Sc (i:=i) Wa (.inr G)).symm
  |exact(MG (.inl h1)).symm
  |exact(MG (.inr h2)).symm
 intro M;refine Qg (X7) Z Z (.inr Z) (aB ?_ ?_);intro G
 first
  |exact(LX (i:=i) h1 h2 Wa T.2).symm
  |exact(Sc (i:=i) Wa (.inl M)).symm
  |exact(Sc (i:=i) Wa (.inr G)).symm
  |exact(MG (.inl h1)).symm
  |exact(MG (.inr h2)).symm
 intro G;refine Qc (i+1) ?_ ?_ ?_;exact Ql (l:=[1,3]) (lH:=[1]) (kp2 Z Z) (Qa Z Qb) Z Z Z
 grind [Q9,YA]
 omega;intro U
 grind [LX]
theorem J6 (G:Sm s.1) (C:Sm s.2) (hp:p.length<=1048576) (M:q.length<=1048576):Ok Tryz.prog 86 [Lu s,.agg [.int .i64 a,.int .i64 b,.int .i64 c,.str p,.str q]] (.bool (FY s a b c p q)):=by
 refine Ok.n6 tfol Tryz.func86 Qz7 (QAk Z) ?_;show TW _ _ tf86.body _ _;refine aS ?_;refine Qg (J7 G C) Z Z (.inr Z) (aB ?_ ?_);intro h1;refine Qs Z (aK ?_)
 grind [FY]
 intro h1;refine Qg (Qv hp M) Z Z (.inr Z) (aB ?_ ?_);intro h2
 grind [FY]
 intro h2;refine aB ?_ ?_;intro O;refine Qg (J4 G hp M) Z Z (.inr Z) (aK ?_)
 grind [FY]
 intro O;refine Qg (J4 C hp M) Z Z (.inr Z) (aK ?_)
 grind [FY]
theorem J5 {l:List Cu} {c:Cu} (V:l.length<=9000000) (C:∀x∈l,Cu.sm x) (G:Cu.sm c):Ok Tryz.prog 290 [SY l,.agg (dCu c)] (SY (KR l c)):=by
 refine Ok.n6 tfol Tryz.func290 QvE (QAk Z) ?_;show TW _ _ tf290.body _ _;refine aS ?_;refine Qt (ι:=Nat) (λk=>⟨[(0,SY l),(3,.ref 3 0 0),(5,.int .i64 k)],[(3,⟨[dCu c],7,190,true⟩)]⟩) (λk=>k<=l.length/\KR l c=l.take k++KR (l.drop k) c) (λk=>l.length - k) 0 ?_ ?_ ?_;exact Ql (l:=[0,3,5]) (lH:=[3]) (kp3 Z Z Z) (Qa Z Qb) Z Z Z;simp;intro k M;refine aB ?_ ?_;intro h1;refine Qr (ds0:=[1,0]) (QR (C _ (QAp Wa)).1 (C _ (QAp Wa)).2 G.1 G.2) Z Z (.inr Z) Z Z (aB ?_ ?_);intro h2;refine Qc (k+1) ?_ ?_ ?_;exact Ql (l:=[0,3,5]) (lH:=[3]) (kp3 Z Z Z) (Qa Z Qb) Z Z Z;exact⟨Wa,QfP Wa h2 M.2⟩;omega;intro h2;refine aB ?_ ?_;intro U;refine Qr (ds0:=[1,0]) (QR (C _ (QAp Wa)).1 (C _ (QAp Wa)).2 G.1 G.2) Z Z (.inr Z) Z Z (aB ?_ ?_);intro T;refine QM Z ?_;rw[QfO (k:=k) Wa Wp M.2];rfl;intro T;refine XT Z Z Z Z Wa Wa Wb Bn Z (Md (ds0:=[5,1,0]) Z Z (λ_ h=>⟨Qje,h⟩) Z (.inl Z) Wc Wb Wb Z Z (aK ?_));refine Qn Z Z (YK (ds0:=[1,0]) Z Z Wp ⟨_,rfl,rfl,rfl,rfl,rfl⟩ Z Z Wc Z Z Wb Wb Z Z (aK ?_));refine XT Z Z Z Z Wa Wb Wc Bn Z (YK (ds0:=[0]) Z Z Wf ⟨rfl,Qje,rfl⟩ Z Z Wc Z Z Wb Wb Z Z (aK ?_));refine QM Z ?_;rw[Qb9 (k:=k) (by first |exact .inl Wa |exact .inr ⟨Wa,by trivial,by trivial⟩) M.2];simp[XS,D.fz,D.n7,JS,lk,D.can,D.z6,SY,D.l4,(show∀a b:Nat,a+1+b=a+(b+1) fromλa b=>Wa),QAA (show(l.map dCu).length<=l.length by simp)]<;>rfl;intro U
 grind
 intro h1;refine QH Z (aB ?_ ?_);intro O
 grind
 intro O;refine QH Z (aK ?_);refine XT Z Z Z Z Wa Wa Wb Bn Z (Md (ds0:=[5,1,0]) Z Z (λ_ h=>⟨Qje,h⟩) Z (.inl Z) Wc Wb Wb Z Z (aK ?_));refine Qn Z Z (YK (ds0:=[1,0]) Z Z Wp ⟨_,rfl,rfl,rfl,rfl,rfl⟩ Z Z Wc Z Z Wb Wb Z Z (aK ?_));refine XT Z Z Z Z Wa Wb Wc Bn Z (YK (ds0:=[0]) Z Z Wf ⟨rfl,Qje,rfl⟩ Z Z Wc Z Z Wb Wb Z Z (aK ?_));refine QM Z ?_;rw[Qb9 (k:=k) Wa M.2];simp_all [XS,D.fz,D.n7,JS,lk,D.can,D.z6,SY,D.l4,QAA,dCu]
theorem YN {l:List (Cu × Cu)} (C:Sm l):Ok Tryz.prog 280 [Qw l] (SY (Ye l)):=by
 refine Ok.n6 tfol Tryz.func280 Qvz (QAk Z) ?_;show TW _ _ tf280.body _ _;have G:=C.1;refine aS ?_;refine Qg (Yt) Z Z (.inl Z) (Qg (YM) Z Z (.inl Z) (Qn Z Z (aK ?_)));refine Qt (ι:=Nat) (λi=>⟨[(0,Qw l),(3,SY (Ye (l.take i))),(4,.int .i64 i)],[]⟩) (λi=>i<=l.length) (λi=>l.length - i) 0 ?_ ?_ ?_;exact le_trans (R4 7 _ We) (Ql (l:=[0,3,4]) (lH:=[]) (kp3 Z Z Z) Qb Z Z Z);omega;intro i M;refine aB ?_ ?_;intro h1;refine Qr (ds0:=[1,0]) (J5 (QAD (PO C i).1 Wa) (PO C i).2 (C.2 _ (QAp Wa)).1) Z Z (.inl Z) Z Z (aK ?_);refine Qr (ds0:=[0]) (J5 (QAD (PP _ _) (by grind [PO])) (LW (PO C i).2 (C.2 _ (QAp Wa)).1) (C.2 _ (QAp Wa)).2) Z Z (.inl Z) Z Z (aK ?_);refine Qc (i+1) ?_ ?_ ?_;exact Ql (l:=[0,3,4]) (lH:=[]) (kp3 Z Z Z) Qb (by grind [QiO]) Z Z;omega;omega;intro h1;refine QM Z ?_;rw[QAA (Wa:l.length<=i)];rfl
theorem YO {l:List (Cu × Cu)} {x y:Cu} (M:l.length<=9000000) (C:∀s∈l,Cu.sm s.1/\Cu.sm s.2) (hx:Cu.sm x) (G:Cu.sm y):s6 Tryz.prog 282 [.s4 500000 l.length,.agg (dCu x),.agg (dCu y)] [(500000,⟨l.map JT,14,193,true⟩)] (.s4 500000 (KI l x y).length) [(500000,⟨(KI l x y).map JT,14,193,true⟩)]:=by
 refine s6.mv tfol Tryz.func282 QvB (QAk Z) Z ?_;show TW _ _ tf282.body _ _;refine aX ?_ ?_;intro h1;refine HL (ds0:=[5,4,2,1,0]) Z Z Z Wc Wa Wa Z Z Z (aK ?_);refine Qx (ds0:=[2,1,0]) (cs:=[_,_,_,_,_,_,_]) Z (Mj Z (YC Wa Wa)) Z Z Z Z (aK ?_);refine Qr (ds0:=[1,0]) (QR (C _ (QAp Wa)).2.1 (C _ (QAp Wa)).2.2 hx.1 hx.2) Z Z (.inr Z) Z Z (aB ?_ ?_);intro h2;refine YX Z Z Z Wc Wa Wa Z (aK ?_);refine Ke Z Z (YC Wa Wa) Z Z Z Z Z (aK ?_);refine ZT Z ?_ (QaX ?_);rw[CQ (i:=((l.length:Int) - 1).toNat) Wa h2];simp[F7,D.fz,D.n7,small,D.can,D.z6];rw[CQ (i:=((l.length:Int) - 1).toNat) Wa h2];simp[lk,List.map_set,JT,dCu,setRow,D.l4];intro h2;refine Qn Z Z (Zu Z Z (λ_ h=>ZN Z Z Z h) Z Wc Z Z Z Wb Wb (aK ?_));refine ZT Z ?_ (QaX ?_);rw[NK (.inr ⟨((l.length:Int) - 1).toNat,Wa,h2⟩)];simp[F7,D.fz,D.n7,small,D.can,D.z6];rw[NK (.inr ⟨((l.length:Int) - 1).toNat,Wa,h2⟩)];simp[lk,JT,dCu,D.l4];intro h1;refine QH Z (aK ?_);refine Qn Z Z (Zu Z Z (λ_ h=>ZN Z Z Z h) Z Wc Z Z Z Wb Wb (aK ?_));have h0:l=[]:=QAW Wa;refine ZT Z ?_ (QaX ?_)
 grind [NK,F7,D.fz,D.n7,small,D.can,D.z6]
 (repeat clear hK K);simp_all [NK,lk,JT,dCu]
theorem JA {l:List (Cu × Cu)} (G:Sm l):Ok Tryz.prog 286 [Qw l] (.u7 [Qw (QaG l),.bool (l.all Gt)]):=by
 refine Ok.n6 tfol Tryz.func286 QvC (QAk Z) ?_;show TW _ _ tf286.body _ _;have hn:=G.1;have O:=Gr l;refine aS ?_;refine Qt (ι:=Nat) (λi=>⟨[(0,Qw l),(4,.int .i64 i)],[]⟩) (λi=>i<=l.length/\(l.take i).all Gt=true) (λi=>l.length - i) 0 ?_ ?_ ?_;exact QB (kp2 Z Z);simp;intro i M;refine aB ?_ ?_;intro h1;refine Qg (Z0 (G.at (i:=i) Wa).1.1 (G.at (i:=i) Wa).1.2 (G.at (i:=i) Wa).2.1 (G.at (i:=i) Wa).2.2) Z Z (.inr Z) (aB ?_ ?_)
 ·intro h2
  first
   |exact QX rfl rfl ⟨by rw[QaG,if_neg (by rw[Jv (i:=i) Wa Wp];simp)];rfl,by rw[Jv (i:=i) Wa Wp];rfl⟩
   |(
    have ha:l.all Gt=true:=Mh Wa M.2;exact QX Z Z ⟨by rw[QaG,if_pos ha,C.done Wa];simp[XS,D.fz,D.n7,JS,lk,D.can,D.z6,Qw],by rw[ha];rfl⟩)
 intro h2;refine Qc (i+1) ?_ ?_ ?_;exact QB (kp2 Z Z);exact⟨Wa,Q9 Wa M.2 Wp⟩;omega;intro h1;refine Qg (YN G) Z Z (.inl Z) (aK ?_);refine Qt (ι:=Nat × List (Cu × Cu)) (λ⟨i,out⟩=>⟨[(0,Qw l),(5,.s4 5 out.length),(6,SY (Ye l)),(7,.int .i64 i)],[(5,⟨out.map JT,14,193,true⟩)]⟩) (λ⟨i,out⟩=>i<=(Ye l).length/\b9 (mIn l) (Ye l) i out) (λ⟨i,out⟩=>(Ye l).length - i) (0,[]) ?_ ?_ ?_;exact le_trans (Q8 5 5 14 193 Z Z) (Ql (l:=[0,5,6,7]) (lH:=[5]) (kp4 Z Z Z Z) (Qa Z Qb) Z Z Z)
 (repeat clear hK K);simp_all [b9.zero]
 intro ⟨i,out⟩ M;obtain⟨U,C⟩:=M;have T:=C.1;dsimp only;refine aB ?_ ?_;intro Y;refine Qr (ds0:=[]) (Yi G (Zm G _ (QAp Wa)) (Zm G _ (QAp Wa))) Z Z (.inr Z) Z Z (aR ?_ ?_);intro V;refine T3 (ds0:=[0]) (QeD (k:=5) rfl rfl rfl We rfl We (by simp[D.ids,D.l4,dCu]) ⟨.s4 5 out.length,by simp,by simp[D.ids,D.l4]⟩ rfl rfl (YO Wa C.2.1 (Zm G _ (QAp Wa)) (Zm G _ (QAp Wa)))) (λ_ h=>by cases h) rfl rfl (aK ?_);refine Qc (i+1,KI out (Ye l)[i] (Ye l)[i+1]) ?_ ?_ ?_;exact le_trans (QaB (l:=[0,6,7]) (t:=50) (u:=5) 5 (kp3 Z Z Z) Z Z Z Z) (Ql (l:=[0,5,6,7]) (lH:=[5]) (kp4 Z Z Z Z) (Qa Z Qb) Z Z Z);exact⟨Wa,C.take (Zm G) Wa Wa⟩;omega;intro V;refine Qc (i+1,out) ?_ ?_ ?_;exact Ql (l:=[0,5,6,7]) (lH:=[5]) (kp4 Z Z Z Z) (Qa Z Qb) Z Z Z;exact⟨Wa,C.skip Wa Wa⟩;omega
 ·intro Y
  first
   |exact QX rfl rfl ⟨by rw[QaG,if_neg (by rw[Jv (i:=i) Wa (by assumption)];simp)];rfl,by rw[Jv (i:=i) Wa (by assumption)];rfl⟩
   |(
    have ha:l.all Gt=true:=Mh Wa M.2;exact QX Z Z ⟨by rw[QaG,if_pos ha,C.done Wa];simp[XS,D.fz,D.n7,JS,lk,D.can,D.z6,Qw],by rw[ha];rfl⟩)
variable {a:List (Cu × Cu)}
theorem Mn {b:List (Cu × Cu)} (ha:Sm a) (hb:Sm b) (C:a.length+b.length<=4194304):Ok Tryz.prog 276 [Qw a,Qw b] (Qw (Qp0 a b)):=by
 refine Ok.n6 tfol Tryz.func276 Qvy (QAk Z) ?_;show TW _ _ tf276.body _ _;refine aS ?_;refine Qg (Q2 ha) Z Z (.inr Z) (aB ?_ ?_);intro h1;refine Qs Z (aK ?_);refine QM Z ?_;rw[Qp0,if_neg Wb];rfl;intro h1;refine Qg (Q2 hb) Z Z (.inr Z) (aB ?_ ?_);intro h2;refine QM Z ?_;rw[Qp0,if_neg Wb];rfl;intro h2;refine Qa8 Z Z (λ_ h=>Pl QcJ h) Z (.inl Z) Wc Wb Wb (aK ?_);refine Zu Z Z (λ_ h=>Pl QcJ h) Z Wc Z Z Z Wb Wb ?_;apply Qd6 [17] Wc;simp[St.s8,St.freeze,rem,D.fz,D.n7,u4.fz,lk,D.z2];exact⟨rfl,rfl⟩;exact JA (ha.app hb C);rfl;simp[XS,D.fz,D.n7,JS,D.can,D.z6,Qw];exact .inl Z;refine aK ?_;refine QM Z ?_;rw[Qp0,if_pos ⟨h1,h2⟩];rfl
theorem Nk (ha:Sm a):Ok Tryz.prog 288 [Qw a] (Qw (QdA a)):=by
 refine Ok.n6 tfol Tryz.func288 QvD (QAk Z) ?_;show TW _ _ tf288.body _ _;have V:=ha.1;have G:=Gr a;refine aS ?_;refine Qg (Q2 ha) Z Z (.inr Z) (aB ?_ ?_);intro h1;refine QM Z ?_;rw[QdA,if_neg Wb];rfl;intro h1;refine Qg (YN ha) Z Z (.inl Z) (aK ?_);refine Qt (ι:=Nat × List (Cu × Cu)) (λ⟨i,out⟩=>⟨[(0,Qw a),(3,.s4 3 out.length),(4,SY (Ye a)),(5,.int .i64 i)],[(3,⟨out.map JT,14,193,true⟩)]⟩) (λ⟨i,out⟩=>i<=(Ye a).length/\b9 (λx y=>!mIn a x y) (Ye a) i out) (λ⟨i,out⟩=>(Ye a).length - i) (0,[]) ?_ ?_ ?_;exact le_trans (Q8 3 3 14 193 Z Z) (Ql (l:=[0,3,4,5]) (lH:=[3]) (kp4 Z Z Z Z) (Qa Z Qb) Z Z Z)
 (repeat clear hK K);simp_all [b9.zero]
 intro ⟨i,out⟩ T;obtain⟨O,C⟩:=T;have M:=C.1;dsimp only;refine aB ?_ ?_;intro h2;refine Qr (ds0:=[0]) (Yi ha (Zm ha _ (QAp Wa)) (Zm ha _ (QAp Wa))) Z Z (.inr Z) Z Z (aB ?_ ?_);intro U;refine T3 (ds0:=[0]) (QeD (k:=3) rfl rfl rfl We rfl We (by simp[D.ids,D.l4,dCu]) ⟨.s4 3 out.length,by simp,by simp[D.ids,D.l4]⟩ rfl rfl (YO Wa C.2.1 (Zm ha _ (QAp Wa)) (Zm ha _ (QAp Wa)))) (λ_ h=>by cases h) rfl rfl (aK ?_);refine Qc (i+1,KI out (Ye a)[i] (Ye a)[i+1]) ?_ ?_ ?_;exact le_trans (QaB (l:=[0,4,5]) (t:=40) (u:=3) 3 (kp3 Z Z Z) Z Z Z Z) (Ql (l:=[0,3,4,5]) (lH:=[3]) (kp4 Z Z Z Z) (Qa Z Qb) Z Z Z);exact⟨Wa,C.take (Zm ha) Wa Wb⟩;omega;intro U;refine Qc (i+1,out) ?_ ?_ ?_;exact Ql (l:=[0,3,4,5]) (lH:=[3]) (kp4 Z Z Z Z) (Qa Z Qb) Z Z Z;exact⟨Wa,C.skip Wa Wb⟩;omega
 ·intro h2;refine QM Z ?_;rw[QdA,if_pos h1,C.done Wa];simp[XS,D.fz,D.n7,JS,lk,D.can,D.z6,Qw]
end Go.Proofs
namespace M25
open Go Go.Abs M3
variable {i:Nat} {s:Je} {u:Int}
structure QN where
 u:Int
 s:Je
variable {x:QN}
structure CandT where
 v:Vr
 sh:Int
 ns:List (List QN)
 bs:List QN
variable {l:List CandT}
structure Rj where
 n:List UInt8
 f:List UInt8
 cs:List CandT
abbrev Qe:=List Rj
variable {w:Qe}
def Fo (x:QN):List D:=[.int .i64 x.u,Qw x.s.1,Qw x.s.2]
def ZR (l:List QN):D:=.sl (l.map Fo)
def Xm (l:List (List QN)):D:=.sl (l.map λr=>[ZR r])
def RE (c:CandT):List D:=[.int .i64 c.v.a,.int .i64 c.v.b,.int .i64 c.v.c,.str c.v.p,.str c.v.q,.int .i64 c.sh,Xm c.ns,ZR c.bs]
def Qbp (l:List CandT):D:=.sl (l.map RE)
def Zi (u:Rj):List D:=[.str u.n,.str u.f,Qbp u.cs]
def QW (w:Qe):D:=.agg [.sl (w.map Zi)]
structure Hz where
 u:Int
 m:Int
 deriving DecidableEq
structure HM where
 u:Int
 m:Int
 l:Int
 c:Int
 deriving DecidableEq
structure RowT where
 k:Int
 u:Int
 a:Int
 b:Int
 t:List Hz
abbrev Qep (a b:Int):Int:=JG .and .i64 a b
abbrev bor (a b:Int):Int:=JG .or .i64 a b
abbrev QwC (a b:Int):Int:=JG .andNot .i64 a b
def uAt (w:Qe) (u:Int):Option Rj:=if u<0 then none else w[u.toNat]?
theorem QkE (h0:0<=u) (h:u<w.length):uAt w u=some (w[u.toNat]'Wa):=by
 (repeat clear hK K);simp_all [uAt]
theorem Qod (h:u<0\/(w.length:Int)<=u):uAt w u=none:=by
 unfold uAt
 grind
def QpX (w:Qe) (u:Int):Int:=match uAt w u with
 |none=>0
 |some x=>2 ^ (min x.cs.length 16+1) - 1
def Qhv (v:Vr):Prop:=v.p.length<=1048576/\v.q.length<=1048576
structure WSm (w:Qe):Prop where
 len:w.length<=48
 cs:∀u∈w,u.cs.length<=16
 vs:∀u∈w,∀c∈u.cs,Qhv c.v
 ns:∀u∈w,∀c∈u.cs,c.ns.length<=1000/\c.bs.length<=1000
 nl:∀u∈w,∀c∈u.cs,∀r∈c.ns,r.length<=1000
 nw:∀u∈w,∀c∈u.cs,∀r∈c.ns,∀x∈r,Sm x.s.1/\Sm x.s.2
 bw:∀u∈w,∀c∈u.cs,∀x∈c.bs,Sm x.s.1/\Sm x.s.2
def Qma (s:Je) (v:Vr):Bool:=FY s v.a v.b v.c v.p v.q
def F0 (s:Je) (l:List CandT):Nat->Int
 |0=>0
 |n+1=>F0 s l n+match l[n]? with
  |some c=>if Qma s c.v=true then 2 ^ (n+1)else 0
  |none=>0
theorem Qcf (s:Je) (l:List CandT):∀n,0<=F0 s l n/\F0 s l n<=2 ^ (n+1) - 2
 |0=>by simp[F0]
 |n+1=>by
  obtain⟨h1,h2⟩:=Qcf s l n
  grind [F0]
theorem QfV (h:i<l.length) (hp:Qma s l[i].v=true):F0 s l (i+1)=F0 s l i+2 ^ (i+1):=by
 rw[F0,QA7 h];grind
theorem QiU (h:i<l.length) (hp:Qma s l[i].v=false):F0 s l (i+1)=F0 s l i:=by
 rw[F0,QA7 h];grind
def Qkc (w:Qe) (x:QN):Int:=match uAt w x.u with
 |none=>0
 |some un=>F0 x.s un.cs (min un.cs.length 16)
theorem QfM (h0:0<=x.u) (h:x.u<w.length):Qkc w x=F0 x.s (w[x.u.toNat]'Wa).cs (min (w[x.u.toNat]'Wa).cs.length 16):=by
 rw[Qkc,QkE h0 h]
theorem QiR (h:x.u<0\/(w.length:Int)<=x.u):Qkc w x=0:=by rw[Qkc,Qod h]
def CW (w:Qe) (c:List Int) (u:Int):Int:=match uAt w u with
 |none=>0
 |some x=>if(c.length:Int)<=u then 0 else if c.getD u.toNat 0< -1\/((min x.cs.length 16:Nat):Int)<=c.getD u.toNat 0 then 0 else 2 ^ (c.getD u.toNat 0+1).toNat
def inW (w:Qe) (u:Int):Bool:=decide (0<=u)&&decide (u<w.length)
def QcV (l:List Hz):Nat->List Hz
 |0=>[]
 |n+1=>QcV l n++l.filter λt=>decide (t.u=((n:Nat):Int))
def CS (w:Qe) (l:List HM) (u:Int):Int:=l.foldl (λa s=>if s.u=u/\inW w u=true then s.m else a) (QpX w u)
def QpY (l:List HM):Int:=match l.getLast? with
 |none=>0
 |some s=>s.l
def QiP (l:List HM) (u:Int):Bool:=l.any λs=>decide (s.u=u)&&decide (s.c= -1)
def Qty (w:Qe) (l:List HM) (inc:List Hz):Bool:=inc.all λt=>decide (CV (CS w l t.u) t.m=2)
def L7 (have_:Int->Int):List Hz->Int->Int
 |[],at_=>at_
 |t::r,at_=>if CV (have_ t.u) t.m=0 then -1 else if CV (have_ t.u) t.m=1 then(if 0<=at_ then -1 else L7 have_ r t.u)else L7 have_ r at_
def QpZ (w:Qe) (l:List HM) (inc:List Hz):Int:=L7 (CS w l) inc (-1)
def QcS (w:Qe) (l:List HM):Nat->List (List Hz)->Int × Int
 |_,[]=>(-1, -1)
 |i,x::r=>if Qty w l x=true then(i, -1)else if 0<=QpZ w l x then(i,QpZ w l x)else QcS w l (i+1) r
def Qtx (w:Qe) (db:List (List Hz)) (l:List HM):Int × Int:=QcS w l 0 db
variable {b:u4} {d:D} {k n:Nat}
section
variable {fr:QAi} {H:QAh} {t u:Nat}
theorem QhV (hb:lk H k=some b) (hp:b.pr=true) (C:n=b.rows.length) (hd:.sl b.rows=d):XS ⟨fr,H⟩ (.s4 k n)=d:=by
 unfold XS;rw[Qtl (S:=JS) rfl hb hp C];exact hd
theorem Xb {e:AExit} (h:lk fr t=some (.s4 k n)) (hb:lk H k=some b) (hp:b.pr=true) (C:n=b.rows.length) (hd:.sl b.rows=d) (he:e=.ret\/e=.normal:=by first |exact .inl rfl |exact .inr rfl):r7 [.tmp t] d e ⟨fr,H⟩:=
 QM h (QhV hb hp C hd) he
end
theorem CX {w:Qe} {c:List Int} {u:Int} (h0:0<=u) (h1:u<w.length) (h2:u<c.length) (h:¬c[u.toNat]'Wa< -1) (C:¬min (((w[u.toNat]'Wa).cs.length:Nat):Int) 16<=c[u.toNat]'Wa):CW w c u=2 ^ (c[u.toNat]'Wa+1).toNat:=by
 rw[CW,QkE h0 h1]
 grind
def Qt2 (l:List Hz) (u:Nat) (i:Nat):List Hz:=(l.take i).filter λt=>decide (t.u=((u:Nat):Int))
def de (l:List Hz) (u i:Nat):List Hz:=QcV l u++Qt2 l u i
variable {x:Int}
theorem Qa7 (e:Int):IntKind.i64.wrap e=(BitVec.ofInt 64 e).toInt:=by
 have hb:(BitVec.ofInt 64 e).toInt=if e % 18446744073709551616<9223372036854775808 then e % 18446744073709551616 else e % 18446744073709551616 - 18446744073709551616:=by
  grind
 rw[hb];unfold IntKind.wrap;simp only[IntKind.bits,IntKind.signed,QA6]
 grind
theorem Si (b:BitVec 64):BitVec.ofInt 64 (b.toNat:Int)=b:=by
 simp
theorem Qpc (x y:Int):BitVec.ofInt 64 (Qep x y)=BitVec.ofInt 64 x&&& BitVec.ofInt 64 y:=by
 show BitVec.ofInt 64 (IntKind.i64.wrap ((BitVec.ofInt 64 x&&& BitVec.ofInt 64 y).toNat:Int))=_;rw[Qa7,BitVec.ofInt_toInt,Si]
theorem Qs0 (x y:Int):BitVec.ofInt 64 (bor x y)=BitVec.ofInt 64 x|||BitVec.ofInt 64 y:=by
 show BitVec.ofInt 64 (IntKind.i64.wrap ((BitVec.ofInt 64 x|||BitVec.ofInt 64 y).toNat:Int))=_;rw[Qa7,BitVec.ofInt_toInt,Si]
theorem QiG (h:I64 x):IntKind.i64.wrap x=x:=Z5 h.1 h.2
theorem QjP (h:I64 x):(BitVec.ofInt 64 x).toInt=x:=by rw[<- Qa7,QiG h]
theorem Qmb (x y:Int):I64 (Qep x y):=BG _
theorem QpP (x y:Int):I64 (bor x y):=BG _
def tb (x:Int) (i:Nat):Bool:=(BitVec.ofInt 64 x).getLsbD i
theorem Qq0 (x y:Int) (i:Nat):tb (Qep x y) i=(tb x i&&tb y i):=by rw[tb,Qpc,BitVec.getLsbD_and];rfl
theorem Qq2 (x y:Int) (i:Nat):tb (bor x y) i=(tb x i||tb y i):=by rw[tb,Qs0,BitVec.getLsbD_or];rfl
theorem Qq1 (x:Int) (h:64<=i):tb x i=false:=BitVec.getLsbD_of_ge _ i h
theorem QkD {y:Int} (hx:I64 x) (C:I64 y) (h:∀i,tb x i=tb y i):x=y:=by
 rw[<- QjP hx,<- QjP C]
 congr 1
 exact BitVec.eq_of_getLsbD_eq λi _=>h i
theorem DF (i:Nat):tb 0 i=false:=by
 show(BitVec.ofInt 64 0).getLsbD i=false;simp
theorem Qam (hx:I64 x):x=0↔∀i,tb x i=false:=by
 constructor;rintro rfl i;exact DF i;intro h;exact QkD hx ⟨Wa,Wa⟩ λi=>by rw[h i,DF]
theorem Qg2 (n:Nat) (h:i<64):tb (n:Int) i=n.testBit i:=by
 grind [tb,BitVec.getLsbD_ofNat]
theorem Qg3 (hk:k<64) (i:Nat):tb ((2:Int) ^ k) i=decide (i=k):=by
 have e:((2 ^ k:Nat):Int)=(2:Int) ^ k:=by simp
 by_cases h:i<64
 rw[<- e,Qg2 _ h,Nat.testBit_two_pow]
 grind
 grind [Qq1]
theorem QhU {m:Int}:Qep x m=0↔∀i,tb x i=true->tb m i=false:=by
 rw[Qam (Qmb x m)];refine forall_congr' λi=>?_;rw[Qq0];simp
def Lo (x:Int):Prop:=0<=x/\x<131072
theorem Qbh (hk:k<64):Qep x (2 ^ k)=0↔tb x k=false:=by
 rw[QhU]
 grind [Qg3]
def Plain (w:Qe) (l:List HM):Prop:=∀s∈l,Lo s.m
structure QoT (w:Qe) (db:List (List Hz)) (l:List HM) (a:Nat) (k:Nat):Prop where
  ha:a<db.length
  hk:k<db[a].length
  eq:Qtx w db l=((a:Int),db[a][k].u)
  one:CV (CS w l db[a][k].u) db[a][k].m=1
  two:∀j,∀hj:j<db[a].length,j≠k->CV (CS w l db[a][j].u) db[a][j].m=2
def Qxk (w:Qe) (l:List HM) (t:Hz) (c:Int):HM:=⟨t.u,QwC (CS w l t.u) t.m,QpY l,c⟩
def qf (n:Nat) (l:List (Cu × Cu)):Prop:=l.length<=n/\∀s∈l,Cu.sm s.1/\Cu.sm s.2
theorem qf.sm {n:Nat} {l:List (Cu × Cu)} (h:qf n l) (C:n<=1048576):Sm l:=⟨QAD h.1 (QAD C We),h.2⟩
theorem qf.nil (n:Nat):qf n []:=⟨QAw _,by simp⟩
def QsK (n:Nat) (s:Je):Prop:=qf n s.1/\qf n s.2
theorem P7 (e a b c:Int) (f:Bool):Cu.sm ⟨e,a,b,c,[],[],f⟩:=⟨QAw _,QAw _⟩
theorem Qim {a b c:Int} {p q:List UInt8} (hp:p.length<=1048576):QsK 1 (Y9 a b c p q):=by
 unfold Y9;split;exact⟨qf.nil _,qf.nil _⟩;split;refine⟨qf.nil _,⟨QAK _,λs C=>?_⟩⟩;simp only[QAt]at C;subst C;exact⟨⟨hp,QAw _⟩,⟨hp,QAw _⟩⟩;refine⟨⟨QAK _,λs C=>?_⟩,qf.nil _⟩;simp only[QAt]at C;subst C;constructor;unfold R9;split;exact P7 ..
 grind [P7]
 unfold NJ;split;exact P7 ..
 grind [P7]
def QsO:Je:=([(ZS,XW)],[(ZS,XW)])
theorem QjJ:QsK 1 QsO:=by
 have h:qf 1 [(ZS,XW)]:=⟨QAK _,λs C=>by simp only[QAt]at C;subst C;trivial⟩
 trivial
def fe (i:Nat):Nat:=4*2 ^ i
def QsL (s:Je):Prop:=QsK 600000 s
def v0:Vr:=⟨0,0,0,[],[]⟩
def VsL (l:List Vr):Prop:=l.Sublist versions\/l=[v0]
def QoY (s:Je):Prop:=QsL s/\JW s=true
structure CR where
 v:Vr
 x:D
 y:D
 z:D
def dCR (r:CR):List D:=[.int .i64 r.v.a,.int .i64 r.v.b,.int .i64 r.v.c,.str r.v.p,.str r.v.q,r.x,r.y,r.z]
def QwB (zs:List CR):Prop:=VsL (zs.map CR.v)
structure UR where
 n:List UInt8
 f:List UInt8
 k:Nat
 cs:List CR
def dUR (u:UR):List D:=[.str u.n,.str u.f,.s4 u.k u.cs.length]
structure Fam (H:QAh) (kg ku eu ec:Nat) (us:List UR):Prop where
 ne:ku≠kg
 u:∃pr,lk H ku=some ⟨us.map dUR,3,eu,pr⟩
 c:∀y∈us,y.k≠kg/\∃pr,lk H y.k=some ⟨y.cs.map dCR,8,ec,pr⟩
 v:∀y∈us,y.cs.length<=16/\∀z∈y.cs,Qhv z.v
 vs:∀y∈us,QwB y.cs
def QjF (us:List UR):Prop:=∀j,∀h:j<us.length,us[j].k=500001+j
def zr (v:Vr) (sh:Int):CR:=⟨v,.int .i64 sh,.z7 [],.z7 []⟩
def QoR (u:UR):Prop:=u.cs.length<=4/\∀z∈u.cs,∃v sh,z=zr v sh/\Qhv v
section
variable {l:List Nat} {fr fr1 fr':QAi} {B:QAh} {kg eg eu ec:Nat} {L:List Int} {J:Int} {us:List UR}
end
def u0 (v:Vr):UR:=⟨[],[],500001,[zr v (-1)]⟩
def names5:List (List UInt8):=[[97,110,116],[98,101,101],[99,111,119],[100,111,103],[101,108,107]]
structure UnitsIn (us:List UR):Prop where
 keys:QjF us
 fresh:∀u∈us,QoR u
 first:∃z rest,us=⟨[],[],500001,[z]⟩::rest
def nmR (r:Nat):List UInt8:=names5.getD (r / 2) []
def ftR (r:Nat):List UInt8:=if r % 2=1 then[102]else[]
def shp (u:UR):List UInt8 × List UInt8 × List Vr:=(u.n,u.f,u.cs.map CR.v)
inductive UL:Nat->List (List UInt8 × List UInt8 × List Vr)->Prop
 |base:UL 0 [([],[],[v0])]
 |snoc {b r:Nat} {l:List (List UInt8 × List UInt8 × List Vr)} {vs:List Vr} (h:UL b l) (hb:b<=r) (hr:r<10) (hf:r % 2=1->2<=l.length) (hc:vs.Sublist versions):UL (r+1) (l++[(nmR r,ftR r,vs)])
 |up {b b':Nat} {l:List (List UInt8 × List UInt8 × List Vr)} (h:UL b l) (hb:b<=b'):UL b' l
section
variable {us:List UR} {eu ec eg:Nat} {L:List Int} {J:Int} {b4:u4}
end
def Qo2 (n:Nat) (x:QN):Prop:=0<x.u/\x.u<n/\QoY x.s
structure QjE (n:Nat) (c:CandT):Prop where
 v:Qhv c.v
 nl:c.ns.length<=10
 nr:∀r∈c.ns,(1<=r.length/\r.length<=2)/\∀x∈r,Qo2 n x
 bl:c.bs.length<=1
 bw:∀x∈c.bs,Qo2 n x
def QwE (c:CandT):CR:=⟨c.v,.int .i64 c.sh,Xm c.ns,ZR c.bs⟩
def QsA (n:Nat) (z:CR):Prop:=∃c,z=QwE c/\QjE n c
def QoQ (z:CR):Prop:=∃v sh,z=zr v sh/\Qhv v
structure Prog (n:Nat) (us:List UR) (i k:Nat):Prop where
 keys:QjF us
 len:us.length=n/\2<=n/\n<=11
 cl:∀u∈us,u.cs.length<=4
 done:∀j,∀hj:j<us.length,∀m,∀hm:m<us[j].cs.length,(j<i\/(j=i/\m<k))->QsA n us[j].cs[m]
 fresh:∀j,∀hj:j<us.length,∀m,∀hm:m<us[j].cs.length,¬(j<i\/(j=i/\m<k))->QoQ us[j].cs[m]
 ul:∃b,UL b (us.map shp)
def QxZ (x:Rj):List UInt8 × List UInt8 × List Vr:=(x.n,x.f,x.cs.map CandT.v)
structure WMade (w:Qe):Prop where
 sm:WSm w
 len:2<=w.length/\w.length<=11
 cs:∀u∈w,u.cs.length<=4
 a8:∀u∈w,∀c∈u.cs,QjE w.length c
 ul:∃b,UL b (w.map QxZ)
end M25
namespace M25
open Go Go.Abs M3
inductive Qee (w:Qe) (db:List (List Hz)):List HM->List HM->Prop
 |nil (l:List HM):Qee w db l l
 |cons {l x:List HM} (a k:Nat) (ho:QoT w db l a k) (h:Qee w db (l++[Qxk w l ((db[a]'ho.ha)[k]'ho.hk) a]) x):Qee w db l x
section
variable {w:Qe} {db:List (List Hz)}
end
end M25
namespace M25
open Go Go.Abs M3
end M25
namespace M25
open Go Go.Abs M3
structure Good (w:Qe) (l:List HM):Prop where
 p:Plain w l
 nz:∀u,inW w u=true->CS w l u≠0
 le:∀u i,tb (CS w l u) i=true->tb (QpX w u) i=true
end M25
namespace M25
open Go Go.Abs M3
end M25
namespace M25
open Go Go.Abs M3
end M25
namespace M25
open Go Go.Abs M3
end M25
namespace M25
open M3
variable {i:Nat} {s:List (Cu × Cu) × List (Cu × Cu)} {x:Cu}
def J9 (e a b c:Int) (p q:List UInt8) (f:Bool):Bool:=!decide (e=0)||(!f&&decide (p=[])&&!(decide (a=0)&&(decide (b=0)&&(decide (c=0)&&(decide (p=[])&&(decide (q=[])&&true))))))
def Xj (x:Cu):Bool:=J9 x.e x.a x.b x.c x.p x.q x.f
theorem Qpi {e a b c:Int} {p q:List UInt8} {f:Bool} (h:XX e a b c p q f=true):q=[]:=by
 grind [XX]
theorem Dp (h:x.q=[]):Xj x=YA x:=by
 rw[Xj,YA,J9,Pb,Pa,h]
 grind
theorem N0 (h:YA x=true):Xj x=true:=by
 grind [YA,Pb,Pa,Xj,J9]
theorem Qp3 {l:List (Cu × Cu)} (h:JV l=true) {s:Cu × Cu} (C:s∈l):s.1.q=[]/\s.2.q=[]:=by
 obtain⟨i,hi,rfl⟩:=QBF.1 C;have:=QAu.1 h i (QAG.2 hi);rw[QaK hi,QAo]at this;have h1:=this.1;simp only[Gt,Sb,QAo]at h1
 grind [Qpi]
theorem PV (hi:s.1.length<=i) (h:(s.1.take i).all (λx=>Xj x.1&&Xj x.2)=true):JW s=(JV s.1&&JV s.2):=by
 rw[QAA hi]at h;rw[JW];cases h1:JV s.1 with
 |false=>rfl
 |true=>
  have:(s.1.all λx=>YA x.1&&YA x.2)=true:=by
   rw[QAu]at h ⊢;intro x hx
   grind [Qp3,Dp]
  grind
theorem PU (hi:i<s.1.length) (h:Xj s.1[i].1=false\/Xj s.1[i].2=false):JW s=false:=
 Sc hi (h.imp (λh=>by grind [N0]) (λh=>by grind [N0]))
open Go Go.Abs
def QxF {α:Type} (p:α->Bool) (l:List α):Int:=match l.findIdx? p with
 |some i=>i
 |none=>-1
structure PathOk (w:Qe) (l:List HM) (i:Nat) (x:Int):Prop where
 dec:0<=x↔QiP l i=true
 lo: -1<=x
 left:0<=x->x<16/\CS w l i=2 ^ (x+1).toNat
theorem Qlz {a:Int} {n:Nat} (C:n<=60) (h0:0<=a) (h:a<2 ^ n):bor a (2 ^ n)=a+2 ^ n:=by
 obtain⟨m,rfl⟩:=Int.eq_ofNat_of_zero_le h0;have hp:((2 ^ n:Nat):Int)=(2:Int) ^ n:=by simp
 have hb:(2:Nat) ^ n<=2 ^ 60:=QBB Wa C;have hm:m<2 ^ n:=Wa;have e:=Nat.two_pow_add_eq_or_of_lt hm 1;rw[Nat.mul_one]at e;have e2:(m:Int)+2 ^ n=((2 ^ n|||m:Nat):Int):=Wa;rw[e2];refine QkD (QpP _ _) ⟨Wa,Wa⟩ λi=>?_;rw[Qq2]
 by_cases hi:i<64
 rw[Qg2 _ hi,Qg2 _ hi,Qg3 Wa,Nat.testBit_or,Nat.testBit_two_pow,Bool.or_comm]
 grind
 grind [Qq1]
end M25
