/- Part 20 of the means of the proof: a verified evaluator and contracts of functions. -/
import Derived.Test.YtggcpapoljmiaaaGreatDoorC7
import Derived.Test.YtggcpapoljmiaaaGreatDoorC8
import Derived.Test.YtggcpapoljmiaaaGreatDoorC9
import Derived.Test.YtggcpapoljmiaaaGreatDoorC10
set_option maxRecDepth 4000
set_option maxHeartbeats 4000000
set_option linter.unusedSimpArgs false
set_option linter.unusedVariables false
set_option linter.unusedSectionVars false
namespace Go.Proofs
open Go Go.Abs M3
variable {c m n:Int} {s:List UInt8}
theorem J9:Ok Tryz.prog 112 [.int .i64 n] (.bool (RK n)):=by
 refine Ok.b7 tfol Tryz.func112 Qt5 (QzN Z) ?_;show TW _ _ tf112.body _ _;refine aX ?_ ?_;intro h1
 grind [RK]
 intro h1
 grind [RK]
theorem YZ:Ok Tryz.prog 161 [.int .i64 n] (.bool (RK n)):=by
 refine Ok.b7 tfol Tryz.func161 QuC (QzN Z) ?_;show TW _ _ tf161.body _ _;refine aX ?_ ?_;intro h1
 grind [RK]
 intro h1
 grind [RK]
theorem HP:Ok Tryz.prog 155 [.int .i64 n] (.bool false):=by
 refine Ok.b7 tfol Tryz.func155 Quw (QzN Z) ?_;show TW _ _ tf155.body _ _;refine aS ?_;simp
theorem QT:Ok Tryz.prog 189 [.int .i64 m,.int .i64 n] (.int .i64 (Zf m n)):=by
 refine Ok.b7 tfol Tryz.func189 QuN (QzN Z) ?_;show TW _ _ tf189.body _ _;refine aX ?_ ?_;intro h1
 grind [Zf]
 intro h1;refine aB ?_ ?_;intro h2
 grind [Zf]
 intro h2
 grind [Zf]
theorem Q5:Ok Tryz.prog 116 [.int .i64 m,.int .i64 n] (.int .i64 (Zf m n)):=by
 refine Ok.b7 tfol Tryz.func116 Qt9 (QzN Z) ?_;show TW _ _ tf116.body _ _;refine aS ?_;refine Qf (HP) Z Z (.inr Z) (aK ?_);refine Qf (HP) Z Z (.inr Z) (aB ?_ ?_);intro h1
 grind
 intro h1;refine aB ?_ ?_;intro M
 grind
 intro M;refine aB ?_ ?_;intro G
 grind [Zf]
 intro G;refine aB ?_ ?_;intro C
 grind [Zf]
 intro C
 grind [Zf]
theorem _root_.Wq {p:Prop} (h:p:=by grind [Y3]):p:=h
theorem Xl (G:s.length<=1048576):Ok Tryz.prog 154 [.str s] (.bool (YF s)):=by
 refine Ok.b7 tfol Tryz.func154 Quv (QzN Z) ?_;show TW _ _ tf154.body _ _;refine aS ?_;refine QE (ι:=Nat) (λi=>⟨[(0,.str s),(5,.int .i64 s.length),(6,.int .i64 i)],[]⟩) (λi=>i<=s.length/\(s.take i).all Y3=true) (λi=>s.length - i) 0 ?_ ?_ ?_;exact QJ (kp3 Z Z Z);simp;intro i M;refine aB ?_ ?_;intro h1;refine aB ?_ ?_;intro h2;refine Qx Z (aK ?_);exact(GK (i:=i) Wa Wq).symm;intro h2;refine aB ?_ ?_;intro C;exact(GK (i:=i) Wa Wq).symm;intro C;refine Qd (i+1) ?_ ?_ ?_;exact QJ (kp3 Z Z Z)
 grind [Zg,Y3]
 omega;intro h1
 grind [RU]
theorem XW {v:Int} (C:0<n/\n<=9223372036854775807) (O: -9223372036854775808<=v/\v<=9223372036854775807):Ok Tryz.prog 35 [.int .i64 v,.int .i64 n] (.int .i64 (Y6 v n)):=by
 refine Ok.b7 tfol Tryz.func35 Qzj (QzN Z) ?_;show TW _ _ tf35.body _ _;have M:=Int.tmod_lt_of_pos v C.1;have G:=Int.lt_tmod_of_pos v C.1;refine aS ?_;refine Qsr Z Z Wa (aB ?_ ?_);intro h1
 grind [Y6]
 intro h1
 grind [Y6]
theorem Yu (T:s.length<=1048576):Ok Tryz.prog 197 [.str s,.int .u8 c] (.sl (XF (QA s c))):=by
 refine Ok.b7 tfol Tryz.func197 QuV (QzN Z) ?_;show TW _ _ tf197.body _ _;refine aS ?_;refine QE (ι:=Nat × Nat × List (List UInt8)) (λ⟨i,k,acc⟩=>⟨[(0,.str s),(1,.int .u8 c),(5,.s4 25 acc.length),(6,.int .i64 k),(7,.int .i64 i)],[(25,⟨XF acc,1,9,true⟩)]⟩) (λ⟨i,k,acc⟩=>s8 s c i k acc) (λ⟨i,k,acc⟩=>s.length - i) (0,0,[]) ?_ ?_ ?_;exact le_trans (Zi 5 25 1 9 Z Z) (Qn (l:=[0,1,5,6,7]) (lH:=[25]) (kp5 Z Z Z Z Z) (Qa Z Qb) Z Z Z);exact s8.zero;intro ⟨i,k,acc⟩ C;have O:=C.1;have M:=C.2.1;have G:=C.2.2.1;dsimp only;refine aB ?_ ?_;intro h1;refine aB ?_ ?_;intro h2;refine Gz Z Z Z Wa Wa Wa Z (Qo Z Z (ZR Z Z (λ_ h=>YE Z Z Z h) Z (by simp[XF]) Z Z Z Wb Wb (aK ?_)));refine Qd (i+1,i+1,acc++[(s.take i).drop k]) ?_ ?_ ?_;exact Qn (l:=[0,1,5,6,7]) (lH:=[25]) (kp5 Z Z Z Z Z) (Qa Z Qb) (by simp[XF,D.z2]) (by simp[XF,u4.z2]) Z;exact C.ye Wa Wa;omega;intro h2;refine Qd (i+1,k,acc) ?_ ?_ ?_;exact Qn (l:=[0,1,5,6,7]) (lH:=[25]) (kp5 Z Z Z Z Z) (Qa Z Qb) Wl Wl Z;exact C.oh Wa Wa;omega
 ·intro h1;refine Gz Z Z Z Wa Wa Wa Z (Qo Z Z (ZR Z Z (λ_ h=>YE Z Z Z h) Z (by simp[XF]) Z Z Z Wb Wb (aK ?_)));refine QO Z ?_;rw[C.done Wa];simp[XL,D.fz,D.o7,JG,lk,D.can,D.y6,XF]
theorem X5 (T:s.length<=1048576):Ok Tryz.prog 117 [.str s,.int .u8 c] (.sl (XF (QA s c))):=by
 refine Ok.b7 tfol Tryz.func117 Qua (QzN Z) ?_;show TW _ _ tf117.body _ _;refine aS ?_;refine QE (ι:=Nat × Nat × List (List UInt8)) (λ⟨i,k,acc⟩=>⟨[(0,.str s),(1,.int .u8 c),(5,.s4 24 acc.length),(6,.int .i64 k),(9,.int .i64 s.length),(10,.int .i64 i)],[(24,⟨XF acc,1,9,true⟩)]⟩) (λ⟨i,k,acc⟩=>s8 s c i k acc) (λ⟨i,k,acc⟩=>s.length - i) (0,0,[]) ?_ ?_ ?_;exact le_trans (Zi 5 24 1 9 Z Z) (Qn (l:=[0,1,5,6,9,10]) (lH:=[24]) (kp6 Z Z Z Z Z Z) (Qa Z Qb) Z Z Z);exact s8.zero;intro ⟨i,k,acc⟩ C;have O:=C.1;have M:=C.2.1;have G:=C.2.2.1;dsimp only;refine aB ?_ ?_;intro h1;refine aB ?_ ?_;intro h2;refine Gz Z Z Z Wa Wa Wa Z (Qo Z Z (ZR Z Z (λ_ h=>YE Z Z Z h) Z (by simp[XF]) Z Z Z Wb Wb (aK ?_)));refine Qd (i+1,i+1,acc++[(s.take i).drop k]) ?_ ?_ ?_;exact Qn (l:=[0,1,5,6,9,10]) (lH:=[24]) (kp6 Z Z Z Z Z Z) (Qa Z Qb) (by simp[XF,D.z2]) (by simp[XF,u4.z2]) Z;exact C.ye Wa Wa;omega;intro h2;refine Qd (i+1,k,acc) ?_ ?_ ?_;exact Qn (l:=[0,1,5,6,9,10]) (lH:=[24]) (kp6 Z Z Z Z Z Z) (Qa Z Qb) Wl Wl Z;exact C.oh Wa Wa;omega
 ·intro h1;refine Gz Z Z Z Wa Wa Wa Z (Qo Z Z (ZR Z Z (λ_ h=>YE Z Z Z h) Z (by simp[XF]) Z Z Z Wb Wb (aK ?_)));refine QO Z ?_;rw[C.done Wa];simp[XL,D.fz,D.o7,JG,lk,D.can,D.y6,XF]
variable {a b:List UInt8}
theorem JT:Ok Tryz.prog 152 [.str s] (.bool false):=by
 refine Ok.b7 tfol Tryz.func152 Qut (QzN Z) ?_;show TW _ _ tf152.body _ _;refine aS ?_;simp
theorem Ys:Ok Tryz.prog 111 [.str a,.str b] (.int .i64 (X3 a b)):=by
 refine Ok.b7 tfol Tryz.func111 Qt4 (QzN Z) ?_;show TW _ _ tf111.body _ _;refine aS ?_;refine Qf (JT) Z Z (.inr Z) (aK ?_);refine Qf (JT) Z Z (.inr Z) (aB ?_ ?_);intro h1
 grind
 intro h1;refine aB ?_ ?_;intro M
 grind
 intro M;refine aR ?_ ?_;intro G
 grind [X3]
 intro G;refine aB ?_ ?_;intro C
 grind [X3]
 intro C
 grind [X3]
theorem G8:Ok Tryz.prog 253 [.str a,.str b] (.int .i64 (X3 a b)):=by
 refine Ok.b7 tfol Tryz.func253 Qvg (QzN Z) ?_;show TW _ _ tf253.body _ _;refine aX ?_ ?_;intro h1
 grind [X3]
 intro h1;refine aB ?_ ?_;intro h2
 grind [X3]
 intro h2
 grind [X3]
theorem G7:Ok Tryz.prog 136 [.int .u8 c] (.bool (XI c)):=by
 refine Ok.b7 tfol Tryz.func136 Qul (QzN Z) ?_;show TW _ _ tf136.body _ _;refine aX ?_ ?_;intro h1
 grind [XI]
 intro h1
 grind [XI]
theorem ZX (M:s.length<=1048576):Ok Tryz.prog 200 [.str s] (.bool (YF s)):=by
 refine Ok.b7 tfol Tryz.func200 QuY (QzN Z) ?_;show TW _ _ tf200.body _ _;refine aS ?_;refine QE (ι:=Nat) (λi=>⟨[(0,.str s),(3,.int .i64 i)],[]⟩) (λi=>i<=s.length/\(s.take i).all Y3=true) (λi=>s.length - i) 0 ?_ ?_ ?_;exact QJ (kp2 Z Z);simp;intro i C;refine aB ?_ ?_;intro h1;refine aB ?_ ?_;intro h2;refine Qx Z (aK ?_);exact(GK (i:=i) Wa Wq).symm;intro h2;refine aB ?_ ?_;intro G;exact(GK (i:=i) Wa Wq).symm;intro G;refine Qd (i+1) ?_ ?_ ?_;exact QJ (kp2 Z Z)
 grind [Zg,Y3]
 omega;intro h1;rw[RU (i:=i) Wa C.2];cases s<;>simp
theorem FX (hl:s.length<=1048576):Ok Tryz.prog 198 [.str s] (.bool (Dy s)):=by
 refine Ok.b7 tfol Tryz.func198 QuW (QzN Z) ?_;show TW _ _ tf198.body _ _;refine aX ?_ ?_;intro h1;refine Qx Z (aK ?_)
 (grind [Dy])
 intro h1;refine aB ?_ ?_;intro h2
 (grind [Dy])
 intro h2;refine QE (ι:=Nat) (λi=>⟨[(0,.str s),(3,.int .i64 i)],[]⟩) (λi=>i<=s.length/\(s.take i).all Kc=true) (λi=>s.length - i) 0 ?_ ?_ ?_;exact QJ (kp2 Z Z);simp;intro i hI;refine aB ?_ ?_;intro h3;refine aB ?_ ?_;intro h4;refine aB ?_ ?_;intro h5;refine aB ?_ ?_
 ·intro Y
  (have C:=XV (p:=Kc) (s:=s) (i:=i) Wa (by grind [Kc]);simp[Dy,C];done)
 intro Y;refine Qd (i+1) ?_ ?_ ?_;exact QJ (kp2 Z Z)
 grind [Zg,Kc]
 omega;intro h5;refine aB ?_ ?_;intro V;refine aB ?_ ?_
 ·intro U
  (have C:=XV (p:=Kc) (s:=s) (i:=i) Wa (by grind [Kc]);simp[Dy,C];done)
 intro U
 grind
 intro V;refine QP Z (aK ?_);refine Qd (i+1) ?_ ?_ ?_;exact QJ (kp2 Z Z)
 grind [Zg,Kc]
 omega;intro h4;refine aB ?_ ?_;intro T;refine aB ?_ ?_;intro O
 grind
 intro O;refine aB ?_ ?_;intro M;refine aB ?_ ?_
 ·intro G
  (have C:=XV (p:=Kc) (s:=s) (i:=i) Wa (by grind [Kc]);simp[Dy,C];done)
 intro G
 grind
 intro M
 grind
 intro T;refine QP Z (aK ?_);refine Qd (i+1) ?_ ?_ ?_;exact QJ (kp2 Z Z)
 grind [Zg,Kc]
 omega;intro h3
 (grind [Dy])
theorem Fe {a b:Int} {p q:List UInt8}:Ok Tryz.prog 115 [.agg [.int .i64 a,.int .i64 b,.int .i64 c,.str p,.str q]] (.agg [.int .i64 a,.int .i64 b,.int .i64 c,.str p,.str []]):=by
 refine Ok.b7 tfol Tryz.func115 Qt8 (QzN Z) ?_;show TW _ _ tf115.body _ _;refine aS ?_;refine Zb (cs:=[_,_,_,_,_]) Z Z Z Z ?_;rfl
theorem _root_.Wn {p:Prop} (h:p:=by exact Z3 (by omega) (by omega)):p:=h
theorem Z5 (hl:s.length<=1048576):Ok Tryz.prog 199 [.str s] (.l7 [.int .i64 (ZD s).1,.bool (ZD s).2]):=by
 refine Ok.b7 tfol Tryz.func199 QuX (QzN Z) ?_;show TW _ _ tf199.body _ _;refine aZ ?_;refine FQ (ι:=Unit) (λ_u=>⟨[(0,.str s)],[]⟩) (λ_u=>¬(s.length<1\/9<s.length\/(1<s.length/\s.head?=some 48))) ?_ ?_
 skip
 refine aR ?_ ?_;intro h1
 try simp only[qB,XI,QzR,Qz0]at h1
 refine aK ?_;refine Qx Z (aK ?_);refine Qr Z Z ?_
 (rw[QfA (s:=s) Wa];trivial)
 intro h1
 try simp only[qB,XI,QzR,Qz0]at h1
 refine aR ?_ ?_;intro h2
 try simp only[qB,XI,QzR,Qz0]at h2
 refine aK ?_;refine Qx Z (aK ?_);refine Qr Z Z ?_
 (rw[QfA (s:=s) Wa];trivial)
 intro h2
 try simp only[qB,XI,QzR,Qz0]at h2
 refine aR ?_ ?_;intro T
 try simp only[qB,XI,QzR,Qz0]at T
 refine aK ?_;refine Kp Z Z Wa (idx_at (i:=0) Wa) (aR ?_ ?_);intro O
 try simp only[qB,XI,QzR,Qz0]at O
 refine aK ?_;refine Qr Z Z ?_
 (rw[QbV (s:=s) Wa Wa];trivial)
 intro O
 try simp only[qB,XI,QzR,Qz0]at O
 refine aK ?_;refine Ze () ?_ ?_;exact QJ (kp1 Z)
 grind [QeX]
 intro T
 try simp only[qB,XI,QzR,Qz0]at T
 refine aK ?_;refine QP Z (aK ?_);refine Ze () ?_ ?_;exact QJ (kp1 Z);omega;intro _u V;refine aK ?_;refine QE (ι:=Nat) (λi=>⟨[(0,.str s),(4,.int .i64 (val (s.take i))),(5,.int .i64 i)],[]⟩) (λi=>i<=s.length/\(s.take i).all Y3=true/\s.length<=9) (λi=>s.length - i) 0 ?_ ?_ ?_;exact QJ (kp3 Z Z Z)
 grind
 intro i U;have Y:=QgS (s:=s.take i) U.2.1;have hp:10 ^ (s.take i).length<=10 ^ 9:=QA5 Wa Wb;refine aR ?_ ?_;intro M
 try simp only[qB,XI,QzR,Qz0]at M
 refine aK ?_;refine Qf (G7) Z Z (.inr Z) (aR ?_ ?_);intro G
 try simp only[qB,XI,QzR,Qz0]at G
 refine aK ?_;refine Qr Z Z ?_
 (rw[LQ (s:=s) (i:=i) Wa Wq];trivial)
 intro G
 try simp only[qB,XI,QzR,Qz0]at G
 refine aK ?_;refine QoH Z Z Wn (aK ?_);refine Qjm Z Wn (aK ?_);refine Qd (i+1) ?_ ?_ ?_;exact Qn (l:=[0,4,5]) (kp3 Z Z Z) Qb (by grind [Qcx]) Z Z
 grind [Zg,Y3]
 omega;intro M
 try simp only[qB,XI,QzR,Qz0]at M
 refine aR ?_ ?_;intro C
 try simp only[qB,XI,QzR,Qz0]at C
 refine aK ?_;refine Qr Z Z ?_
 (rw[QmC (s:=s) (i:=i) Wa Wa];trivial)
 intro C
 try simp only[qB,XI,QzR,Qz0]at C
 refine aK ?_;refine Qr Z Z ?_
 (rw[Qj5 (s:=s) (i:=i) V Wa U.2.1 Wa];trivial)
theorem FW (ha:a.length<=1048576) (hb:b.length<=1048576):Ok Tryz.prog 227 [.str a,.str b] (.int .i64 (CC a b)):=by
 refine Ok.b7 tfol Tryz.func227 Qu9 (QzN Z) ?_;show TW _ _ tf227.body _ _;refine aS ?_;refine Qf (ZX Wa) Z Z (.inr Z) (aK ?_);refine Qf (ZX Wa) Z Z (.inr Z) (aR ?_ ?_);intro h1;refine aR ?_ ?_;intro h2;refine Qf (Z5 Wa) Z Z (.inr Z) (aK ?_);refine Qf (Z5 Wa) Z Z (.inr Z) (aK ?_);refine Qf (QT) Z Z (.inr Z) (aK ?_)
 grind [CC]
 intro h2;refine Qx Z (aK ?_)
 grind [CC]
 intro h1;refine QP Z (aK ?_);refine QP Z (aR ?_ ?_);intro C
 grind [CC]
 intro C;refine Qf (G8) Z Z (.inr Z) (aK ?_)
 grind [CC]
theorem Fy (ha:a.length<=1048576) (hb:b.length<=1048576):Ok Tryz.prog 190 [.str a,.str b] (.int .i64 (M2 a b)):=by
 refine Ok.b7 tfol Tryz.func190 QuO (QzN Z) ?_;show TW _ _ tf190.body _ _;refine aX ?_ ?_;intro h1
 try simp only[qB,Qj]at h1
 refine aK ?_
 grind [M2]
 intro h1
 try simp only[qB,Qj]at h1
 refine aR ?_ ?_;intro h2
 try simp only[qB,Qj]at h2
 refine aK ?_
 grind [M2]
 intro h2
 try simp only[qB,Qj]at h2
 refine aR ?_ ?_;intro O
 try simp only[qB,Qj]at O
 refine aK ?_
 grind [M2]
 intro O
 try simp only[qB,Qj]at O
 refine aK ?_;refine Qf (Yu Wa) Z Z (.inl Z) (aK ?_);refine Qf (Yu Wa) Z Z (.inl Z) (aK ?_);refine QE (ι:=Nat) (λi=>⟨[(5,.sl (XF (QA a 46))),(6,.sl (XF (QA b 46))),(7,.int .i64 i)],[]⟩) (λi=>i<=(QA a 46).length/\i<=(QA b 46).length/\M2 a b=QbJ ((QA a 46).drop i) ((QA b 46).drop i)) (λi=>(QA a 46).length - i) 0 ?_ ?_ ?_;exact QJ (kp3 Z Z Z)
 (repeat clear hK K);simp_all [M2]
 intro i T;have sl:=NN (s:=a) (c:=46);refine aR ?_ ?_;intro M
 try simp only[qB,Qj]at M
 refine aR ?_ ?_;intro G
 try simp only[qB,Qj]at G
 refine aK ?_;refine Qw (ds0:=[0]) (FW (Ja Wa ha) (Ja Wa hb)) Z Z (.inr Z) Z Z (aR ?_ ?_);intro C
 try simp only[qB,Qj]at C
 refine aK ?_
 grind [QbK]
 intro C
 try simp only[qB,Qj]at C
 refine aK ?_;refine Qd (i+1) ?_ ?_ ?_;exact QJ (kp3 Z Z Z)
 grind [CE]
 omega;intro G
 try simp only[qB,Qj]at G
 refine aK ?_;refine Qf (QT) Z Z (.inr Z) (aK ?_)
 (grind [Pp,Qj])
 intro M
 try simp only[qB,Qj]at M
 refine aK ?_;refine QP Z (aK ?_);refine Qf (QT) Z Z (.inr Z) (aK ?_)
 (grind [Pp,Qj])
theorem Jo {s:List UInt8} {pre:Bool} (C:s.length<=1048576):Ok Tryz.prog 162 [.str s,.bool pre] (.bool (Mk s pre)):=by
 refine Ok.b7 tfol Tryz.func162 QuD (QzN Z) ?_;show TW _ _ tf162.body _ _;refine aX ?_ ?_;intro h1
 try simp only[qB,Qj]at h1
 refine aK ?_
 grind [Mk]
 intro h1
 try simp only[qB,Qj]at h1
 refine aK ?_;refine Qf (Yu Wa) Z Z (.inl Z) (aR ?_ ?_);intro h2
 try simp only[qB,Qj]at h2
 refine aK ?_
 (grind [Mk])
 intro h2
 try simp only[qB,Qj]at h2
 refine aK ?_;refine QE (ι:=Nat) (λi=>⟨[(1,.bool pre),(5,.sl (XF (QA s 46))),(6,.int .i64 i)],[]⟩) (λi=>i<=(QA s 46).length/\((QA s 46).take i).all (Sj pre)=true) (λi=>(QA s 46).length - i) 0 ?_ ?_ ?_;exact QJ (kp3 Z Z Z);simp;intro i V;refine aR ?_ ?_;intro O
 try simp only[qB,Qj]at O
 refine aK ?_;refine Qf (FX (Ja Wa C)) Z Z (.inr Z) (aR ?_ ?_);intro M
 try simp only[qB,Qj]at M
 refine aK ?_;exact(QbM (i:=i) Wa Wa (by grind [Sj])).symm;intro M
 try simp only[qB,Qj]at M
 refine aK ?_;refine Qf (Z5 (Ja Wa C)) Z Z (.inr Z) (aR ?_ ?_);intro U;refine Qf (ZX (Ja Wa C)) Z Z (.inr Z) (aR ?_ ?_);intro T;refine aR ?_ ?_;intro G
 try simp only[qB,Qj]at G
 refine aK ?_;exact(QbM (i:=i) Wa Wa (by grind [Sj])).symm;intro G
 try simp only[qB,Qj]at G
 refine aK ?_;refine Qd (i+1) ?_ ?_ ?_;exact Qn (l:=[1,5,6]) (kp3 Z Z Z) Qb Wb Z Z
 grind [Zg,Sj]
 omega;intro T;refine QP Z (aK ?_);refine Qd (i+1) ?_ ?_ ?_;exact Qn (l:=[1,5,6]) (kp3 Z Z Z) Qb Wb Z Z
 grind [Zg,Sj]
 omega;intro U;refine QP Z (aK ?_);refine Qd (i+1) ?_ ?_ ?_;exact Qn (l:=[1,5,6]) (kp3 Z Z Z) Qb Wb Z Z
 grind [Zg,Sj]
 omega;intro O
 try simp only[qB,Qj]at O
 refine aK ?_
 grind [Qfm]
theorem Qu {a b c:Int} {p q:List UInt8} (hp:p.length<=1048576) (M:q.length<=1048576):Ok Tryz.prog 123 [.agg [.int .i64 a,.int .i64 b,.int .i64 c,.str p,.str q]] (.bool (Jy a b c p q)):=by
 refine Ok.b7 tfol Tryz.func123 Qug (QzN Z) ?_;show TW _ _ tf123.body _ _;refine aS ?_;refine Qf (YZ) Z Z (.inr Z) (aR ?_ ?_);intro h1;refine Qf (YZ) Z Z (.inr Z) (aR ?_ ?_);intro h2;refine Qf (YZ) Z Z (.inr Z) (aR ?_ ?_);intro G;refine Qf (Jo Wa) Z Z (.inr Z) (aR ?_ ?_);intro C;refine Qf (Jo Wa) Z Z (.inr Z) (aK ?_)
 grind [Jy]
 intro C
 grind [Jy]
 intro G
 grind [Jy]
 intro h2
 grind [Jy]
 intro h1
 grind [Jy]
theorem Mz {l:List Int} (G:l.length<=1048576):Ok Tryz.prog 110 [Q0 l] (.int .i64 (Zy l)):=by
 refine Ok.b7 tfol Tryz.func110 Qt3 (QzN Z) ?_;show TW _ _ tf110.body _ _;refine aS ?_;refine QE (ι:=Nat) (λi=>⟨[(3,.int .i64 0),(6,Q0 l),(7,.int .i64 l.length),(8,.int .i64 i)],[]⟩) (λi=>i<=l.length/\Zy l=Zy (l.drop i)) (λi=>l.length - i) 0 ?_ ?_ ?_;exact Qn (l:=[3,6,7,8]) (kp4 Z Z Z Z) Qb Wc Z Z;simp;intro i C;refine aB ?_ ?_;intro h1;refine aB ?_ ?_;intro h2
 grind [BW]
 intro h2;refine Qd (i+1) ?_ ?_ ?_;exact QJ (kp4 Z Z Z Z)
 grind [Cg]
 omega;intro h1
 (rw[C.2,Qz8 Wa];rfl)
variable {a a' b b' c' e e':Int} {f f':Bool} {p p' q q':List UInt8}
theorem Zu (hp:p.length<=1048576) (U:q.length<=1048576) (G:p'.length<=1048576) (C:q'.length<=1048576):Ok Tryz.prog 147 [.agg [.int .i64 a,.int .i64 b,.int .i64 c,.str p,.str q],.agg [.int .i64 a',.int .i64 b',.int .i64 c',.str p',.str q']] (.int .i64 (Mj a b c p q a' b' c' p' q')):=by
 refine Ok.b7 tfol Tryz.func147 Qus (QzN Z) ?_;show TW _ _ tf147.body _ _;refine aS ?_;refine Qf (Qu Wa Wa) Z Z (.inr Z) (aB ?_ ?_);intro h1;refine Qx Z (aK ?_)
 grind [Mj]
 intro h1;refine Qf (Qu Wa Wa) Z Z (.inr Z) (aB ?_ ?_);intro h2
 grind [Mj]
 intro h2;refine Qf (QT) Z Z (.inr Z) (aB ?_ ?_);intro T
 grind [Mj]
 intro T;refine Qf (QT) Z Z (.inr Z) (aB ?_ ?_);intro O
 grind [Mj]
 intro O;refine Qf (QT) Z Z (.inr Z) (aB ?_ ?_);intro M
 grind [Mj]
 intro M;refine Qf (Fy Wa Wa) Z Z (.inr Z) (aK ?_)
 grind [Mj]
theorem ZB (hp:p.length<=1048576) (T:q.length<=1048576):Ok Tryz.prog 229 [.agg [.int .i64 e,.int .i64 a,.int .i64 b,.int .i64 c,.str p,.str q,.bool f]] (.bool (XQ e a b c p q f)):=by
 refine Ok.b7 tfol Tryz.func229 Qvb (QzN Z) ?_;show TW _ _ tf229.body _ _;refine aX ?_ ?_;intro h1;refine Qf (Qu Wa Wa) Z Z (.inr Z) (aR ?_ ?_);intro h2
 grind [XQ]
 intro h2
 grind [XQ]
 intro h1;refine aB ?_ ?_;intro O;refine JO Z Z Z (aB ?_ ?_);intro M
 grind [XQ]
 intro M
 grind [XQ]
 intro O;refine aB ?_ ?_;intro G;refine JO Z Z Z (aB ?_ ?_);intro C
 grind [XQ]
 intro C
 grind [XQ]
 intro G
 grind [XQ]
theorem QQ (hp:p.length<=1048576) (Y:q.length<=1048576) (G:p'.length<=1048576) (C:q'.length<=1048576):Ok Tryz.prog 195 [.agg [.int .i64 e,.int .i64 a,.int .i64 b,.int .i64 c,.str p,.str q,.bool f],.agg [.int .i64 e',.int .i64 a',.int .i64 b',.int .i64 c',.str p',.str q',.bool f']] (.int .i64 (Kg e a b c p q f e' a' b' c' p' q' f')):=by
 refine Ok.b7 tfol Tryz.func195 QuT (QzN Z) ?_;show TW _ _ tf195.body _ _;refine aS ?_;refine Qf (ZB Wa Wa) Z Z (.inr Z) (aB ?_ ?_);intro h1;refine Qx Z (aK ?_)
 grind [Kg]
 intro h1;refine Qf (ZB Wa Wa) Z Z (.inr Z) (aB ?_ ?_);intro h2
 grind [Kg]
 intro h2;refine aB ?_ ?_;intro V;refine Qx Z (aK ?_);refine Qf (QT) Z Z (.inr Z) (aK ?_)
 grind [Kg]
 intro V;refine aB ?_ ?_;intro U;refine Qf (QT) Z Z (.inr Z) (aK ?_)
 grind [Kg]
 intro U;refine Qf (Zu Wa Wa Wa Wa) Z Z (.inr Z) (aB ?_ ?_);intro T
 grind [Kg]
 intro T;refine aB ?_ ?_;intro O
 grind [Kg]
 intro O;refine aR ?_ ?_;intro M
 grind [Kg]
 intro M
 grind [Kg]
theorem XX (hp:p.length<=1048576) (U:q.length<=1048576) (G:p'.length<=1048576) (C:q'.length<=1048576):Ok Tryz.prog 201 [.agg [.int .i64 e,.int .i64 a,.int .i64 b,.int .i64 c,.str p,.str q,.bool f],.agg [.int .i64 a',.int .i64 b',.int .i64 c',.str p',.str q']] (.bool (X2 e a b c p q f a' b' c' p' q')):=by
 refine Ok.b7 tfol Tryz.func201 QuZ (QzN Z) ?_;show TW _ _ tf201.body _ _;refine aS ?_;refine Qf (ZB Wa Wa) Z Z (.inr Z) (aB ?_ ?_);intro h1;refine Qx Z (aK ?_)
 grind [X2]
 intro h1;refine Qf (Qu Wa Wa) Z Z (.inr Z) (aB ?_ ?_);intro h2
 grind [X2]
 intro h2;refine aB ?_ ?_;intro T
 grind [X2]
 intro T;refine Qf (Zu Wa Wa Wa Wa) Z Z (.inr Z) (aB ?_ ?_);intro O
 grind [X2]
 intro O;refine aB ?_ ?_;intro M
 grind [X2]
 intro M
 grind [X2]
theorem ZY (hp:p.length<=1048576) (M:q.length<=1048576) (G:p'.length<=1048576) (C:q'.length<=1048576):Ok Tryz.prog 194 [.agg [.int .i64 e,.int .i64 a,.int .i64 b,.int .i64 c,.str p,.str q,.bool f,.int .i64 e',.int .i64 a',.int .i64 b',.int .i64 c',.str p',.str q',.bool f']] (.bool (RN e a b c p q f e' a' b' c' p' q' f')):=by
 refine Ok.b7 tfol Tryz.func194 QuS (QzN Z) ?_;show TW _ _ tf194.body _ _;refine aS ?_;refine Qf (ZB Wa Wa) Z Z (.inr Z) (aR ?_ ?_);intro h1;refine Qf (ZB Wa Wa) Z Z (.inr Z) (aR ?_ ?_);intro h2;refine Qf (QQ Wa Wa Wa Wa) Z Z (.inr Z) (aK ?_)
 grind [RN]
 intro h2
 grind [RN]
 intro h1
 grind [RN]
theorem G9 (hp:p.length<=1048576) (T:q.length<=1048576) (G:p'.length<=1048576) (C:q'.length<=1048576) {x y z:Int} {r s:List UInt8} (hr:r.length<=1048576) (O:s.length<=1048576):Ok Tryz.prog 163 [.agg [.int .i64 e,.int .i64 a,.int .i64 b,.int .i64 c,.str p,.str q,.bool f,.int .i64 e',.int .i64 a',.int .i64 b',.int .i64 c',.str p',.str q',.bool f'],.agg [.int .i64 x,.int .i64 y,.int .i64 z,.str r,.str s]] (.bool (Gj e a b c p q f e' a' b' c' p' q' f' x y z r s)):=by
 refine Ok.b7 tfol Tryz.func163 QuE (QzN Z) ?_;show TW _ _ tf163.body _ _;refine aS ?_;refine Qf (ZY Wa Wa Wa Wa) Z Z (.inr Z) (aR ?_ ?_);intro h1;refine Qf (Qu Wa Wa) Z Z (.inr Z) (aR ?_ ?_);intro h2;refine Qf (XX Wa Wa Wa Wa) Z Z (.inr Z) (aR ?_ ?_);intro M;refine Qf (XX Wa Wa Wa Wa) Z Z (.inr Z) (aK ?_)
 grind [Gj]
 intro M
 grind [Gj]
 intro h2
 grind [Gj]
 intro h1
 grind [Gj]
theorem J8 (hl:s.length<=1048576):Ok Tryz.prog 153 [.str s] (.l7 [.int .i64 (ZD s).1,.bool (ZD s).2]):=by
 refine Ok.b7 tfol Tryz.func153 Quu (QzN Z) ?_;show TW _ _ tf153.body _ _;refine aZ ?_;refine FQ (ι:=Unit) (λ_u=>⟨[(0,.str s)],[]⟩) (λ_u=>¬(s=[]\/4<s.length\/(1<s.length/\s.head?=some 48))) ?_ ?_
 skip
 refine aR ?_ ?_;intro h1
 try simp only[qB,QzR,Qz0,decide_eq_true_eq]at h1
 refine aK ?_;refine Qx Z (aK ?_);refine Qr Z Z ?_
 (rw[QbU (s:=s) Wb];trivial)
 intro h1
 try simp only[qB,QzR,Qz0,decide_eq_true_eq]at h1
 refine aR ?_ ?_;intro h2
 try simp only[qB,QzR,Qz0,decide_eq_true_eq]at h2
 refine aK ?_;refine Qx Z (aK ?_);refine Qr Z Z ?_
 (rw[QbU (s:=s) Wa];trivial)
 intro h2
 try simp only[qB,QzR,Qz0,decide_eq_true_eq]at h2
 refine aK ?_;refine Kp Z Z Wa (idx_at (i:=0) (QAu.2 Wa)) (aR ?_ ?_);intro h3
 try simp only[qB,QzR,Qz0,decide_eq_true_eq]at h3
 refine aR ?_ ?_;intro Y
 try simp only[qB,QzR,Qz0,decide_eq_true_eq]at Y
 refine aK ?_;refine Qr Z Z ?_
 (rw[QbV (s:=s) Wa Wa];trivial)
 intro Y
 try simp only[qB,QzR,Qz0,decide_eq_true_eq]at Y
 refine aK ?_;refine Ze () ?_ ?_;exact QJ (kp1 Z)
 grind
 intro h3
 try simp only[qB,QzR,Qz0,decide_eq_true_eq]at h3
 refine aK ?_;refine QP Z (aK ?_);refine Ze () ?_ ?_;exact QJ (kp1 Z)
 grind [QeX]
 intro _u hJ;refine aK ?_;refine QdH Z Z (aK ?_);refine QE (ι:=Nat) (λi=>⟨[(4,.int .i64 (val (s.take i))),(25,.ref 25 0 0)],[(25,⟨[],0,QR s i,false⟩)]⟩) (λi=>i<=s.length/\(s.take i).all Y3=true/\s.length<=4/\0<s.length) (λi=>s.length - i) 0 ?_ ?_ ?_;exact Qn (l:=[4,25]) (lH:=[25]) (kp2 Z Z) (Qa Z Qb) Wl Z Z
 grind
 intro i O;have hv:=QgS (s:=s.take i) O.2.1;have hp:10 ^ (s.take i).length<=10 ^ 4:=QA5 Wa Wb;have hI1:=O.1;have hI3:=O.2.2.1;refine aK ?_;rcases QAb (i) (s).length with G |G
 rcases QAb (((s)[i]).toNat) 128 with V |V;refine QaH Z Z G (D9 G V) (aK ?_);refine Qx Z (aR ?_ ?_);intro U
 try simp only[qB,QzR,Qz0,decide_eq_true_eq]at U
 refine aR ?_ ?_;intro T
 try simp only[qB,QzR,Qz0,decide_eq_true_eq]at T
 refine aK ?_;refine QoH Z Z Wn (aK ?_);refine Qjm Z Wn (aK ?_);refine Qd (i+1) ?_ ?_ ?_;exact Qn (l:=[4,25]) (lH:=[25]) (kp2 Z Z) (Qa Z Qb) (by grind [Qcx]) Z Z
 grind [Zg,Y3]
 omega;intro T
 try simp only[qB,QzR,Qz0,decide_eq_true_eq]at T
 refine aK ?_;refine Qr Z Z ?_
 (rw[LQ (s:=s) (i:=i) Wa Wq];trivial)
 intro U
 try simp only[qB,QzR,Qz0,decide_eq_true_eq]at U
 refine aK ?_;refine QP Z (aK ?_);refine Qr Z Z ?_
 (rw[LQ (s:=s) (i:=i) Wa Wq];trivial)
 obtain⟨cwh6,nwh6,hch6,C⟩:=Qa0 G V;refine QaH Z Z G C (aK ?_);refine Qx Z (aR ?_ ?_);intro h9
 try simp only[qB,QzR,Qz0,decide_eq_true_eq]at h9
 refine aR ?_ ?_;intro M
 grind
 intro M
 try simp only[qB,QzR,Qz0,decide_eq_true_eq]at M
 refine aK ?_;refine Qr Z Z ?_
 (rw[LQ (s:=s) (i:=i) Wa Wq];trivial)
 intro h9
 grind
 refine DJ Z Z Wa (aK ?_);refine QP Z (aK ?_);refine Qr Z Z ?_
 (rw[QmB (s:=s) (i:=i) hJ Wa O.2.1];exact⟨rfl,by grind [XL,D.fz,D.o7,D.can,D.y6]⟩)
theorem Ka (hl:s.length<=1048576):Ok Tryz.prog 114 [.str s] (.bool (Fh s)):=by
 refine Ok.b7 tfol Tryz.func114 Qt7 (QzN Z) ?_;show TW _ _ tf114.body _ _;refine aS ?_;refine Qf (X5 Wa) Z Z (.inl Z) (aK ?_);refine QE (ι:=Nat) (λi=>⟨[(4,.bool (decide ((QA s 46).length<=4))),(14,.sl (XF (QA s 46))),(15,.int .i64 (QA s 46).length),(16,.int .i64 i)],[]⟩) (λi=>i<=(QA s 46).length/\((QA s 46).take i).all Dy=true) (λi=>(QA s 46).length - i) 0 ?_ ?_ ?_;exact Qn (l:=[4,14,15,16]) (kp4 Z Z Z Z) Qb (by simp[Qj];omega) Z Z
 simp;intro i hI;have sl:=NN (s:=s) (c:=46);refine aR ?_ ?_;intro h1
 try simp only[qB,Qj]at h1
 refine aR ?_ ?_;intro h2
 try simp only[qB,Qj]at h2
 refine aK ?_;refine Qx Z (aK ?_);refine Zl We (aK ?_);exact(GR (i:=i) Wa (QbL Wb)).symm;intro h2
 try simp only[qB,Qj]at h2
 refine aR ?_ ?_;intro h3
 try simp only[qB,Qj]at h3
 refine aK ?_;refine Zl We (aK ?_);exact(GR (i:=i) Wa (QbL Wa)).symm;intro h3
 try simp only[qB,Qj]at h3
 refine aK ?_;refine QdH Z Z (aK ?_);have C:i<(QA s 46).length:=Wa;refine QE (ι:=Nat) (λj=>⟨[(4,.bool (decide ((QA s 46).length<=4))),(14,.sl (XF (QA s 46))),(15,.int .i64 (QA s 46).length),(16,.int .i64 i),(28,.ref 28 0 0)],[(28,⟨[],0,QR ((QA s 46)[i]'C) j,false⟩)]⟩) (λj=>j<=((QA s 46)[i]'C).length/\(((QA s 46)[i]'C).take j).all Kc=true) (λj=>((QA s 46)[i]'C).length - j) 0 ?_ ?_ ?_;exact Qn (l:=[4,14,15,16,28]) (lH:=[28]) (kp5 Z Z Z Z Z) (Qa Z Qb) Z Z Z;simp;intro j hJ;have hJ1:=hJ.1;refine aK ?_;rcases QAb (j) (((QA s 46)[i]'C)).length with O |O
 rcases QAb (((((QA s 46)[i]'C))[j]).toNat) 128 with h5 |h5;refine QaH Z Z O (D9 O h5) (aK ?_);refine Qx Z (aR ?_ ?_);intro h6
 try simp only[qB,Qj]at h6
 refine aR ?_ ?_;intro h7
 try simp only[qB,Qj]at h7
 refine aR ?_ ?_;intro h8
 try simp only[qB,Qj]at h8
 refine aK ?_;refine Zl We (aK ?_);refine Zl We (Zl We (aK ?_))
 grind [GR,Pq,XV,Kc]
 intro h8
 try simp only[qB,Qj]at h8
 refine aK ?_;refine Qd (j+1) ?_ ?_ ?_;exact Qn (l:=[4,14,15,16,28]) (lH:=[28]) (kp5 Z Z Z Z Z) (Qa Z Qb) Z Z Z
 grind [Zg,Kc]
 omega;intro h7
 try simp only[qB,Qj]at h7
 refine aR ?_ ?_;intro h9
 try simp only[qB,Qj]at h9
 refine aR ?_ ?_;intro h10
 try simp only[qB,Qj]at h10
 refine aK ?_;refine Zl We (aK ?_);refine Zl We (Zl We (aK ?_))
 grind [GR,Pq,XV,Kc]
 intro h10
 grind
 intro h9
 try simp only[qB,Qj]at h9
 refine aK ?_;refine QP Z (aK ?_);refine Qd (j+1) ?_ ?_ ?_;exact Qn (l:=[4,14,15,16,28]) (lH:=[28]) (kp5 Z Z Z Z Z) (Qa Z Qb) Z Z Z
 grind [Zg,Kc]
 omega;intro h6
 try simp only[qB,Qj]at h6
 refine aR ?_ ?_;intro G
 try simp only[qB,Qj]at G
 refine aR ?_ ?_;intro h12
 grind
 intro h12
 try simp only[qB,Qj]at h12
 refine aR ?_ ?_;intro h14
 try simp only[qB,Qj]at h14
 refine aR ?_ ?_;intro h15
 try simp only[qB,Qj]at h15
 refine aK ?_;refine Zl We (aK ?_);refine Zl We (Zl We (aK ?_))
 grind [GR,Pq,XV,Kc]
 intro h15
 grind
 intro h14
 grind
 intro G
 try simp only[qB,Qj]at G
 refine aK ?_;refine QP Z (aK ?_);refine Qd (j+1) ?_ ?_ ?_;exact Qn (l:=[4,14,15,16,28]) (lH:=[28]) (kp5 Z Z Z Z Z) (Qa Z Qb) Z Z Z
 grind [Zg,Kc]
 omega;obtain⟨cwh5,nwh5,hch5,M⟩:=Qa0 O h5;refine QaH Z Z O M (aK ?_);refine Qx Z (aR ?_ ?_);intro h16
 grind
 intro h16
 try simp only[qB,Qj]at h16
 refine aR ?_ ?_;intro Y
 try simp only[qB,Qj]at Y
 refine aR ?_ ?_;intro V
 grind
 intro V
 try simp only[qB,Qj]at V
 refine aR ?_ ?_;intro U
 try simp only[qB,Qj]at U
 refine aR ?_ ?_;intro T
 try simp only[qB,Qj]at T
 refine aK ?_;refine Zl We (aK ?_);refine Zl We (Zl We (aK ?_))
 grind [GR,Pq,XV,Kc]
 intro T
 grind
 intro U
 grind
 intro Y
 grind
 refine DJ Z Z Wa (aK ?_);refine QP Z (aK ?_);refine Qd (i+1) ?_ ?_ ?_;exact Qn (l:=[4,14,15,16]) (kp4 Z Z Z Z) Qb Z Z Z
 grind [Zg,Qml]
 omega;intro h1
 try simp only[qB,Qj]at h1
 refine aK ?_
 grind [Qgw]
theorem Lc {a b:List UInt8} (ha:a.length<=1048576) (hb:b.length<=1048576):Ok Tryz.prog 118 [.str a,.str b] (.int .i64 (CC a b)):=by
 refine Ok.b7 tfol Tryz.func118 Qub (QzN Z) ?_;show TW _ _ tf118.body _ _;refine aS ?_;refine Qf (Xl Wa) Z Z (.inr Z) (aK ?_);refine Qf (Xl Wa) Z Z (.inr Z) (aR ?_ ?_);intro h1;refine aR ?_ ?_;intro h2;refine Qf (J8 Wa) Z Z (.inr Z) (aK ?_);refine Qf (J8 Wa) Z Z (.inr Z) (aK ?_);refine Qf (Q5) Z Z (.inr Z) (aK ?_)
 grind [CC]
 intro h2;refine aB ?_ ?_;intro G;refine Qx Z (aK ?_)
 grind [CC]
 intro G
 grind
 intro h1;refine QP Z (aB ?_ ?_);intro C;refine QP Z (aK ?_)
 grind [CC]
 intro C;refine Qf (Ys) Z Z (.inr Z) (aK ?_)
 grind [CC]
theorem Lb (G:s.length<=1048576):Ok Tryz.prog 113 [.str s] (.bool (CD s)):=by
 refine Ok.b7 tfol Tryz.func113 Qt6 (QzN Z) ?_;show TW _ _ tf113.body _ _;refine aS ?_;refine Qf (Ka Wa) Z Z (.inr Z) (aR ?_ ?_);intro h1
 try simp only[qB,Qj]at h1
 refine aK ?_
 grind [CD]
 intro h1
 try simp only[qB,Qj]at h1
 refine aK ?_;refine Qf (X5 Wa) Z Z (.inl Z) (aK ?_);refine QE (ι:=Nat) (λi=>⟨[(11,.sl (XF (QA s 46))),(12,.int .i64 (QA s 46).length),(13,.int .i64 i)],[]⟩) (λi=>i<=(QA s 46).length/\((QA s 46).take i).all CV=true) (λi=>(QA s 46).length - i) 0 ?_ ?_ ?_;exact Qn (l:=[11,12,13]) (kp3 Z Z Z) Qb (by simp[Qj]) Z Z;simp;intro i O;have sl:=NN (s:=s) (c:=46);refine aR ?_ ?_;intro h2
 try simp only[qB,Qj]at h2
 refine aK ?_;refine Qf (J8 (Ja Wa G)) Z Z (.inr Z) (aK ?_);refine Qf (Xl (Ja Wa G)) Z Z (.inr Z) (aR ?_ ?_);intro M;refine aR ?_ ?_;intro C
 try simp only[qB,Qj]at C
 refine aK ?_;exact(QmL (i:=i) Wa (by grind [CV])).symm;intro C
 try simp only[qB,Qj]at C
 refine aK ?_;refine Qd (i+1) ?_ ?_ ?_;exact QJ (kp3 Z Z Z)
 grind [Zg,CV]
 omega;intro M;refine QP Z (aK ?_);refine Qd (i+1) ?_ ?_ ?_;exact QJ (kp3 Z Z Z)
 grind [Zg,CV]
 omega;intro h2
 try simp only[qB,Qj]at h2
 refine aK ?_
 grind [QiK]
theorem ZO (hp:p.length<=1048576) (U:q.length<=1048576):Ok Tryz.prog 81 [.agg [.int .i64 a,.int .i64 b,.int .i64 c,.str p,.str q]] (.bool (Jy a b c p q)):=by
 refine Ok.b7 tfol Tryz.func81 Qzw (QzN Z) ?_;show TW _ _ tf81.body _ _;refine aS ?_;refine Qf (J9) Z Z (.inr Z) (aR ?_ ?_);intro h1;refine Qf (J9) Z Z (.inr Z) (aR ?_ ?_);intro h2;refine Qf (J9) Z Z (.inr Z) (aR ?_ ?_);intro T;refine aB ?_ ?_;intro O;refine aB ?_ ?_;intro M
 grind [Jy,K8,KD]
 intro M;refine Qf (Ka Wa) Z Z (.inr Z) (aK ?_)
 grind [Jy,K8,KD]
 intro O;refine Qf (Lb Wa) Z Z (.inr Z) (aR ?_ ?_);intro G;refine aB ?_ ?_;intro C
 grind [Jy,K8,KD]
 intro C;refine Qf (Ka Wa) Z Z (.inr Z) (aK ?_)
 grind [Jy,K8,KD]
 intro G
 grind [Jy,KD]
 intro T
 grind [Jy]
 intro h2
 grind [Jy]
 intro h1
 grind [Jy]
theorem Xk (hp:p.length<=1048576) (hq:q.length<=1048576) (C:p'.length<=1048576) (hq':q'.length<=1048576):Ok Tryz.prog 82 [.agg [.int .i64 a,.int .i64 b,.int .i64 c,.str p,.str q],.agg [.int .i64 a',.int .i64 b',.int .i64 c',.str p',.str q']] (.int .i64 (Mj a b c p q a' b' c' p' q')):=by
 refine Ok.b7 tfol Tryz.func82 Qzx (QzN Z) ?_;show TW _ _ tf82.body _ _;refine aS ?_;refine Qw (ds0:=dn 13) (ZO Wa Wa) Z Z (.inr Z) Z Z (aR ?_ ?_);intro h1
 try simp only[qB,Qj]at h1
 refine aK ?_;refine Qx Z (aK ?_)
 grind [Mj]
 intro h1
 try simp only[qB,Qj]at h1
 refine aK ?_;refine Qw (ds0:=dn 9) (ZO Wa Wa) Z Z (.inr Z) Z Z (aR ?_ ?_);intro h2
 try simp only[qB,Qj]at h2
 refine aK ?_;refine Qx Z (aK ?_)
 grind [Mj]
 intro h2
 try simp only[qB,Qj]at h2
 refine aK ?_;refine Qw (ds0:=[1,0]) (Fe) Z Z (.inl Z) Z Z (aK ?_);refine Qw (ds0:=[1,0]) (Fe) Z Z (.inl Z) Z Z (aK ?_);refine JO Z Z Z (aR ?_ ?_);intro Y
 try simp only[qB,Qj]at Y
 refine aK ?_
 grind [Qo6]
 intro Y
 try simp only[qB,Qj]at Y
 refine aK ?_;refine Qw (ds0:=[2,1,0]) (Q5) Z Z (.inr Z) Z Z (aK ?_);refine Qw (ds0:=[2,1,0]) (Q5) Z Z (.inr Z) Z Z (aK ?_);refine Qw (ds0:=[2,1,0]) (Q5) Z Z (.inr Z) Z Z (Qo Z Z (Qw (ds0:=[0]) (Mz (l:=[Zf a a',Zf b b',Zf c c']) Wc) Z Z (.inr Z) Z Z (aR ?_ ?_)));intro V
 try simp only[qB,Qj]at V
 refine aK ?_
 grind [Qlu]
 intro V
 try simp only[qB,Qj]at V
 refine aR ?_ ?_;intro U
 try simp only[qB,Qj]at U
 refine aK ?_
 grind [QhR]
 intro U
 try simp only[qB,Qj]at U
 refine aR ?_ ?_;intro T
 try simp only[qB,Qj]at T
 refine aK ?_
 grind [QhS]
 intro T
 try simp only[qB,Qj]at T
 refine aK ?_;refine Qw (ds0:=[1]) (X5 Wa) Z Z (.inl Z) Z Z (aK ?_);refine Qw (ds0:=[0]) (X5 Wa) Z Z (.inl Z) Z Z (aK ?_);refine QE (ι:=Nat) (λi=>⟨[(6,.sl (XF (QA p 46))),(7,.sl (XF (QA p' 46))),(8,.int .i64 i)],[]⟩) (λi=>i<=(QA p 46).length/\i<=(QA p' 46).length/\Mj a b c p q a' b' c' p' q'=QbJ ((QA p 46).drop i) ((QA p' 46).drop i)) (λi=>(QA p 46).length - i) 0 ?_ ?_ ?_;exact Qn (l:=[6,7,8]) (kp3 Z Z Z) Qb Z Z Z
 (repeat clear hK K);simp_all [Qlv]
 intro i hI;have sl:=NN (s:=p) (c:=46);refine aR ?_ ?_;intro O
 try simp only[qB,Qj]at O
 refine aR ?_ ?_;intro M
 try simp only[qB,Qj]at M
 refine aK ?_;refine Qw (ds0:=[0]) (Lc (Ja Wa hp) (Ja Wa C)) Z Z (.inr Z) Z Z (aR ?_ ?_);intro G
 try simp only[qB,Qj]at G
 refine aK ?_
 grind [QbK]
 intro G
 try simp only[qB,Qj]at G
 refine aK ?_;refine Qd (i+1) ?_ ?_ ?_;exact QJ (kp3 Z Z Z)
 grind [CE]
 omega;intro M
 try simp only[qB,Qj]at M
 refine aK ?_;refine Qf (Q5) Z Z (.inr Z) (aK ?_)
 (grind [Pp,Qj])
 intro O
 try simp only[qB,Qj]at O
 refine aK ?_;refine QP Z (aK ?_);refine Qf (Q5) Z Z (.inr Z) (aK ?_)
 (grind [Pp,Qj])
theorem HQ (hp:p.length<=1048576) (T:q.length<=1048576):Ok Tryz.prog 228 [.agg [.int .i64 e,.int .i64 a,.int .i64 b,.int .i64 c,.str p,.str q,.bool f]] (.bool (XQ e a b c p q f)):=by
 refine Ok.b7 tfol Tryz.func228 Qva (QzN Z) ?_;show TW _ _ tf228.body _ _;refine aX ?_ ?_;intro h1;refine Qx Z (aK ?_);refine JO Z Z Z (aB ?_ ?_);intro h2
 grind [XQ]
 intro h2
 grind [XQ]
 intro h1;refine aB ?_ ?_;intro O;refine JO Z Z Z (aB ?_ ?_);intro M
 grind [XQ]
 intro M
 grind [XQ]
 intro O;refine aB ?_ ?_;intro G
 grind [XQ]
 intro G;refine Qf (ZO Wa Wa) Z Z (.inr Z) (aR ?_ ?_);intro C
 grind [XQ]
 intro C
 grind [XQ]
theorem FT (hp:p.length<=1048576) (Y:q.length<=1048576) (G:p'.length<=1048576) (C:q'.length<=1048576):Ok Tryz.prog 192 [.agg [.int .i64 e,.int .i64 a,.int .i64 b,.int .i64 c,.str p,.str q,.bool f],.agg [.int .i64 e',.int .i64 a',.int .i64 b',.int .i64 c',.str p',.str q',.bool f']] (.int .i64 (Kg e a b c p q f e' a' b' c' p' q' f')):=by
 refine Ok.b7 tfol Tryz.func192 QuQ (QzN Z) ?_;show TW _ _ tf192.body _ _;refine aS ?_;refine Qf (HQ Wa Wa) Z Z (.inr Z) (aB ?_ ?_);intro h1;refine Qx Z (aK ?_)
 grind [Kg]
 intro h1;refine Qf (HQ Wa Wa) Z Z (.inr Z) (aB ?_ ?_);intro h2
 grind [Kg]
 intro h2;refine aB ?_ ?_;intro V;refine Qx Z (aK ?_);refine Qf (Q5) Z Z (.inr Z) (aK ?_)
 grind [Kg]
 intro V;refine aB ?_ ?_;intro U;refine Qf (Q5) Z Z (.inr Z) (aK ?_)
 grind [QhN]
 intro U;refine Qf (Xk Wa Wa Wa Wa) Z Z (.inr Z) (aB ?_ ?_);intro T
 grind [Kg]
 intro T;refine aB ?_ ?_;intro O
 grind [Kg]
 intro O;refine aR ?_ ?_;intro M
 grind [Kg]
 intro M
 grind [Kg]
theorem P5 (hp:p.length<=1048576) (U:q.length<=1048576) (G:p'.length<=1048576) (C:q'.length<=1048576):Ok Tryz.prog 193 [.agg [.int .i64 e,.int .i64 a,.int .i64 b,.int .i64 c,.str p,.str q,.bool f],.agg [.int .i64 a',.int .i64 b',.int .i64 c',.str p',.str q']] (.bool (X2 e a b c p q f a' b' c' p' q')):=by
 refine Ok.b7 tfol Tryz.func193 QuR (QzN Z) ?_;show TW _ _ tf193.body _ _;refine aS ?_;refine Qf (HQ Wa Wa) Z Z (.inr Z) (aB ?_ ?_);intro h1;refine Qx Z (aK ?_)
 grind [X2]
 intro h1;refine Qf (ZO Wa Wa) Z Z (.inr Z) (aB ?_ ?_);intro h2
 grind [X2]
 intro h2;refine aB ?_ ?_;intro T
 grind [X2]
 intro T;refine Qf (Xk Wa Wa Wa Wa) Z Z (.inr Z) (aB ?_ ?_);intro O
 grind [X2]
 intro O;refine aB ?_ ?_;intro M
 grind [X2]
 intro M
 grind [X2]
theorem FU (hp:p.length<=1048576) (M:q.length<=1048576) (G:p'.length<=1048576) (C:q'.length<=1048576):Ok Tryz.prog 191 [.agg [.int .i64 e,.int .i64 a,.int .i64 b,.int .i64 c,.str p,.str q,.bool f,.int .i64 e',.int .i64 a',.int .i64 b',.int .i64 c',.str p',.str q',.bool f']] (.bool (RN e a b c p q f e' a' b' c' p' q' f')):=by
 refine Ok.b7 tfol Tryz.func191 QuP (QzN Z) ?_;show TW _ _ tf191.body _ _;refine aS ?_;refine Qf (HQ Wa Wa) Z Z (.inr Z) (aR ?_ ?_);intro h1;refine Qf (HQ Wa Wa) Z Z (.inr Z) (aR ?_ ?_);intro h2;refine Qf (FT Wa Wa Wa Wa) Z Z (.inr Z) (aK ?_)
 grind [RN]
 intro h2
 grind [RN]
 intro h1
 grind [RN]
theorem BG (hp:p.length<=1048576) (T:q.length<=1048576) (G:p'.length<=1048576) (C:q'.length<=1048576) {x y z:Int} {r:List UInt8} (hr:r.length<=1048576) (O:s.length<=1048576):Ok Tryz.prog 158 [.agg [.int .i64 e,.int .i64 a,.int .i64 b,.int .i64 c,.str p,.str q,.bool f,.int .i64 e',.int .i64 a',.int .i64 b',.int .i64 c',.str p',.str q',.bool f'],.agg [.int .i64 x,.int .i64 y,.int .i64 z,.str r,.str s]] (.bool (Gj e a b c p q f e' a' b' c' p' q' f' x y z r s)):=by
 refine Ok.b7 tfol Tryz.func158 Quz (QzN Z) ?_;show TW _ _ tf158.body _ _;refine aS ?_;refine Qf (FU Wa Wa Wa Wa) Z Z (.inr Z) (aR ?_ ?_);intro h1;refine Qf (ZO Wa Wa) Z Z (.inr Z) (aR ?_ ?_);intro h2;refine Qf (P5 Wa Wa Wa Wa) Z Z (.inr Z) (aR ?_ ?_);intro M;refine Qf (P5 Wa Wa Wa Wa) Z Z (.inr Z) (aK ?_)
 grind [Gj]
 intro M
 grind [Gj]
 intro h2
 grind [Gj]
 intro h1
 grind [Gj]
open M25
theorem Jn:Ok Tryz.prog 243 [.agg [.int .i64 a,.int .i64 b,.int .i64 c,.str p,.str q]] (.agg [.int .i64 a,.int .i64 b,.int .i64 c,.str p,.str []]):=by
 refine Ok.b7 tfol Tryz.func243 Qvc (QzN Z) ?_;show TW _ _ tf243.body _ _;refine aS ?_;refine Zb (cs:=[_,_,_,_,_]) Z Z Z Z ?_;rfl
theorem Yv:Ok Tryz.prog 108 [] (.agg [.int .i64 (-1),.int .i64 0,.int .i64 0,.int .i64 0,.str [],.str [],.bool false]):=by
 refine Ok.b7 tfol Tryz.func108 Qt1 (QzN Z) ?_;show TW _ _ tf108.body _ _;refine aS ?_;refine Zb (cs:=[_,_,_,_,_,_,_]) Z Z Z Z ?_;rfl
theorem YM:Ok Tryz.prog 109 [] (.agg [.int .i64 1,.int .i64 0,.int .i64 0,.int .i64 0,.str [],.str [],.bool false]):=by
 refine Ok.b7 tfol Tryz.func109 Qt2 (QzN Z) ?_;show TW _ _ tf109.body _ _;refine aS ?_;refine Zb (cs:=[_,_,_,_,_,_,_]) Z Z Z Z ?_;rfl
theorem Z6:Ok Tryz.prog 214 [.agg [.int .i64 a,.int .i64 b,.int .i64 c,.str p,.str q]] (.agg [.int .i64 0,.int .i64 a,.int .i64 b,.int .i64 c,.str p,.str [],.bool false]):=by
 refine Ok.b7 tfol Tryz.func214 Qu2 (QzN Z) ?_;show TW _ _ tf214.body _ _;refine aS ?_;refine Qf (Jn) Z Z (.inl Z) (aK ?_);refine Zb (cs:=[_,_,_,_,_,_,_]) Z Z Z Z ?_;rfl
theorem H5:Ok Tryz.prog 215 [.agg [.int .i64 a,.int .i64 b,.int .i64 c,.str p,.str q]] (.agg [.int .i64 0,.int .i64 a,.int .i64 b,.int .i64 c,.str p,.str [],.bool true]):=by
 refine Ok.b7 tfol Tryz.func215 Qu3 (QzN Z) ?_;show TW _ _ tf215.body _ _;refine aS ?_;refine Qf (Jn) Z Z (.inl Z) (aK ?_);refine Zb (cs:=[_,_,_,_,_,_,_]) Z Z Z Z ?_;rfl
theorem XZ:Ok Tryz.prog 196 [.agg [.int .i64 a,.int .i64 b,.int .i64 c,.str p,.str q]] (.bool (ML a b c)):=by
 refine Ok.b7 tfol Tryz.func196 QuU (QzN Z) ?_;show TW _ _ tf196.body _ _;refine aX ?_ ?_;intro h1;refine aB ?_ ?_;intro h2
 grind [ML]
 intro h2
 grind [ML]
 intro h1
 grind [ML]
theorem Fw (hp:p.length<=1048576) (V:q.length<=1048576) {part:Int}:Ok Tryz.prog 260 [.agg [.int .i64 a,.int .i64 b,.int .i64 c,.str p,.str q],.int .i64 part] (dOV (FE a b c p q part)):=by
 refine Ok.b7 tfol Tryz.func260 Qvh (QzN Z) ?_;show TW _ _ tf260.body _ _;refine aS ?_;refine Qf (Qu Wa Wa) Z Z (.inr Z) (aB ?_ ?_);intro h1;refine Qx Z (aK ?_);refine s7.eq (ZI (ds:=[.int .i64 _,.int .i64 _,.int .i64 _,.str _,.str _]) (d':=.bool _) (cs:=[_,_,_,_,_]) Z Z Z Z Z ⟨rfl,rfl⟩) ?_
 grind [FE,dOV]
 intro h1;refine aB ?_ ?_;intro h2;refine Qx Z (aK ?_);refine s7.eq (ZI (ds:=[.int .i64 _,.int .i64 _,.int .i64 _,.str _,.str _]) (d':=.bool _) (cs:=[_,_,_,_,_]) Z Z Z Z Z ⟨rfl,rfl⟩) ?_
 grind [FE,dOV]
 intro h2;refine aB ?_ ?_;intro U;refine s7.eq (ZI (ds:=[.int .i64 _,.int .i64 _,.int .i64 _,.str _,.str _]) (d':=.bool _) (cs:=[_,_,_,_,_]) Z Z Z Z Z ⟨rfl,rfl⟩) ?_
 grind [FE,dOV]
 intro U;refine aB ?_ ?_;intro T;refine QcH Z Z (Z3 (by have:=GI (by simpa using h1);omega) (by have:=GI (by simpa using h1);omega)) (aK ?_)
 refine Qf (Qu Wc Wc) Z Z (.inr Z) (aB ?_ ?_);intro O;refine s7.eq (ZI (ds:=[.int .i64 _,.int .i64 _,.int .i64 _,.str _,.str _]) (d':=.bool _) (cs:=[_,_,_,_,_]) Z Z Z Z Z ⟨rfl,rfl⟩) ?_
 grind [FE,dOV]
 intro O;refine s7.eq (ZI (ds:=[.int .i64 _,.int .i64 _,.int .i64 _,.str _,.str _]) (d':=.bool _) (cs:=[_,_,_,_,_]) Z Z Z Z Z ⟨rfl,rfl⟩) ?_
 grind [FE,dOV]
 intro T;refine aB ?_ ?_;intro M;refine QcH Z Z (Z3 (by have:=GI (by simpa using h1);omega) (by have:=GI (by simpa using h1);omega)) (aK ?_)
 refine Qf (Qu Wc Wc) Z Z (.inr Z) (aB ?_ ?_);intro G;refine s7.eq (ZI (ds:=[.int .i64 _,.int .i64 _,.int .i64 _,.str _,.str _]) (d':=.bool _) (cs:=[_,_,_,_,_]) Z Z Z Z Z ⟨rfl,rfl⟩) ?_
 grind [FE,dOV]
 intro G;refine s7.eq (ZI (ds:=[.int .i64 _,.int .i64 _,.int .i64 _,.str _,.str _]) (d':=.bool _) (cs:=[_,_,_,_,_]) Z Z Z Z Z ⟨rfl,rfl⟩) ?_
 grind [FE,dOV]
 intro M;refine QcH Z Z (Z3 (by have:=GI (by simpa using h1);omega) (by have:=GI (by simpa using h1);omega)) (aK ?_)
 refine Qf (Qu Wc Wc) Z Z (.inr Z) (aB ?_ ?_);intro C;refine s7.eq (ZI (ds:=[.int .i64 _,.int .i64 _,.int .i64 _,.str _,.str _]) (d':=.bool _) (cs:=[_,_,_,_,_]) Z Z Z Z Z ⟨rfl,rfl⟩) ?_
 grind [FE,dOV]
 intro C;refine s7.eq (ZI (ds:=[.int .i64 _,.int .i64 _,.int .i64 _,.str _,.str _]) (d':=.bool _) (cs:=[_,_,_,_,_]) Z Z Z Z Z ⟨rfl,rfl⟩) ?_
 grind [FE,dOV]
theorem Fx (hp:p.length<=1048576) (U:q.length<=1048576):Ok Tryz.prog 244 [.agg [.int .i64 a,.int .i64 b,.int .i64 c,.str p,.str q]] (dOV (Qc5 a b c p q)):=by
 refine Ok.b7 tfol Tryz.func244 Qvd (QzN Z) ?_;show TW _ _ tf244.body _ _;refine aS ?_;refine Qf (Qu Wa Wa) Z Z (.inr Z) (aB ?_ ?_);intro h1;refine s7.eq (ZI (ds:=[.int .i64 _,.int .i64 _,.int .i64 _,.str _,.str _]) (d':=.bool _) (cs:=[_,_,_,_,_]) Z Z Z Z Z ⟨rfl,rfl⟩) ?_
 grind [Qc5,dOV]
 intro h1;refine aB ?_ ?_;intro h2;refine s7.eq (ZI (ds:=[.int .i64 _,.int .i64 _,.int .i64 _,.str _,.str _]) (d':=.bool _) (cs:=[_,_,_,_,_]) Z Z Z Z Z ⟨rfl,rfl⟩) ?_
 grind [Qc5,dOV]
 intro h2;refine QE (ι:=Nat) (λm=>⟨[(1,.ref 1 0 0),(2,.ref 2 0 0),(4,.int .i64 ((m:Int) - 1))],[(1,⟨[[.int .i64 a,.int .i64 b,.int .i64 c,.str p,.str q]],5,66,true⟩),(2,⟨[[.int .i64 0,.int .i64 0,.int .i64 0,.str [],.str []]],5,66,true⟩)]⟩) (λm=>m<=3/\Xv a b c p q 3=Xv a b c p q m) (λm=>m) 3 ?_ ?_ ?_;exact Qn (l:=[1,2,4]) (lH:=[1,2]) (kp3 Z Z Z) (Qa Z (Qa Z Qb)) Z Z Z;simp;intro m M;obtain⟨G,C⟩:=M;refine aB ?_ ?_;intro T;rcases Nat.eq_zero_or_pos m with hm |hm<;>first |omega |skip
 refine Qf (Fw Wa Wa) Z Z (.inl Z) (aR ?_ ?_);intro O;refine s7.eq (ZI (ds:=[.int .i64 _,.int .i64 _,.int .i64 _,.str _,.str _]) (d':=.bool _) (cs:=[_,_,_,_,_]) Z Z Z Z Z ⟨rfl,rfl⟩) ?_
 grind [Qc5,dOV,DV]
 intro O;refine Qd (m - 1) ?_ ?_ ?_;refine Qn (l:=[1,2,4]) (lH:=[1,2]) (kp3 Z Z Z) (Qa Z (Qa Z Qb)) ?_ Z rfl;grind
 grind [BF]
 omega;intro T;rcases Nat.eq_zero_or_pos m with hm |hm<;>first |omega |skip
 refine s7.eq (ZI (ds:=[.int .i64 _,.int .i64 _,.int .i64 _,.str _,.str _]) (d':=.bool _) (cs:=[_,_,_,_,_]) Z Z Z Z Z ⟨rfl,rfl⟩) ?_
 grind [Xv,Qc5,dOV]
theorem X0 {e:Int} {f:Bool}:Ok Tryz.prog 160 [.agg [.int .i64 e,.int .i64 a,.int .i64 b,.int .i64 c,.str p,.str q,.bool f]] (.bool (MM e a b c p q f)):=by
 refine Ok.b7 tfol Tryz.func160 QuB (QzN Z) ?_;show TW _ _ tf160.body _ _;refine aX ?_ ?_;intro h1
 grind [MM]
 intro h1;refine aB ?_ ?_;intro h2;refine aB ?_ ?_;intro C;refine Qf (XZ) Z Z (.inr Z) (aK ?_)
 grind [MM]
 intro C
 grind [MM]
 intro h2
 grind [MM]
theorem Fa:Ok Tryz.prog 216 [.agg [.int .i64 a,.int .i64 b,.int .i64 c,.str p,.str q]] (.agg (dCu (RJ a b c))):=by
 refine Ok.b7 tfol Tryz.func216 Qu4 (QzN Z) ?_;show TW _ _ tf216.body _ _;refine aS ?_;refine Qf (XZ) Z Z (.inr Z) (aR ?_ ?_);intro h1;refine Qf (Yv) Z Z (.inl Z) (aK ?_);refine s7.eq (Zb (ds:=[.int .i64 _,.int .i64 _,.int .i64 _,.int .i64 _,.str _,.str _,.bool _]) (cs:=[_,_,_,_,_,_,_]) Z Z Z Z Z) ?_
 grind [RJ,dCu,ZS]
 intro h1;refine Qf (Z6) Z Z (.inl Z) (aK ?_);refine s7.eq (Zb (ds:=[.int .i64 _,.int .i64 _,.int .i64 _,.int .i64 _,.str _,.str _,.bool _]) (cs:=[_,_,_,_,_,_,_]) Z Z Z Z Z) ?_
 grind [RJ,dCu]
theorem H6:Ok Tryz.prog 217 [.agg [.int .i64 a,.int .i64 b,.int .i64 c,.str p,.str q]] (.agg (dCu (Nr a b c))):=by
 refine Ok.b7 tfol Tryz.func217 Qu5 (QzN Z) ?_;show TW _ _ tf217.body _ _;refine aS ?_;refine Qf (Fx Wc Wc) Z Z (.inl Z) (aB ?_ ?_);intro h1;refine Qf (YM) Z Z (.inl Z) (aK ?_);refine s7.eq (Zb (ds:=[.int .i64 _,.int .i64 _,.int .i64 _,.int .i64 _,.str _,.str _,.bool _]) (cs:=[_,_,_,_,_,_,_]) Z Z Z Z Z) ?_
 grind [Nr,dCu,XP]
 intro h1;refine Qf (Z6) Z Z (.inl Z) (aK ?_);refine s7.eq (Zb (ds:=[.int .i64 _,.int .i64 _,.int .i64 _,.int .i64 _,.str _,.str _,.bool _]) (cs:=[_,_,_,_,_,_,_]) Z Z Z Z Z) ?_
 grind [Nr,dCu]
theorem X1:Ok Tryz.prog 78 [] (Qv [(ZS,XP)]):=by
 refine Ok.b7 tfol Tryz.func78 Qzu (QzN Z) ?_;show TW _ _ tf78.body _ _;refine aS ?_;refine Qf (Yv) Z Z (.inl Z) (Qf (YM) Z Z (.inl Z) (aK ?_));refine Qo Z Z (aK ?_);refine QO Z ?_;rfl
theorem Fz:Ok Tryz.prog 213 [] (Li ([],[])):=by
 refine Ok.b7 tfol Tryz.func213 Qu1 (QzN Z) ?_;show TW _ _ tf213.body _ _;refine aS ?_;refine s7.eq (Zb (ds:=[.sl _,.sl _]) (cs:=[_,_]) Z Z Z Z Z) ?_;rfl
theorem FZ:Ok Tryz.prog 47 [] (Li ([(ZS,XP)],[(ZS,XP)])):=by
 refine Ok.b7 tfol Tryz.func47 Qzk (QzN Z) ?_;show TW _ _ tf47.body _ _;refine aS ?_;refine Qf (X1) Z Z (.inl Z) (Qf (X1) Z Z (.inl Z) (aK ?_));refine s7.eq (Zb (ds:=[.sl _,.sl _]) (cs:=[_,_]) Z Z Z Z Z) ?_;rfl
theorem XY (hp:p.length<=1048576) (C:q.length<=1048576):Ok Tryz.prog 178 [.agg [.int .i64 a,.int .i64 b,.int .i64 c,.str p,.str q]] (Li (ZE a b c p q)):=by
 refine Ok.b7 tfol Tryz.func178 QuK (QzN Z) ?_;show TW _ _ tf178.body _ _;refine aS ?_;refine Qf (Qu Wa Wa) Z Z (.inr Z) (aB ?_ ?_);intro h1;refine Qf (Fz) Z Z (.inl Z) (aK ?_);refine s7.eq (Zb (ds:=[.sl _,.sl _]) (cs:=[_,_]) Z Z Z Z Z) ?_
 grind [ZE,Li,Qv]
 intro h1;refine aB ?_ ?_;intro h2;refine Qw (ds0:=dn 4) (Z6) Z Z (.inl Z) Z Z (aK ?_);refine Qw (ds0:=dn 4) (H5) Z Z (.inl Z) Z Z (aK ?_);refine Qo Z Z (aK ?_);refine KN (ds0:=[]) Z Z Z Z Z Z Z Z Z Z (aK ?_);refine s7.eq (Zb (ds:=[.sl _,.sl _]) (cs:=[_,_]) Z Z Z Z Z) ?_
 (repeat clear hK K);simp_all [ZE,Li,Qv,JJ,dCu]
 intro h2;refine Qw (ds0:=dn 4) (Fa) Z Z (.inl Z) Z Z (aK ?_);refine Qw (ds0:=dn 4) (H6) Z Z (.inl Z) Z Z (aK ?_);refine Qo Z Z (aK ?_);refine KN (ds0:=[]) Z Z Z Z Z Z Z Z Z Z (aK ?_);refine s7.eq (Zb (ds:=[.sl _,.sl _]) (cs:=[_,_]) Z Z Z Z Z) ?_
 (repeat clear hK K);simp_all [ZE,Li,Qv,JJ,dCu]
variable {l:List (Cu × Cu)}
theorem QY (C:Sm l):Ok Tryz.prog 159 [Qv l] (.bool (JL l)):=by
 refine Ok.b7 tfol Tryz.func159 QuA (QzN Z) ?_;show TW _ _ tf159.body _ _;have T:=C.1;refine aS ?_;refine QE (ι:=Nat) (λi=>⟨[(0,Qv l),(3,.int .i64 i)],[]⟩) (λi=>i<=l.length/\(List.range i).all (QmD l)=true) (λi=>l.length - i) 0 ?_ ?_ ?_;exact QJ (kp2 Z Z);simp;intro i G;refine aB ?_ ?_;intro h1;refine Qw (ds0:=dn 20) (ZY (C.at (i:=i) Wa).1.1 (C.at (i:=i) Wa).1.2 (C.at (i:=i) Wa).2.1 (C.at (i:=i) Wa).2.2) Z Z (.inr Z) Z Z (aB ?_ ?_);intro h2;refine Qx Z (aK ?_)
 first
  |exact(GO G.2 Wa).symm
  |exact(YJ (i:=i) Wa (Hq Wa (.inl h2))).symm
  |(simp only[J1]at*;exact(YJ (i:=i) Wa (Hq Wa (.inr ⟨Wa,M⟩))).symm)
 intro h2;refine aB ?_ ?_;intro O;refine Qw (ds0:=[2,1,0]) (QQ (C.at (i:=((i:Int) - 1).toNat) Wa).2.1 (C.at (i:=((i:Int) - 1).toNat) Wa).2.2 (C.at (i:=i) Wa).1.1 (C.at (i:=i) Wa).1.2) Z Z (.inr Z) Z Z (aB ?_ ?_);intro M
 first
  |exact(GO G.2 Wa).symm
  |exact(YJ (i:=i) Wa (Hq Wa (.inl h2))).symm
  |(simp only[J1]at*;exact(YJ (i:=i) Wa (Hq Wa (.inr ⟨Wa,M⟩))).symm)
 intro M;refine Qd (i+1) ?_ ?_ ?_;exact QJ (kp2 Z Z);exact⟨Wa,PC G.2 (QbX Wa h2 (by(simp only[J1]at*;exact .inr (Int.not_le.1 M))))⟩
 omega;intro O;refine QP Z (aK ?_);refine Qd (i+1) ?_ ?_ ?_;exact QJ (kp2 Z Z);exact⟨Wa,PC G.2 (QbX Wa h2 Wa)⟩;omega;intro h1
 first
  |exact(GO G.2 Wa).symm
  |exact(YJ (i:=i) Wa (Hq Wa (.inl h2))).symm
  |(simp only[J1]at*;exact(YJ (i:=i) Wa (Hq Wa (.inr ⟨Wa,M⟩))).symm)
theorem Yi (C:Sm l) {x y:Cu} (hx:Cu.sm x) (O:Cu.sm y):Ok Tryz.prog 281 [Qv l,.agg (dCu x),.agg (dCu y)] (.bool (mIn l x y)):=by
 refine Ok.b7 tfol Tryz.func281 Qvm (QzN Z) ?_;show TW _ _ tf281.body _ _;have T:=C.1;refine aS ?_;refine QE (ι:=Nat) (λi=>⟨[(0,Qv l),(4,.ref 4 0 0),(5,.ref 5 0 0),(7,.int .i64 i)],[(4,⟨[dCu x],7,190,true⟩),(5,⟨[dCu y],7,190,true⟩)]⟩) (λi=>i<=l.length/\(l.take i).any (inC x y)=false) (λi=>l.length - i) 0 ?_ ?_ ?_;exact Qn (l:=[0,4,5,7]) (lH:=[4,5]) (kp4 Z Z Z Z) (Qa Z (Qa Z Qb)) Z Z Z;simp;intro i G;refine aB ?_ ?_;intro h1;refine Qw (ds0:=dn 11) (QQ (C.at (i:=i) Wa).1.1 (C.at (i:=i) Wa).1.2 hx.1 hx.2) Z Z (.inr Z) Z Z (aB ?_ ?_);intro h2;refine Qw (ds0:=[1,0]) (QQ O.1 O.2 (C.at (i:=i) Wa).2.1 (C.at (i:=i) Wa).2.2) Z Z (.inr Z) Z Z (aB ?_ ?_);intro M
 first
  |exact(Qjs (i:=i) Wa G.2).symm
  |exact(QdP (i:=i) Wa (QpE h2 M)).symm
 intro M;refine Qd (i+1) ?_ ?_ ?_;exact Qn (l:=[0,4,5,7]) (lH:=[4,5]) (kp4 Z Z Z Z) (Qa Z (Qa Z Qb)) Z Z Z;exact⟨Wa,PV Wa G.2 (QpD (by exact .inr M))⟩;omega;intro h2;refine QP Z (aK ?_);refine Qd (i+1) ?_ ?_ ?_;exact Qn (l:=[0,4,5,7]) (lH:=[4,5]) (kp4 Z Z Z Z) (Qa Z (Qa Z Qb)) Z Z Z;exact⟨Wa,PV Wa G.2 (QpD (by exact .inl h2))⟩;omega;intro h1
 first
  |exact(Qjs (i:=i) Wa G.2).symm
  |exact(QdP (i:=i) Wa (QpE h2 M)).symm
variable {s:List (Cu × Cu) × List (Cu × Cu)}
theorem JV {l:List (Cu × Cu)} (C:Sm l) (hp:p.length<=1048576) (O:q.length<=1048576):Ok Tryz.prog 124 [Qv l,.agg [.int .i64 a,.int .i64 b,.int .i64 c,.str p,.str q]] (.bool (SL l a b c p q)):=by
 refine Ok.b7 tfol Tryz.func124 Quh (QzN Z) ?_;show TW _ _ tf124.body _ _;have T:=C.1;refine aS ?_;refine QE (ι:=Nat) (λi=>⟨[(0,Qv l),(3,.ref 3 0 0),(5,.int .i64 i)],[(3,⟨[[.int .i64 a,.int .i64 b,.int .i64 c,.str p,.str q]],5,66,true⟩)]⟩) (λi=>i<=l.length/\(l.take i).any (λs=>RM s a b c p q)=false) (λi=>l.length - i) 0 ?_ ?_ ?_;exact Qn (l:=[0,3,5]) (lH:=[3]) (kp3 Z Z Z) (Qa Z Qb) Z Z Z;simp;intro i M;refine aB ?_ ?_;intro h1;refine Qf (QY C) Z Z (.inr Z) (aR ?_ ?_);intro h2;refine Qw (ds0:=[]) (G9 (C.at (i:=i) Wa).1.1 (C.at (i:=i) Wa).1.2 (C.at (i:=i) Wa).2.1 (C.at (i:=i) Wa).2.2 hp O) Z Z (.inr Z) Z Z (aB ?_ ?_);intro G
 first
  |exact(Ph (i:=i) Wa M.2).symm
  |exact(Pi h2).symm
  |exact(Qbo h2 (i:=i) Wa G).symm
 intro G;refine Qd (i+1) ?_ ?_ ?_;exact Qn (l:=[0,3,5]) (lH:=[3]) (kp3 Z Z Z) (Qa Z Qb) Z Z Z;exact⟨Wa,PV Wa M.2 G⟩;omega;intro h2
 grind [Pi]
 intro h1;refine QP Z (aK ?_)
 grind [Ph]
theorem F1 (C:Sm s.1) (O:Sm s.2):Ok Tryz.prog 122 [Li s] (.bool (Kh s)):=by
 refine Ok.b7 tfol Tryz.func122 Quf (QzN Z) ?_;show TW _ _ tf122.body _ _;have V:=C.1;refine aS ?_;refine Qf (QY C) Z Z (.inr Z) (aB ?_ ?_);intro h1;refine Qx Z (aK ?_)
 grind [Ml]
 intro h1;refine Qf (QY O) Z Z (.inr Z) (aB ?_ ?_);intro h2
 grind [Ml]
 intro h2;refine QE (ι:=Nat) (λi=>⟨[(1,.ref 1 0 0),(3,.int .i64 i)],[(1,⟨[[Qv s.1,Qv s.2]],2,79,true⟩)]⟩) (λi=>i<=s.1.length/\(s.1.take i).all (λx=>YB x.1&&YB x.2)=true) (λi=>s.1.length - i) 0 ?_ ?_ ?_;exact Qn (l:=[1,3]) (lH:=[1]) (kp2 Z Z) (Qa Z Qb) Z Z Z;simp;intro i T;refine aB ?_ ?_;intro U;refine Qf (X0) Z Z (.inr Z) (aB ?_ ?_);intro M;refine Qx Z (aK ?_)
 first
  |exact(LM (i:=i) h1 h2 Wa T.2).symm
  |exact(RP (i:=i) Wa (.inl M)).symm
  |exact(RP (i:=i) Wa (.inr G)).symm
  |exact(Ml (.inl h1)).symm
  |exact(Ml (.inr h2)).symm
 intro M;refine Qf (X0) Z Z (.inr Z) (aB ?_ ?_);intro G
 first
  |exact(LM (i:=i) h1 h2 Wa T.2).symm
  |exact(RP (i:=i) Wa (.inl M)).symm
  |exact(RP (i:=i) Wa (.inr G)).symm
  |exact(Ml (.inl h1)).symm
  |exact(Ml (.inr h2)).symm
 intro G;refine Qd (i+1) ?_ ?_ ?_;exact Qn (l:=[1,3]) (lH:=[1]) (kp2 Z Z) (Qa Z Qb) Z Z Z
 grind [Zg,YB]
 omega;intro U
 grind [LM]
theorem F0 (G:Sm s.1) (C:Sm s.2) (hp:p.length<=1048576) (M:q.length<=1048576):Ok Tryz.prog 86 [Li s,.agg [.int .i64 a,.int .i64 b,.int .i64 c,.str p,.str q]] (.bool (Nt s a b c p q)):=by
 refine Ok.b7 tfol Tryz.func86 QzA (QzN Z) ?_;show TW _ _ tf86.body _ _;refine aS ?_;refine Qf (F1 G C) Z Z (.inr Z) (aB ?_ ?_);intro h1;refine Qx Z (aK ?_)
 grind [Nt]
 intro h1;refine Qf (Qu hp M) Z Z (.inr Z) (aB ?_ ?_);intro h2
 grind [Nt]
 intro h2;refine aB ?_ ?_;intro O;refine Qf (JV G hp M) Z Z (.inr Z) (aK ?_)
 grind [Nt]
 intro O;refine Qf (JV C hp M) Z Z (.inr Z) (aK ?_)
 grind [Nt]
theorem JW {l:List Cu} {c:Cu} (V:l.length<=9000000) (C:∀x∈l,Cu.sm x) (G:Cu.sm c):Ok Tryz.prog 290 [SD l,.agg (dCu c)] (SD (KL l c)):=by
 refine Ok.b7 tfol Tryz.func290 Qvq (QzN Z) ?_;show TW _ _ tf290.body _ _;refine aS ?_;refine QE (ι:=Nat) (λk=>⟨[(0,SD l),(3,.ref 3 0 0),(5,.int .i64 k)],[(3,⟨[dCu c],7,190,true⟩)]⟩) (λk=>k<=l.length/\KL l c=l.take k++KL (l.drop k) c) (λk=>l.length - k) 0 ?_ ?_ ?_;exact Qn (l:=[0,3,5]) (lH:=[3]) (kp3 Z Z Z) (Qa Z Qb) Z Z Z;simp;intro k M;refine aB ?_ ?_;intro h1;refine Qw (ds0:=[1,0]) (QQ (C _ (QzS Wa)).1 (C _ (QzS Wa)).2 G.1 G.2) Z Z (.inr Z) Z Z (aB ?_ ?_);intro h2;refine Qd (k+1) ?_ ?_ ?_;exact Qn (l:=[0,3,5]) (lH:=[3]) (kp3 Z Z Z) (Qa Z Qb) Z Z Z;exact⟨Wa,Qfl Wa h2 M.2⟩;omega;intro h2;refine aB ?_ ?_;intro U;refine Qw (ds0:=[1,0]) (QQ (C _ (QzS Wa)).1 (C _ (QzS Wa)).2 G.1 G.2) Z Z (.inr Z) Z Z (aB ?_ ?_);intro T;refine QO Z ?_;rw[Qfk (k:=k) Wa Wp M.2];rfl;intro T;refine XM Z Z Z Z Wa Wa Wb C5 Z (NX (ds0:=[5,1,0]) Z Z (λ_ h=>⟨QiT,h⟩) Z (.inl Z) Wc Wb Wb Z Z (aK ?_));refine Qo Z Z (YL (ds0:=[1,0]) Z Z Wp ⟨_,rfl,rfl,rfl,rfl,rfl⟩ Z Z Wc Z Z Wb Wb Z Z (aK ?_));refine XM Z Z Z Z Wa Wb Wc C5 Z (YL (ds0:=[0]) Z Z Wf ⟨rfl,QiT,rfl⟩ Z Z Wc Z Z Wb Wb Z Z (aK ?_));refine QO Z ?_;rw[QbI (k:=k) (by first |exact .inl Wa |exact .inr ⟨Wa,by trivial,by trivial⟩) M.2];simp[XL,D.fz,D.o7,JG,lk,D.can,D.y6,SD,D.l4,(show∀a b:Nat,a+1+b=a+(b+1) fromλa b=>Wa),Qz3 (show(l.map dCu).length<=l.length by simp)]<;>rfl;intro U
 grind
 intro h1;refine QP Z (aB ?_ ?_);intro O
 grind
 intro O;refine QP Z (aK ?_);refine XM Z Z Z Z Wa Wa Wb C5 Z (NX (ds0:=[5,1,0]) Z Z (λ_ h=>⟨QiT,h⟩) Z (.inl Z) Wc Wb Wb Z Z (aK ?_));refine Qo Z Z (YL (ds0:=[1,0]) Z Z Wp ⟨_,rfl,rfl,rfl,rfl,rfl⟩ Z Z Wc Z Z Wb Wb Z Z (aK ?_));refine XM Z Z Z Z Wa Wb Wc C5 Z (YL (ds0:=[0]) Z Z Wf ⟨rfl,QiT,rfl⟩ Z Z Wc Z Z Wb Wb Z Z (aK ?_));refine QO Z ?_;rw[QbI (k:=k) Wa M.2];simp_all [XL,D.fz,D.o7,JG,lk,D.can,D.y6,SD,D.l4,Qz3,dCu]
theorem YN {l:List (Cu × Cu)} (C:Sm l):Ok Tryz.prog 280 [Qv l] (SD (Yd l)):=by
 refine Ok.b7 tfol Tryz.func280 Qvl (QzN Z) ?_;show TW _ _ tf280.body _ _;have G:=C.1;refine aS ?_;refine Qf (Yv) Z Z (.inl Z) (Qf (YM) Z Z (.inl Z) (Qo Z Z (aK ?_)));refine QE (ι:=Nat) (λi=>⟨[(0,Qv l),(3,SD (Yd (l.take i))),(4,.int .i64 i)],[]⟩) (λi=>i<=l.length) (λi=>l.length - i) 0 ?_ ?_ ?_;exact le_trans (RC 7 _ We) (Qn (l:=[0,3,4]) (lH:=[]) (kp3 Z Z Z) Qb Z Z Z);omega;intro i M;refine aB ?_ ?_;intro h1;refine Qw (ds0:=[1,0]) (JW (Qz6 (Pn C i).1 Wa) (Pn C i).2 (C.2 _ (QzS Wa)).1) Z Z (.inl Z) Z Z (aK ?_);refine Qw (ds0:=[0]) (JW (Qz6 (Po _ _) (by grind [Pn])) (LL (Pn C i).2 (C.2 _ (QzS Wa)).1) (C.2 _ (QzS Wa)).2) Z Z (.inl Z) Z Z (aK ?_);refine Qd (i+1) ?_ ?_ ?_;exact Qn (l:=[0,3,4]) (lH:=[]) (kp3 Z Z Z) Qb (by grind [Qis]) Z Z;omega;omega;intro h1;refine QO Z ?_;rw[Qz3 (Wa:l.length<=i)];rfl
theorem YO {l:List (Cu × Cu)} {x y:Cu} (M:l.length<=9000000) (C:∀s∈l,Cu.sm s.1/\Cu.sm s.2) (hx:Cu.sm x) (G:Cu.sm y):n6 Tryz.prog 282 [.s4 500000 l.length,.agg (dCu x),.agg (dCu y)] [(500000,⟨l.map JJ,14,193,true⟩)] (.s4 500000 (KC l x y).length) [(500000,⟨(KC l x y).map JJ,14,193,true⟩)]:=by
 refine n6.mv tfol Tryz.func282 Qvn (QzN Z) Z ?_;show TW _ _ tf282.body _ _;refine aX ?_ ?_;intro h1;refine DI (ds0:=[5,4,2,1,0]) Z Z Z Wc Wa Wa Z Z Z (aK ?_);refine Qy (ds0:=[2,1,0]) (cs:=[_,_,_,_,_,_,_]) Z (T3 Z (JY Wa Wa)) Z Z Z Z (aK ?_);refine Qw (ds0:=[1,0]) (QQ (C _ (QzS Wa)).2.1 (C _ (QzS Wa)).2.2 hx.1 hx.2) Z Z (.inr Z) Z Z (aB ?_ ?_);intro h2;refine Yg Z Z Z Wc Wa Wa Z (aK ?_);refine Jh Z Z (JY Wa Wa) Z Z Z Z Z (aK ?_);refine ZH Z ?_ (Qaw ?_);rw[CA (i:=((l.length:Int) - 1).toNat) Wa h2];simp[FN,D.fz,D.o7,small,D.can,D.y6];rw[CA (i:=((l.length:Int) - 1).toNat) Wa h2];simp[lk,List.map_set,JJ,dCu,setRow,D.l4];intro h2;refine Qo Z Z (ZR Z Z (λ_ h=>YE Z Z Z h) Z Wc Z Z Z Wb Wb (aK ?_));refine ZH Z ?_ (Qaw ?_);rw[Ns (.inr ⟨((l.length:Int) - 1).toNat,Wa,h2⟩)];simp[FN,D.fz,D.o7,small,D.can,D.y6];rw[Ns (.inr ⟨((l.length:Int) - 1).toNat,Wa,h2⟩)];simp[lk,JJ,dCu,D.l4];intro h1;refine QP Z (aK ?_);refine Qo Z Z (ZR Z Z (λ_ h=>YE Z Z Z h) Z Wc Z Z Z Wb Wb (aK ?_));have h0:l=[]:=QAq Wa;refine ZH Z ?_ (Qaw ?_)
 grind [Ns,FN,D.fz,D.o7,small,D.can,D.y6]
 (repeat clear hK K);simp_all [Ns,lk,JJ,dCu]
theorem Jp {l:List (Cu × Cu)} (G:Sm l):Ok Tryz.prog 286 [Qv l] (.l7 [Qv (Qag l),.bool (l.all Gk)]):=by
 refine Ok.b7 tfol Tryz.func286 Qvo (QzN Z) ?_;show TW _ _ tf286.body _ _;have hn:=G.1;have O:=Gi l;refine aS ?_;refine QE (ι:=Nat) (λi=>⟨[(0,Qv l),(4,.int .i64 i)],[]⟩) (λi=>i<=l.length/\(l.take i).all Gk=true) (λi=>l.length - i) 0 ?_ ?_ ?_;exact QJ (kp2 Z Z);simp;intro i M;refine aB ?_ ?_;intro h1;refine Qf (ZY (G.at (i:=i) Wa).1.1 (G.at (i:=i) Wa).1.2 (G.at (i:=i) Wa).2.1 (G.at (i:=i) Wa).2.2) Z Z (.inr Z) (aB ?_ ?_)
 ·intro h2
  first
   |exact Qr rfl rfl ⟨by rw[Qag,if_neg (by rw[XV (i:=i) Wa Wp];simp)];rfl,by rw[XV (i:=i) Wa Wp];rfl⟩
   |(
    have ha:l.all Gk=true:=N2 Wa M.2;exact Qr Z Z ⟨by rw[Qag,if_pos ha,C.done Wa];simp[XL,D.fz,D.o7,JG,lk,D.can,D.y6,Qv],by rw[ha];rfl⟩)
 intro h2;refine Qd (i+1) ?_ ?_ ?_;exact QJ (kp2 Z Z);exact⟨Wa,Zg Wa M.2 Wp⟩;omega;intro h1;refine Qf (YN G) Z Z (.inl Z) (aK ?_);refine QE (ι:=Nat × List (Cu × Cu)) (λ⟨i,out⟩=>⟨[(0,Qv l),(5,.s4 5 out.length),(6,SD (Yd l)),(7,.int .i64 i)],[(5,⟨out.map JJ,14,193,true⟩)]⟩) (λ⟨i,out⟩=>i<=(Yd l).length/\g9 (mIn l) (Yd l) i out) (λ⟨i,out⟩=>(Yd l).length - i) (0,[]) ?_ ?_ ?_;exact le_trans (Zi 5 5 14 193 Z Z) (Qn (l:=[0,5,6,7]) (lH:=[5]) (kp4 Z Z Z Z) (Qa Z Qb) Z Z Z)
 (repeat clear hK K);simp_all [g9.zero]
 intro ⟨i,out⟩ M;obtain⟨U,C⟩:=M;have T:=C.1;dsimp only;refine aB ?_ ?_;intro Y;refine Qw (ds0:=[]) (Yi G (Zk G _ (QzS Wa)) (Zk G _ (QzS Wa))) Z Z (.inr Z) Z Z (aR ?_ ?_);intro V;refine TK (ds0:=[0]) (Qd6 (k:=5) rfl rfl rfl We rfl We (by simp[D.ids,D.l4,dCu]) ⟨.s4 5 out.length,by simp,by simp[D.ids,D.l4]⟩ rfl rfl (YO Wa C.2.1 (Zk G _ (QzS Wa)) (Zk G _ (QzS Wa)))) (λ_ h=>by cases h) rfl rfl (aK ?_);refine Qd (i+1,KC out (Yd l)[i] (Yd l)[i+1]) ?_ ?_ ?_;exact le_trans (Qaa (l:=[0,6,7]) (t:=50) (u:=5) 5 (kp3 Z Z Z) Z Z Z Z) (Qn (l:=[0,5,6,7]) (lH:=[5]) (kp4 Z Z Z Z) (Qa Z Qb) Z Z Z);exact⟨Wa,C.take (Zk G) Wa Wa⟩;omega;intro V;refine Qd (i+1,out) ?_ ?_ ?_;exact Qn (l:=[0,5,6,7]) (lH:=[5]) (kp4 Z Z Z Z) (Qa Z Qb) Z Z Z;exact⟨Wa,C.skip Wa Wa⟩;omega
 ·intro Y
  first
   |exact Qr rfl rfl ⟨by rw[Qag,if_neg (by rw[XV (i:=i) Wa (by assumption)];simp)];rfl,by rw[XV (i:=i) Wa (by assumption)];rfl⟩
   |(
    have ha:l.all Gk=true:=N2 Wa M.2;exact Qr Z Z ⟨by rw[Qag,if_pos ha,C.done Wa];simp[XL,D.fz,D.o7,JG,lk,D.can,D.y6,Qv],by rw[ha];rfl⟩)
end Go.Proofs
