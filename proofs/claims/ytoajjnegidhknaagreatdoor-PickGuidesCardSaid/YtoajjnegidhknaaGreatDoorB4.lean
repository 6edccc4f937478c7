/- Part 4 of the means of the proof: a verified abstract evaluator, the prepared functions, and contracts of functions. It states nothing of the claim by itself. -/
import Derived.Test.YtoajjnegidhknaaGreatDoorB3
set_option maxRecDepth 4000
set_option linter.unusedSimpArgs false
set_option linter.unusedVariables false
namespace Go.Proofs
open Go Go.Abs M3
theorem Rt {a b : List UInt8} (ha : a.length <= 1000000) (hb : b.length <= 1000000) : Ok Tryz.prog 148 [.str a, .str b] (.int .i64 (TD a b)) := by
 refine Ok.ofT ZS Tryz.func148 QgH (Qik Z) ?_
 show TW _ _ tf148.body _ _
 refine Qd fun K hK => Qa Z (kc2 hK Z Z ?_)
 refine Qd fun K hK => Qa Z (Qw (XD Wa) Z Z (.inr Z) (Qa Z (Qw (XD Wa) Z Z (.inr Z) (mv2 Z Z (kc4 hK Z Z Z Z ?_)))))
 refine QC ?_ -- 0
 refine Qd fun K hK => mv2 Z Z ?_
 refine Qv (g := 16) Z (fun h1 => ?_) (fun h1 => ?_)
 ·rw [h1]
  refine Qe Z (Qa Z (Qh Z Z (kc5 hK Z Z Z Z Z ?_)))
  refine Qt Z (fun h2 => ?_) (fun h2 => ?_)
  ·rw [h2]
   refine Qd fun K hK => Qa Z (Qw (Kg Wa) Z Z (.inr Z) (Qa Z (Q3 Z Z (Q3 Z Z (mv2 Z Z (kc2 hK Z Z ?_))))))
   refine Qd fun K hK => Qa Z (Qw (Kg Wa) Z Z (.inr Z) (Qa Z (Q3 Z Z (Q3 Z Z (mv2 Z Z (kc2 hK Z Z ?_))))))
   refine Qd fun K hK => mv2 Z Z (Qw (ZM) Z Z (.inr Z) (Qa Z (kc1 hK Z ?_)))
   refine Qp (Qj (Qu Z ?_))
   (simp [TD, h1, h2]; done)
  ·rw [h2]
   refine Qq (ks4 Z Z Z Z ?_)
   refine QC ?_ -- 1
   refine Qd fun K hK => mv2 Z Z (QeA Z Z (kc4 hK Z Z Z Z ?_))
   refine Qt Z (fun h3 => ?_) (fun h3 => ?_)
   ·rw [h3]
    simp only [qB] at h3
    refine QC ?_ -- 2
    refine Qd fun K hK => Qa Z (kc1 hK Z ?_)
    refine Ze Z (Qd fun K hK => Qa Z (kc1 hK Z ?_))
    refine Qp (Qj (Qj (Qu Z ?_)))
    (simp [TD, h1, h2, h3]; done)
   ·rw [h3]
    simp only [qB] at h3
    refine Qq (ks2 Z Z (Qd fun K hK => mv2 Z Z (Qw (X4) Z Z (.inr Z) (Qa Z (kc1 hK Z ?_)))))
    refine Qp (Qu Z ?_)
    (repeat clear hK K); (simp_all [TD]; done)
 ·rw [h1]
  refine Xj Z (Qh Z Z (kc5 hK Z Z Z Z Z ?_))
  refine Zm Z (Qq (ks4 Z Z Z Z ?_))
  refine QC ?_ -- 1
  refine Qd fun K hK => mv2 Z Z (QeA Z Z (kc4 hK Z Z Z Z ?_))
  refine Qt Z (fun h4 => ?_) (fun h4 => ?_)
  ·rw [h4]
   simp only [qB] at h4
   refine QC ?_ -- 2
   refine Qd fun K hK => Qa Z (kc1 hK Z ?_)
   refine Zm Z (Qq (QO (Zn) (Qd fun K hK => Qa Z (kc1 hK Z ?_))))
   refine Qp (Qj (Qu Z ?_))
   (repeat clear hK K); (simp_all [TD]; done)
  ·rw [h4]
   simp only [qB] at h4
   refine Qq (ks2 Z Z (Qd fun K hK => mv2 Z Z (Qw (X4) Z Z (.inr Z) (Qa Z (kc1 hK Z ?_)))))
   refine Qp (Qu Z ?_)
   (repeat clear hK K); (simp_all [TD]; done)
theorem Rs {s : List UInt8} (hl : s.length <= 1000000) : Ok Tryz.prog 115 [.str s] (.bool (S9 s)) := by
 refine Ok.ofT ZS Tryz.func115 Qge (Qik Z) ?_
 show TW _ _ tf115.body _ _
 refine Qd fun K hK => Qa Z (kc1 hK Z ?_)
 refine QC ?_ -- 0
 refine Qd fun K hK => Qa Z (Qw (Kj Wa) Z Z (.inr Z) (ZF Z (kc2 hK Z Z ?_)))
 refine Qt Z (fun h1 => ?_) (fun h1 => ?_)
 ·rw [h1]
  simp only [qB, Qx] at h1
  refine Qd fun K hK => Qa Z (kc1 hK Z ?_)
  refine Qp (Qj (Qk Z ?_))
  (simp [S9, h1]; done)
 ·rw [h1]
  simp only [qB, Qx] at h1
  refine Qq (ks1 Z ?_)
  refine QC ?_ -- 1
  refine Qd fun K hK => Qa Z (Qw (Jg Wa) Z Z (.inl Z) (Zh Z Z (Qa Z (kc3 hK Z Z Z ?_))))
  refine QD ?_
  refine Zk (ι := Nat) (fun i => ⟨[(11, .sl (YW (Za s 46))), (12, .int .i64 (Za s 46).length), (13, .int .i64 i)], []⟩) (fun i => i <= (Za s 46).length /\ ((Za s 46).take i).all PE = true) (fun i => (Za s 46).length - i) 0 ?_ ?_ ?_
  ·exact QX (l := [11, 12, 13]) (kp3 rfl rfl rfl) Ql (by simp [Qx]) rfl rfl
  ·exact ⟨Qiw _, rfl⟩
  intro i hI
  have sl := FR (s := s) (c := 46)
  refine Qd fun K hK => ZT Z Z (kc4 hK Z Z Z Z ?_)
  refine QC ?_ -- 2
  refine Qt Z (fun h2 => ?_) (fun h2 => ?_)
  ·rw [h2]
   simp only [qB, Qx] at h2
   refine Qq (ks3 Z Z Z ?_)
   refine QC ?_ -- 3
   refine QD (Qd fun K hK => QI Z Z Z Wa (Ji Wa) Z (Qz Z Z Z (Qa Z (kc4 hK Z Z Z Z ?_))))
   refine Qd fun K hK => Qa Z (Qw (Kg (Jl Wa hl)) Z Z (.inr Z) (Qa Z (Q3 Z Z (Q3 Z Z (mv2 Z Z (kc5 hK Z Z Z Z Z ?_))))))
   refine Qd fun K hK => Qa Z (Qw (XD (Jl Wa hl)) Z Z (.inr Z) (Qa Z ?_))
   refine Qv (g := 24) Z (fun h3 => ?_) (fun h3 => ?_)
   ·rw [h3]
    refine Qe Z (Qa Z (Qe Z (ZF Z (Qh Z Z (kc4 hK Z Z Z Z ?_)))))
    refine Qt Z (fun h4 => ?_) (fun h4 => ?_)
    ·rw [h4]
     simp only [qB, Qx] at h4
     refine Qd fun K hK => Qa Z (kc1 hK Z ?_)
     refine Qp (Qr (Qj (QS (Qr (Qj (Qk Z ?_))))))
     exact (QdN (i := i) Wa (by simp [PE, h1, h2, h3, h4])).symm
    ·rw [h4]
     simp only [qB, Qx] at h4
     refine Qq (Qg (ks3 Z Z Z (QL fun K hK => QU Z Z Wb (Qa Z (hK _ ?_)))))
     refine Qi (i + 1) ?_ ?_ ?_
     ·exact QV (kp3 rfl rfl rfl)
     ·exact ⟨Wa, Zj Wa hI.2 (by simp [PE, h1, h2, h3, h4])⟩
     ·omega
   ·rw [h3]
    refine gn2 Z Z (Qh Z Z (kc4 hK Z Z Z Z ?_))
    refine Zm Z (Qq (Qg (ks3 Z Z Z (QL fun K hK => QU Z Z Wb (Qa Z (hK _ ?_))))))
    refine Qi (i + 1) ?_ ?_ ?_
    ·exact QV (kp3 rfl rfl rfl)
    ·exact ⟨Wa, Zj Wa hI.2 (by simp [PE, h1, h2, h3])⟩
    ·omega
  ·rw [h2]
   simp only [qB, Qx] at h2
   refine Q0 (QE (Qs (QB (QO (Zn) (Qd fun K hK => Qa Z (kc1 hK Z ?_))))))
   refine Qp (Qk Z ?_)
   exact (QbK (i := i) Wh Wa hI.2).symm
theorem YV {a b c : Int} {p q : List UInt8} (hp : p.length <= 1000000) (hq : q.length <= 1000000) : Ok Tryz.prog 97 [.agg [.int .i64 a, .int .i64 b, .int .i64 c, .str p, .str q]] (.bool (K1 a b c p q)) := by
 refine Ok.ofT ZS Tryz.func97 Qie (Qik Z) ?_
 show TW _ _ tf97.body _ _
 refine Qd fun K hK => Zo Z Z Z (Qa Z (kc1 hK Z ?_))
 refine Qd fun K hK => Qf Z Z (Qz Z Z Z (Qw (Ki) Z Z (.inr Z) (Qa Z ?_)))
 refine Qv (g := 6) Z (fun h1 => ?_) (fun h1 => ?_)
 ·rw [h1]
  refine Qe Z (Qf Z Z (Qe Z (Qz Z Z Z (Qe Z (Qw (Ki) Z Z (.inr Z) (Qh Z Z (Qa Z ?_)))))))
  refine Qv (g := 11) Z (fun h2 => ?_) (fun h2 => ?_)
  ·rw [h2]
   refine Qe Z (Qf Z Z (Qe Z (Qz Z Z Z (Qe Z (Qw (Ki) Z Z (.inr Z) (Qh Z Z (Qa Z ?_)))))))
   refine Qv (g := 16) Z (fun h3 => ?_) (fun h3 => ?_)
   ·rw [h3]
    refine Qe Z (Qf Z Z (Qe Z (Qz Z Z Z (Qe Z (Hp Z Z (Qe Z (Qa Z ?_)))))))
    refine Qv (g := 20) Z (fun h4 => ?_) (fun h4 => ?_)
    ·rw [h4]
     simp only [qB] at h4
     refine gn3 Z Z Z (Qe Z (Qh Z Z (Qh Z Z (Qa Z (Qe Z (Qf Z Z (Qe Z (Qz Z Z Z (Qe Z ?_)))))))))
     refine Hp Z Z (Qe Z (Qa Z ?_))
     refine Qv (g := 30) Z (fun h5 => ?_) (fun h5 => ?_)
     ·rw [h5]
      simp only [qB] at h5
      refine gn3 Z Z Z (Qe Z (Qh Z Z (Qh Z Z (Qa Z (kc1 hK Z ?_)))))
      refine Qp (Qk Z ?_)
      simp [K1, YQ, Xl, h1, h2, h3, h4, h5]
     ·rw [h5]
      simp only [qB] at h5
      refine Qe Z (Qf Z Z (Qe Z (Qz Z Z Z (Qe Z (Qw (Kj Wa) Z Z (.inr Z) (Qe Z (Qh Z Z (Qh Z Z (Qa Z (kc1 hK Z ?_))))))))))
      refine Qp (Qk Z ?_)
      simp [K1, YQ, Xl, h1, h2, h3, h4, h5]
    ·rw [h4]
     simp only [qB] at h4
     refine Qe Z (Qf Z Z (Qe Z (Qz Z Z Z (Qe Z (Qw (Rs Wa) Z Z (.inr Z) (Qe Z (Qh Z Z (Qh Z Z (Qa Z ?_)))))))))
     refine Qv (g := 26) Z (fun h6 => ?_) (fun h6 => ?_)
     ·rw [h6]
      refine Qe Z (Qf Z Z (Qe Z (Qz Z Z Z (Qe Z (Hp Z Z (Qe Z (Qa Z ?_)))))))
      refine Qv (g := 30) Z (fun h7 => ?_) (fun h7 => ?_)
      ·rw [h7]
       simp only [qB] at h7
       refine gn3 Z Z Z (Qe Z (Qh Z Z (Qh Z Z (Qa Z (kc1 hK Z ?_)))))
       refine Qp (Qk Z ?_)
       simp [K1, YQ, Xl, h1, h2, h3, h4, h6, h7]
      ·rw [h7]
       simp only [qB] at h7
       refine Qe Z (Qf Z Z (Qe Z (Qz Z Z Z (Qe Z (Qw (Kj Wa) Z Z (.inr Z) (Qe Z (Qh Z Z (Qh Z Z (Qa Z (kc1 hK Z ?_))))))))))
       refine Qp (Qk Z ?_)
       simp [K1, YQ, Xl, h1, h2, h3, h4, h6, h7]
     ·rw [h6]
      refine gn4 Z Z Z Z (QG Z (QG Z (QG Z (Xj Z (Qh Z Z (Qa Z (kc1 hK Z ?_)))))))
      refine Qp (Qk Z ?_)
      simp [K1, YQ, Xl, h1, h2, h3, h4, h6]
   ·rw [h3]
    refine gn4 Z Z Z Z (QG Z (QG Z (QG Z (Xj Z (Qh Z Z (Qa Z (gn2 Z Z ?_)))))))
    refine gn2 Z Z (QG Z (QG Z (QG Z (Xj Z (Qh Z Z (Qa Z (kc1 hK Z ?_)))))))
    refine Qp (Qk Z ?_)
    simp [K1, YQ, Xl, h1, h2, h3]
  ·rw [h2]
   refine gn3 Z Z Z (Qh Z Z (Qa Z (gn4 Z Z Z Z (QG Z (QG Z (QG Z ?_))))))
   refine Xj Z (Qh Z Z (Qa Z (gn4 Z Z Z Z (QG Z (QG Z (QG Z (Xj Z (Qh Z Z ?_))))))))
   refine Qa Z (kc1 hK Z ?_)
   refine Qp (Qk Z ?_)
   simp [K1, YQ, Xl, h1, h2]
 ·rw [h1]
  refine gn3 Z Z Z (Qh Z Z (Qa Z (gn3 Z Z Z (Qh Z Z (Qa Z (gn2 Z Z ?_))))))
  refine gn2 Z Z (QG Z (QG Z (QG Z (Xj Z (Qh Z Z (Qa Z (gn4 Z Z Z Z ?_)))))))
  refine QG Z (QG Z (QG Z (Xj Z (Qh Z Z (Qa Z (kc1 hK Z ?_))))))
  refine Qp (Qk Z ?_)
  simp [K1, YQ, Xl, h1]
theorem Kv {a b c : Int} {p q : List UInt8} (hp : p.length <= 1000000) (hq : q.length <= 1000000) {a' b' c' : Int} {p' q' : List UInt8} (hp' : p'.length <= 1000000) (hq' : q'.length <= 1000000) : Ok Tryz.prog 143 [.agg [.int .i64 a, .int .i64 b, .int .i64 c, .str p, .str q], .agg [.int .i64 a', .int .i64 b', .int .i64 c', .str p', .str q']] (.int .i64 (NP a b c p q a' b' c' p' q')) := by
 refine Ok.ofT ZS Tryz.func143 QgC (Qik Z) ?_
 show TW _ _ tf143.body _ _
 refine Qd fun K hK => Zo Z Z Z (Zo Z Z Z (Qa Z (kc2 hK Z Z ?_)))
 refine QC ?_ -- 0
 refine Qd fun K hK => QN (ds0 := [13, 12, 11, 10, 9, 8, 7, 6, 5, 4, 3, 2, 1, 0]) (cs := [_, _, _, _, _]) Z Z Z Z Z Z (Q7 (ds0 := [12, 11, 10, 9, 8, 7, 6, 5, 4, 3, 2, 1, 0]) (YV Wa Wa) Z Z (.inr Z) Z Z (ZF Z (Qa Z ?_)))
 refine Qv (g := 13) Z (fun h1 => ?_) (fun h1 => ?_)
 ·rw [h1]
  simp only [qB, Qx] at h1
  refine gn3 Z Z Z (Qh Z Z (Qa Z (gn4 Z Z Z Z (Xj Z (Qh Z Z (kc3 hK Z Z Z ?_))))))
  refine Ze Z (Qd fun K hK => Qa Z (kc1 hK Z ?_))
  refine Qp (Qj (Qu Z ?_))
  (simp [NP, h1]; done)
 ·rw [h1]
  simp only [qB, Qx] at h1
  refine Qe Z (QN (ds0 := [9, 8, 7, 6, 5, 4, 3, 2, 1, 0]) (cs := [_, _, _, _, _]) Z Z Z Z Z Z (Qe Z (Q7 (ds0 := [8, 7, 6, 5, 4, 3, 2, 1, 0]) (YV Wa Wa) Z Z (.inr Z) Z Z (Qe Z (ZF Z (Qh Z Z (Qa Z ?_)))))))
  refine Qv (g := 18) Z (fun h2 => ?_) (fun h2 => ?_)
  ·rw [h2]
   simp only [qB, Qx] at h2
   refine gn4 Z Z Z Z (Xj Z (Qh Z Z (kc3 hK Z Z Z ?_)))
   refine Ze Z (Qd fun K hK => Qa Z (kc1 hK Z ?_))
   refine Qp (Qj (Qu Z ?_))
   (simp [NP, h1, h2]; done)
  ·rw [h2]
   simp only [qB, Qx] at h2
   refine Qe Z (QN (ds0 := [4, 1, 0]) (cs := [_, _, _, _, _]) Z Z Z Z Z Z (Qe Z (Q7 (ds0 := [1, 0]) (GH) Z Z (.inl Z) Z Z (Qe Z (QN (ds0 := [2, 1, 0]) (cs := [_, _, _, _, _]) Z Z Z Z Z Z (Qe Z (Q7 (ds0 := [1, 0]) (GH) Z Z (.inl Z) Z Z (Qe Z (Nh Z Z Z (Qh Z Z (kc3 hK Z Z Z ?_)))))))))))
   refine Qt Z (fun h3 => ?_) (fun h3 => ?_)
   ·rw [h3]
    simp only [qB, Qx] at h3
    refine Qd fun K hK => Qa Z (kc1 hK Z ?_)
    refine Qp (Qj (Qu Z ?_))
    exact (QeL Wh Wh Wh).symm
   ·rw [h3]
    simp only [qB, Qx] at h3
    refine Qq (ks2 Z Z ?_)
    refine QC ?_ -- 1
    refine Qd fun K hK => Qf Z Z (QQ (ds0 := [13, 2, 1, 0]) Z Z Z Z Z (Qf Z Z (QQ (ds0 := [13, 2, 1, 0]) Z Z Z Z Z (Q7 (ds0 := [2, 1, 0]) (ZM) Z Z (.inr Z) Z Z (Qf Z Z (QQ (ds0 := [8, 2, 1, 0]) Z Z Z Z Z (Qf Z Z (QQ (ds0 := [8, 2, 1, 0]) Z Z Z Z Z (Q7 (ds0 := [2, 1, 0]) (ZM) Z Z (.inr Z) Z Z (Qf Z Z ?_))))))))))
    refine QQ (ds0 := [3, 2, 1, 0]) Z Z Z Z Z (Qf Z Z (QQ (ds0 := [3, 2, 1, 0]) Z Z Z Z Z (Q7 (ds0 := [2, 1, 0]) (ZM) Z Z (.inr Z) Z Z (QJ Z Z (Q7 (ds0 := [0]) (SG (l := [ZZ a a', ZZ b b', ZZ c c']) Wd) Z Z (.inr Z) Z Z (Qa Z (kc3 hK Z Z Z ?_)))))))
    refine Qd fun K hK => Qa Z (YH Z Z (kc4 hK Z Z Z Z ?_))
    refine Qt Z (fun h4 => ?_) (fun h4 => ?_)
    ·rw [h4]
     simp only [qB, Qx] at h4
     refine Qd fun K hK => mv2 Z Z (kc1 hK Z ?_)
     refine Qp (Qj (Qu Z ?_))
     exact Qdi Wh Wh Wh
    ·rw [h4]
     simp only [qB, Qx] at h4
     refine Qq (ks2 Z Z ?_)
     refine QC ?_ -- 2
     refine Qd fun K hK => Qf Z Z (Qz Z Z Z (Hp Z Z (kc3 hK Z Z Z ?_)))
     refine Qt Z (fun h5 => ?_) (fun h5 => ?_)
     ·rw [h5]
      simp only [qB, Qx] at h5
      refine Qd fun K hK => Qa Z (kc1 hK Z ?_)
      refine Qp (Qj (Qu Z ?_))
      exact (QaU Wh Wh Wh Wh Wh).symm
     ·rw [h5]
      simp only [qB, Qx] at h5
      refine Qq (ks2 Z Z ?_)
      refine QC ?_ -- 3
      refine Qd fun K hK => Qf Z Z (Qz Z Z Z (Hp Z Z (kc3 hK Z Z Z ?_)))
      refine Qt Z (fun h6 => ?_) (fun h6 => ?_)
      ·rw [h6]
       simp only [qB, Qx] at h6
       refine Qd fun K hK => Qa Z (kc1 hK Z ?_)
       refine Qp (Qj (Qu Z ?_))
       exact (QaV Wh Wh Wh Wh Wh).symm
      ·rw [h6]
       simp only [qB, Qx] at h6
       refine Qq (ks2 Z Z (Qd fun K hK => Qf Z Z (QQ (ds0 := [5, 1]) Z Z Z Z Z (Q7 (ds0 := [1]) (Jg Wa) Z Z (.inl Z) Z Z (Qf Z Z (QQ (ds0 := [2, 0]) Z Z Z Z Z (Q7 (ds0 := [0]) (Jg Wa) Z Z (.inl Z) Z Z (mv2 Z Z (kc2 hK Z Z ?_)))))))))
       refine QC ?_ -- 4
       refine Qd fun K hK => Qa Z (kc3 hK Z Z Z ?_)
       refine QD ?_
       refine Zk (ι := Nat) (fun i => ⟨[(6, .sl (YW (Za p 46))), (7, .sl (YW (Za p' 46))), (8, .int .i64 i)], []⟩) (fun i => i <= (Za p 46).length /\ i <= (Za p' 46).length /\ NP a b c p q a' b' c' p' q' = Dg ((Za p 46).drop i) ((Za p' 46).drop i)) (fun i => (Za p 46).length - i) 0 ?_ ?_ ?_
       ·exact QX (l := [6, 7, 8]) (kp3 rfl rfl rfl) Ql rfl rfl rfl
       ·exact ⟨Qiw _, Qiw _, Qdj Wh Wh Wh Wh Wh Wh⟩
       intro i hI
       have sl := FR (s := p) (c := 46)
       refine QC ?_ -- 5
       refine Qd fun K hK => mv2 Z Z (Zh Z Z (ZT Z Z (Qa Z ?_)))
       refine Qv (g := 61) Z (fun h7 => ?_) (fun h7 => ?_)
       ·rw [h7]
        simp only [qB, Qx] at h7
        refine Qe Z (Qa Z (Qe Z (Qa Z (Qe Z (Zh Z Z (Qe Z (ZT Z Z (Qh Z Z (kc4 hK Z Z Z Z ?_)))))))))
        refine Qt Z (fun h8 => ?_) (fun h8 => ?_)
        ·rw [h8]
         simp only [qB, Qx] at h8
         refine Qq (ks3 Z Z Z ?_)
         refine QC ?_ -- 6
         refine QD (Qd fun K hK => mv2 Z Z (QI Z Z Z Wa (Ji Wa) Z (QQ (ds0 := [1, 0]) Z Z Z Z Z (mv2 Z Z (QI Z Z Z Wa (Ji Wa) Z (QQ (ds0 := [1, 0]) Z Z Z Z Z (Q7 (ds0 := [0]) (Rt (Jl Wa hp) (Jl Wa hp')) Z Z (.inr Z) Z Z (Qa Z ?_))))))))
         refine kc4 hK Z Z Z Z ?_
         refine Qd fun K hK => Qa Z (YH Z Z (kc5 hK Z Z Z Z Z ?_))
         refine Qt Z (fun h9 => ?_) (fun h9 => ?_)
         ·rw [h9]
          simp only [qB, Qx] at h9
          refine Qd fun K hK => mv2 Z Z (kc1 hK Z ?_)
          refine Qp (Qr (Qj (QS (Qr (Qj (Qu Z ?_))))))
          rw [hI.2.2, Dh Wa Wa Wh]
         ·rw [h9]
          simp only [qB, Qx] at h9
          refine Qq (Qg (ks3 Z Z Z (QL fun K hK => Qa Z (QU Z Z Wb (Qa Z (hK _ ?_))))))
          refine Qi (i + 1) ?_ ?_ ?_
          ·exact QV (kp3 rfl rfl rfl)
          ·exact ⟨Wa, Wa, by rw [hI.2.2, Ta Wa Wa Wh]⟩
          ·omega
        ·rw [h8]
         simp only [qB, Qx] at h8
         refine Q0 (QE (Qs (QB (ks2 Z Z (Qd fun K hK => Qa Z (Zh Z Z (Qa Z (Zh Z Z (Qw (ZM) Z Z (.inr Z) (Qa Z ?_))))))))))
         refine kc1 hK Z ?_
         refine Qp (Qu Z ?_)
         (rw [hI.2.2, NU Wa Wa Wa]; simp [Qx])
       ·rw [h7]
        simp only [qB, Qx] at h7
        refine gn4 Z Z Z Z (Qh Z Z (kc4 hK Z Z Z Z ?_))
        refine Zm Z (Q0 (QE (Qs (QB (ks2 Z Z (Qd fun K hK => Qa Z (Zh Z Z (Qa Z (Zh Z Z (Qw (ZM) Z Z (.inr Z) ?_))))))))))
        refine Qa Z (kc1 hK Z ?_)
        refine Qp (Qu Z ?_)
        (rw [hI.2.2, NU Wa Wa Wa]; simp [Qx])
theorem Hv {e a b c : Int} {p q : List UInt8} {f : Bool} (hp : p.length <= 1000000) (hq : q.length <= 1000000) : Ok Tryz.prog 141 [.agg [.int .i64 e, .int .i64 a, .int .i64 b, .int .i64 c, .str p, .str q, .bool f]] (.bool (X1 e a b c p q f)) := by
 refine Ok.ofT ZS Tryz.func141 QgA (Qik Z) ?_
 show TW _ _ tf141.body _ _
 refine Qd fun K hK => Zo Z Z Z (Qa Z (kc1 hK Z ?_))
 refine QC ?_ -- 0
 refine Qd fun K hK => Qf Z Z (Qz Z Z Z (Yr Z Z (Qa Z ?_)))
 refine Qv (g := 6) Z (fun h1 => ?_) (fun h1 => ?_)
 ·rw [h1]
  simp only [qB] at h1
  refine gn3 Z Z Z (Qh Z Z (kc2 hK Z Z ?_))
  refine Ze Z (Qd fun K hK => Qf Z Z (QA (cs := [_, _, _, _, _]) Z Z Z Z (QY Z Z (Nh Z Z Z (Qa Z ?_)))))
  refine Qv (g := 15) Z (fun h2 => ?_) (fun h2 => ?_)
  ·rw [h2]
   simp only [qB] at h2
   refine Qe Z (Qf Z Z (Qe Z (Qz Z Z Z (Qe Z (ZF Z (Qh Z Z (Qa Z (kc1 hK Z ?_))))))))
   refine Qp (Qj (Qk Z ?_))
   (repeat clear hK K); (simp_all [X1]; done)
  ·rw [h2]
   simp only [qB] at h2
   refine gn3 Z Z Z (Qh Z Z (Qa Z (kc1 hK Z ?_)))
   refine Qp (Qj (Qk Z ?_))
   (repeat clear hK K); (simp_all [X1]; done)
 ·rw [h1]
  simp only [qB] at h1
  refine Qe Z (Qf Z Z (Qe Z (Qz Z Z Z (Qe Z (Yr Z Z (Qh Z Z (kc2 hK Z Z ?_)))))))
  refine Qt Z (fun h3 => ?_) (fun h3 => ?_)
  ·rw [h3]
   simp only [qB] at h3
   refine Qd fun K hK => Qf Z Z (QA (cs := [_, _, _, _, _]) Z Z Z Z (QY Z Z (Nh Z Z Z (Qa Z ?_))))
   refine Qv (g := 15) Z (fun h4 => ?_) (fun h4 => ?_)
   ·rw [h4]
    simp only [qB] at h4
    refine Qe Z (Qf Z Z (Qe Z (Qz Z Z Z (Qe Z (ZF Z (Qh Z Z (Qa Z (kc1 hK Z ?_))))))))
    refine Qp (Qj (Qk Z ?_))
    (repeat clear hK K); (simp_all [X1]; done)
   ·rw [h4]
    simp only [qB] at h4
    refine gn3 Z Z Z (Qh Z Z (Qa Z (kc1 hK Z ?_)))
    refine Qp (Qj (Qk Z ?_))
    (repeat clear hK K); (simp_all [X1]; done)
  ·rw [h3]
   simp only [qB] at h3
   refine Qd fun K hK => Qf Z Z (Qz Z Z Z (YH Z Z (kc2 hK Z Z ?_)))
   refine Qt Z (fun h5 => ?_) (fun h5 => ?_)
   ·rw [h5]
    simp only [qB] at h5
    refine Qd fun K hK => Qa Z (kc1 hK Z ?_)
    refine Qp (Qj (Qk Z ?_))
    (repeat clear hK K); (simp_all [X1]; done)
   ·rw [h5]
    simp only [qB] at h5
    refine Qq (ks1 Z (Qd fun K hK => Qf Z Z (QA (cs := [_, _, _, _, _]) Z Z Z Z (Qw (YV Wa Wa) Z Z (.inr Z) (Qa Z ?_)))))
    refine Qv (g := 26) Z (fun h6 => ?_) (fun h6 => ?_)
    ·rw [h6]
     refine Qe Z (Qf Z Z (Qe Z (Qf Z Z (Qe Z (Qz Z Z Z (Qe Z (Hp Z Z (Qh Z Z (Qa Z (kc1 hK Z ?_))))))))))
     refine Qp (Qk Z ?_)
     (repeat clear hK K); (simp_all [X1]; done)
    ·rw [h6]
     refine gn4 Z Z Z Z (Qh Z Z (Qa Z (kc1 hK Z ?_)))
     refine Qp (Qk Z ?_)
     (repeat clear hK K); (simp_all [X1]; done)
theorem Fb {e a b c : Int} {p q : List UInt8} {f : Bool} (hp : p.length <= 1000000) (hq : q.length <= 1000000) {e' a' b' c' : Int} {p' q' : List UInt8} {f' : Bool} (hp' : p'.length <= 1000000) (hq' : q'.length <= 1000000) : Ok Tryz.prog 130 [.agg [.int .i64 e, .int .i64 a, .int .i64 b, .int .i64 c, .str p, .str q, .bool f], .agg [.int .i64 e', .int .i64 a', .int .i64 b', .int .i64 c', .str p', .str q', .bool f']] (.int .i64 (Ko e a b c p q f e' a' b' c' p' q' f')) := by
 refine Ok.ofT ZS Tryz.func130 Qgr (Qik Z) ?_
 show TW _ _ tf130.body _ _
 refine Qd fun K hK => Zo Z Z Z (Zo Z Z Z (Qa Z (kc2 hK Z Z ?_)))
 refine QC ?_ -- 0
 refine Qd fun K hK => QA (cs := [_, _, _, _, _, _, _]) Z Z Z Z (Qw (Hv Wa Wa) Z Z (.inr Z) (ZF Z (Qa Z ?_)))
 refine Qv (g := 9) Z (fun h1 => ?_) (fun h1 => ?_)
 ·rw [h1]
  simp only [qB] at h1
  refine gn3 Z Z Z (Qh Z Z (kc3 hK Z Z Z ?_))
  refine Ze Z (Qd fun K hK => Qa Z (kc1 hK Z ?_))
  refine Qp (Qj (Qu Z ?_))
  (simp [Ko, h1]; done)
 ·rw [h1]
  simp only [qB] at h1
  refine Qe Z (QA (cs := [_, _, _, _, _, _, _]) Z Z Z Z (Qe Z (Qw (Hv Wa Wa) Z Z (.inr Z) (Qe Z (ZF Z (Qh Z Z (kc3 hK Z Z Z ?_)))))))
  refine Qt Z (fun h2 => ?_) (fun h2 => ?_)
  ·rw [h2]
   simp only [qB] at h2
   refine Qd fun K hK => Qa Z (kc1 hK Z ?_)
   refine Qp (Qj (Qu Z ?_))
   (simp [Ko, h1, h2]; done)
  ·rw [h2]
   simp only [qB] at h2
   refine Qd fun K hK => Qf Z Z (Qz Z Z Z (YH Z Z (Qa Z ?_)))
   refine Qv (g := 17) Z (fun h3 => ?_) (fun h3 => ?_)
   ·rw [h3]
    simp only [qB] at h3
    refine gn3 Z Z Z (Qh Z Z (kc3 hK Z Z Z ?_))
    refine Ze Z (Qd fun K hK => Qf Z Z (Qz Z Z Z (Qf Z Z (Qz Z Z Z (Qw (ZM) Z Z (.inr Z) (Qa Z (kc1 hK Z ?_)))))))
    refine Qp (Qj (Qu Z ?_))
    (simp [Ko, h1, h2, h3]; done)
   ·rw [h3]
    simp only [qB] at h3
    refine Qe Z (Qf Z Z (Qe Z (Qz Z Z Z (Qe Z (YH Z Z (Qh Z Z (kc3 hK Z Z Z ?_)))))))
    refine Qt Z (fun h4 => ?_) (fun h4 => ?_)
    ·rw [h4]
     simp only [qB] at h4
     refine Qd fun K hK => Qf Z Z (Qz Z Z Z (Qf Z Z (Qz Z Z Z (Qw (ZM) Z Z (.inr Z) (Qa Z (kc1 hK Z ?_))))))
     refine Qp (Qj (Qu Z ?_))
     exact (QaT Wh Wh (by first | (left; assumption) | (right; assumption))).symm
    ·rw [h4]
     simp only [qB] at h4
     refine Qd fun K hK => Qf Z Z (QA (cs := [_, _, _, _, _]) Z Z Z Z (Qf Z Z (QA (cs := [_, _, _, _, _]) Z Z Z Z (Qw (Kv Wa Wa Wa Wa) Z Z (.inr Z) (Qa Z (kc3 hK Z Z Z ?_))))))
     refine Qd fun K hK => Qa Z (YH Z Z (kc4 hK Z Z Z Z ?_))
     refine Qt Z (fun h5 => ?_) (fun h5 => ?_)
     ·rw [h5]
      simp only [qB] at h5
      refine Qd fun K hK => mv2 Z Z (kc1 hK Z ?_)
      refine Qp (Qj (Qu Z ?_))
      (repeat clear hK K); (simp_all [Ko]; done)
     ·rw [h5]
      simp only [qB] at h5
      refine Qd fun K hK => Qf Z Z (Qz Z Z Z (Qf Z Z (Qz Z Z Z (Qeu Z Z (kc2 hK Z Z ?_)))))
      refine Qt Z (fun h6 => ?_) (fun h6 => ?_)
      ·rw [h6]
       simp only [qB] at h6
       refine Qd fun K hK => Qa Z (kc1 hK Z ?_)
       refine Qp (Qj (Qu Z ?_))
       (simp [Ko, h1, h2, h3, h4, h5, h6]; done)
      ·rw [h6]
       simp only [qB] at h6
       refine Qd fun K hK => Qf Z Z (Qz Z Z Z (kc1 hK Z ?_))
       refine Qt Z (fun h7 => ?_) (fun h7 => ?_)
       ·rw [h7]
        refine Qd fun K hK => Qa Z (kc1 hK Z ?_)
        refine Qp (Qj (Qu Z ?_))
        (repeat clear hK K); (simp_all [Ko]; done)
       ·rw [h7]
        refine Qq (QO (Zn) (Qd fun K hK => Qa Z (kc1 hK Z ?_)))
        refine Qp (Qu Z ?_)
        (repeat clear hK K); (simp_all [Ko]; done)
theorem Mm {e a b c : Int} {p q : List UInt8} {f : Bool} (hp : p.length <= 1000000) (hq : q.length <= 1000000) {a' b' c' : Int} {p' q' : List UInt8} (hp' : p'.length <= 1000000) (hq' : q'.length <= 1000000) : Ok Tryz.prog 134 [.agg [.int .i64 e, .int .i64 a, .int .i64 b, .int .i64 c, .str p, .str q, .bool f], .agg [.int .i64 a', .int .i64 b', .int .i64 c', .str p', .str q']] (.bool (Je e a b c p q f a' b' c' p' q')) := by
 refine Ok.ofT ZS Tryz.func134 Qgv (Qik Z) ?_
 show TW _ _ tf134.body _ _
 refine Qd fun K hK => Zo Z Z Z (Zo Z Z Z (Qa Z (kc2 hK Z Z ?_)))
 refine QC ?_ -- 0
 refine Qd fun K hK => QA (cs := [_, _, _, _, _, _, _]) Z Z Z Z (Qw (Hv Wa Wa) Z Z (.inr Z) (ZF Z (Qa Z ?_)))
 refine Qv (g := 9) Z (fun h1 => ?_) (fun h1 => ?_)
 ·rw [h1]
  simp only [qB] at h1
  refine gn3 Z Z Z (Qh Z Z (kc3 hK Z Z Z ?_))
  refine Ze Z (Qd fun K hK => Qa Z (kc1 hK Z ?_))
  refine Qp (Qj (Qk Z ?_))
  (simp [Je, h1]; done)
 ·rw [h1]
  simp only [qB] at h1
  refine Qe Z (QA (cs := [_, _, _, _, _]) Z Z Z Z (Qe Z (Qw (YV Wa Wa) Z Z (.inr Z) (Qe Z (ZF Z (Qh Z Z (kc3 hK Z Z Z ?_)))))))
  refine Qt Z (fun h2 => ?_) (fun h2 => ?_)
  ·rw [h2]
   simp only [qB] at h2
   refine Qd fun K hK => Qa Z (kc1 hK Z ?_)
   refine Qp (Qj (Qk Z ?_))
   (simp [Je, h1, h2]; done)
  ·rw [h2]
   simp only [qB] at h2
   refine Qd fun K hK => Qf Z Z (Qz Z Z Z (YH Z Z (kc3 hK Z Z Z ?_)))
   refine Qt Z (fun h3 => ?_) (fun h3 => ?_)
   ·rw [h3]
    simp only [qB] at h3
    refine Qd fun K hK => Qf Z Z (Qz Z Z Z (ZT Z Z (Qa Z (kc1 hK Z ?_))))
    refine Qp (Qj (Qk Z ?_))
    (simp [Je, h1, h2, h3]; done)
   ·rw [h3]
    simp only [qB] at h3
    refine Qq (ks2 Z Z (Qd fun K hK => Qf Z Z (QA (cs := [_, _, _, _, _]) Z Z Z Z (QA (cs := [_, _, _, _, _]) Z Z Z Z (Qw (Kv Wa Wa Wa Wa) Z Z (.inr Z) (Qa Z (kc2 hK Z Z ?_)))))))
    refine Qd fun K hK => Qa Z (ZT Z Z (Qa Z ?_))
    refine Qv (g := 26) Z (fun h4 => ?_) (fun h4 => ?_)
    ·rw [h4]
     simp only [qB] at h4
     refine gn3 Z Z Z (QG Z (QG Z (QG Z (Xj Z (Qh Z Z (Qa Z (kc1 hK Z ?_)))))))
     refine Qp (Qk Z ?_)
     (repeat clear hK K); (simp_all [Je]; done)
    ·rw [h4]
     simp only [qB] at h4
     refine Qe Z (Qa Z (Qe Z (Yr Z Z (Qe Z (Qa Z ?_)))))
     refine Qv (g := 29) Z (fun h5 => ?_) (fun h5 => ?_)
     ·rw [h5]
      simp only [qB] at h5
      refine Qe Z (Qf Z Z (Qe Z (Qz Z Z Z (Qe Z (ZF Z (Qe Z (Qh Z Z (Qh Z Z (Qa Z (kc1 hK Z ?_))))))))))
      refine Qp (Qk Z ?_)
      (repeat clear hK K); (simp_all [Je]; done)
     ·rw [h5]
      simp only [qB] at h5
      refine gn3 Z Z Z (Qe Z (Qh Z Z (Qh Z Z (Qa Z (kc1 hK Z ?_)))))
      refine Qp (Qk Z ?_)
      (simp [Je, h1, h2, h3, h4, h5]; done)
theorem Fc {e a b c : Int} {p q : List UInt8} {f : Bool} (hp : p.length <= 1000000) (hq : q.length <= 1000000) {e' a' b' c' : Int} {p' q' : List UInt8} {f' : Bool} (hp' : p'.length <= 1000000) (hq' : q'.length <= 1000000) : Ok Tryz.prog 129 [.agg [.int .i64 e, .int .i64 a, .int .i64 b, .int .i64 c, .str p, .str q, .bool f, .int .i64 e', .int .i64 a', .int .i64 b', .int .i64 c', .str p', .str q', .bool f']] (.bool (MX e a b c p q f e' a' b' c' p' q' f')) := by
 refine Ok.ofT ZS Tryz.func129 Qgq (Qik Z) ?_
 show TW _ _ tf129.body _ _
 refine Qd fun K hK => Zo Z Z Z (Qa Z (kc1 hK Z ?_))
 refine Qd fun K hK => Qf Z Z (QA (cs := [_, _, _, _, _, _, _]) Z Z Z Z (Qw (Hv Wa Wa) Z Z (.inr Z) (Qa Z ?_)))
 refine Qv (g := 6) Z (fun h1 => ?_) (fun h1 => ?_)
 ·rw [h1]
  refine Qe Z (Qf Z Z (Qe Z (QA (cs := [_, _, _, _, _, _, _]) Z Z Z Z (Qe Z (Qw (Hv Wa Wa) Z Z (.inr Z) (Qh Z Z (Qa Z ?_)))))))
  refine Qv (g := 11) Z (fun h2 => ?_) (fun h2 => ?_)
  ·rw [h2]
   refine Qe Z (Qf Z Z (Qe Z (QA (cs := [_, _, _, _, _, _, _]) Z Z Z Z (Qe Z (Qf Z Z (Qe Z (QA (cs := [_, _, _, _, _, _, _]) Z Z Z Z (Qe Z (Qw (Fb Wa Wa Wa Wa) Z Z (.inr Z) (Qe Z (ZT Z Z ?_)))))))))))
   refine Qh Z Z (Qa Z (kc1 hK Z ?_))
   refine Qp (Qk Z ?_)
   (simp [MX, h1, h2]; done)
  ·rw [h2]
   refine gn4 Z Z Z Z (gn2 Z Z (Qh Z Z (Qa Z (kc1 hK Z ?_))))
   refine Qp (Qk Z ?_)
   (simp [MX, h1, h2]; done)
 ·rw [h1]
  refine gn3 Z Z Z (Qh Z Z (Qa Z (gn4 Z Z Z Z (gn2 Z Z (Qh Z Z ?_)))))
  refine Qa Z (kc1 hK Z ?_)
  refine Qp (Qk Z ?_)
  (simp [MX, h1]; done)
theorem TP {e a b c : Int} {p q : List UInt8} {f : Bool} (hp : p.length <= 1000000) (hq : q.length <= 1000000) {e' a' b' c' : Int} {p' q' : List UInt8} {f' : Bool} (hp' : p'.length <= 1000000) (hq' : q'.length <= 1000000) {x y z : Int} {r s : List UInt8} (hr : r.length <= 1000000) (hs : s.length <= 1000000) : Ok Tryz.prog 117 [.agg [.int .i64 e, .int .i64 a, .int .i64 b, .int .i64 c, .str p, .str q, .bool f, .int .i64 e', .int .i64 a', .int .i64 b', .int .i64 c', .str p', .str q', .bool f'], .agg [.int .i64 x, .int .i64 y, .int .i64 z, .str r, .str s]] (.bool (HO e a b c p q f e' a' b' c' p' q' f' x y z r s)) := by
 refine Ok.ofT ZS Tryz.func117 Qgg (Qik Z) ?_
 show TW _ _ tf117.body _ _
 refine Qd fun K hK => Zo Z Z Z (Zo Z Z Z (Qa Z (kc2 hK Z Z ?_)))
 refine Qd fun K hK => QA (cs := [_, _, _, _, _, _, _, _, _, _, _, _, _, _]) Z Z Z Z (Qw (Fc Wa Wa Wa Wa) Z Z (.inr Z) (Qa Z ?_))
 refine Qv (g := 7) Z (fun h1 => ?_) (fun h1 => ?_)
 ·rw [h1]
  refine Qe Z (QA (cs := [_, _, _, _, _]) Z Z Z Z (Qe Z (Qw (YV Wa Wa) Z Z (.inr Z) (Qh Z Z (Qa Z ?_)))))
  refine Qv (g := 11) Z (fun h2 => ?_) (fun h2 => ?_)
  ·rw [h2]
   refine Qe Z (Qf Z Z (Qe Z (QA (cs := [_, _, _, _, _, _, _]) Z Z Z Z (Qe Z (QA (cs := [_, _, _, _, _]) Z Z Z Z (Qe Z (Qw (Mm Wa Wa Wa Wa) Z Z (.inr Z) (Qh Z Z (Qa Z ?_)))))))))
   refine Qv (g := 17) Z (fun h3 => ?_) (fun h3 => ?_)
   ·rw [h3]
    refine Qe Z (Qf Z Z (Qe Z (QA (cs := [_, _, _, _, _, _, _]) Z Z Z Z (Qe Z (QA (cs := [_, _, _, _, _]) Z Z Z Z (Qe Z (Qw (Mm Wa Wa Wa Wa) Z Z (.inr Z) (Qe Z (ZF Z (Qh Z Z (Qa Z ?_)))))))))))
    refine kc1 hK Z ?_
    refine Qp (Qk Z ?_)
    (simp [HO, h1, h2, h3]; done)
   ·rw [h3]
    refine gn4 Z Z Z Z (Xj Z (Qh Z Z (Qa Z (kc1 hK Z ?_))))
    refine Qp (Qk Z ?_)
    (simp [HO, h1, h2, h3]; done)
  ·rw [h2]
   refine gn4 Z Z Z Z (Qh Z Z (Qa Z (gn4 Z Z Z Z (Xj Z (Qh Z Z ?_)))))
   refine Qa Z (kc1 hK Z ?_)
   refine Qp (Qk Z ?_)
   (simp [HO, h1, h2]; done)
 ·rw [h1]
  refine gn2 Z Z (Qh Z Z (Qa Z (gn4 Z Z Z Z (Qh Z Z (Qa Z (gn2 Z Z ?_))))))
  refine gn3 Z Z Z (Qh Z Z (Qa Z (kc1 hK Z ?_)))
  refine Qp (Qk Z ?_)
  (simp [HO, h1]; done)
end Go.Proofs
namespace M3
open Go Go.Abs
open Go Go.Abs
end M3
namespace M3
open Go Go.Abs
end M3
namespace M25
open Go Go.Abs M3
def Nt (a b c : Int) : Bool := decide (a = 0) && decide (b = 0) && decide (c = 0)
def GY (a b c : Int) (p q : List UInt8) (part : Int) : Option (Int × Int × Int) :=
 if K1 a b c p q = false \/ part < 0 \/ 2 < part then none
 else
  let o := if part = 0 then (a + 1, 0, 0) else if part = 1 then (a, b + 1, 0) else (a, b, c + 1)
  if K1 o.1 o.2.1 o.2.2 [] [] = true then some o else none
def dOV (o : Option (Int × Int × Int)) : D := .tup [.agg [.int .i64 (o.getD (0, 0, 0)).1, .int .i64 (o.getD (0, 0, 0)).2.1, .int .i64 (o.getD (0, 0, 0)).2.2, .str [], .str []], .bool o.isSome]
def XL (a b c : Int) (p q : List UInt8) : Nat -> Option (Int × Int × Int)
 | 0 => none
 | n + 1 => if (GY a b c p q n).isSome = true then GY a b c p q n else XL a b c p q n
def S8 (a b c : Int) (p q : List UInt8) : Option (Int × Int × Int) :=
 if K1 a b c p q = false then none else if p ≠ [] then some (a, b, c) else XL a b c p q 3
theorem Gk {a b c : Int} {p q : List UInt8} (h : K1 a b c p q = true) : (0 <= a /\ a <= 9999) /\ (0 <= b /\ b <= 9999) /\ (0 <= c /\ c <= 9999) := by
 simp only [K1, PA, Qio, decide_eq_true_eq] at h
 omega
theorem TO {a b c : Int} {p q : List UInt8} {m : Nat} (hm : 0 < m) (h : (GY a b c p q ((m : Int) - 1)).isSome = false) : XL a b c p q m = XL a b c p q (m - 1) := by
 obtain ⟨n, rfl⟩ : ∃ n, m = n + 1 := ⟨m - 1, Wa⟩
 rw [show ((n + 1 : Nat) : Int) - 1 = (n : Int) by omega] at h
 rw [XL, if_neg (by rw [h]; simp)]; rfl
theorem SF {a b c : Int} {p q : List UInt8} {m : Nat} (hm : 0 < m) (h : (GY a b c p q ((m : Int) - 1)).isSome = true) : XL a b c p q m = GY a b c p q ((m : Int) - 1) := by
 obtain ⟨n, rfl⟩ : ∃ n, m = n + 1 := ⟨m - 1, Wa⟩
 rw [show ((n + 1 : Nat) : Int) - 1 = (n : Int) by omega] at h ⊢
 rw [XL, if_pos h]
def dCu (x : Cu) : List D := [.int .i64 x.e, .int .i64 x.a, .int .i64 x.b, .int .i64 x.c, .str x.p, .str x.q, .bool x.f]
def ND (s : Cu × Cu) : List D := dCu s.1 ++ dCu s.2
def Zi (l : List (Cu × Cu)) : D := .sl (l.map ND)
def Mt (s : List (Cu × Cu) × List (Cu × Cu)) : D := .agg [Zi s.1, Zi s.2]
def GI : Cu := ⟨-1, 0, 0, 0, [], [], false⟩
def Pz : Cu := ⟨1, 0, 0, 0, [], [], false⟩
def MT (a b c : Int) : Cu := if Nt a b c = true then GI else ⟨0, a, b, c, [], [], false⟩
def FB (a b c : Int) : Cu := match S8 a b c [] [] with
 | none => Pz
 | some o => ⟨0, o.1, o.2.1, o.2.2, [], [], false⟩
def Xk (a b c : Int) (p q : List UInt8) : List (Cu × Cu) × List (Cu × Cu) :=
 if K1 a b c p q = false then ([], []) else if p ≠ [] then ([], [(⟨0, a, b, c, p, [], false⟩, ⟨0, a, b, c, p, [], true⟩)]) else ([(MT a b c, FB a b c)], [])
def Nv (e a b c : Int) (p q : List UInt8) (f : Bool) : Bool := !decide (e = 0) || (!f && decide (p = []) && !Nt a b c)
def Cu.sm (x : Cu) : Prop := x.p.length <= 1000000 /\ x.q.length <= 1000000
def Sm (l : List (Cu × Cu)) : Prop := l.length <= 1000000 /\ ∀ s ∈ l, Cu.sm s.1 /\ Cu.sm s.2
theorem Sm.at {l : List (Cu × Cu)} (h : Sm l) {i : Nat} (hi : i < l.length) : (l[i].1.p.length <= 1000000 /\ l[i].1.q.length <= 1000000) /\ (l[i].2.p.length <= 1000000 /\ l[i].2.q.length <= 1000000) := h.2 _ (Qip hi)
def GM (s : Cu × Cu) : Bool := MX s.1.e s.1.a s.1.b s.1.c s.1.p s.1.q s.1.f s.2.e s.2.a s.2.b s.2.c s.2.p s.2.q s.2.f
def KZ (x y : Cu) : Int := Ko x.e x.a x.b x.c x.p x.q x.f y.e y.a y.b y.c y.p y.q y.f
def QdI (l : List (Cu × Cu)) (i : Nat) : Bool := match l[i]? with
 | none => true
 | some s => GM s && (decide (i = 0) || match l[i - 1]? with | none => true | some r => decide (KZ r.2 s.1 < 0))
theorem Li {l : List (Cu × Cu)} {i : Nat} (h : i < l.length) : QdI l i = (GM l[i] && (decide (i = 0) || decide (KZ (l[i - 1]'Wa).2 l[i].1 < 0))) := by
 unfold QdI
 rw [List.getElem?_eq_getElem h, List.getElem?_eq_getElem (Wa : i - 1 < l.length)]
theorem Do {l : List (Cu × Cu)} {i : Nat} (h : i < l.length) (h1 : GM l[i] = true) (h2 : i = 0 \/ KZ (l[i - 1]'Wa).2 l[i].1 < 0) : QdI l i = true := by
 rw [Li h, h1]; simpa using h2
theorem Hg {l : List (Cu × Cu)} {i : Nat} (h : i < l.length) (h1 : GM l[i] = false \/ (i ≠ 0 /\ 0 <= KZ (l[i - 1]'Wa).2 l[i].1)) : QdI l i = false := by
 rw [Li h]
 rcases h1 with h1 | ⟨h1, h2⟩
 ·rw [h1]; rfl
 ·simp only [Qix, Bool.or_eq_false_iff, decide_eq_false_iff_not]
  exact .inr ⟨h1, Wa⟩
def Hm (l : List (Cu × Cu)) : Bool := (List.range l.length).all (QdI l)
theorem Yi {n i : Nat} {p : Nat -> Bool} (h : i < n) (hp : p i = false) : (List.range n).all p = false := by
 rw [Bool.eq_false_iff]; intro ha
 rw [Qiu] at ha
 rw [ha i (QiH.2 h)] at hp; cases hp
theorem Jk {i : Nat} {p : Nat -> Bool} (h : (List.range i).all p = true) (hp : p i = true) : (List.range (i + 1)).all p = true := by
 rw [List.range_succ, List.all_append, h]; simp [hp]
theorem Gn {i : Nat} {p : Nat -> Bool} {n : Nat} (h : (List.range i).all p = true) (hn : n <= i) : (List.range n).all p = true := by
 rw [Qiu] at h ⊢
 exact fun x hx => h x (QiH.2 (Nat.lt_of_lt_of_le (QiH.1 hx) hn))
def MV (s : Cu × Cu) (a b c : Int) (p q : List UInt8) : Bool := HO s.1.e s.1.a s.1.b s.1.c s.1.p s.1.q s.1.f s.2.e s.2.a s.2.b s.2.c s.2.p s.2.q s.2.f a b c p q
def PB (l : List (Cu × Cu)) (a b c : Int) (p q : List UInt8) : Bool := Hm l && l.any fun s => MV s a b c p q
theorem Gb {l : List (Cu × Cu)} {a b c : Int} {p q : List UInt8} {i : Nat} (hi : l.length <= i) (h : (l.take i).any (fun s => MV s a b c p q) = false) : PB l a b c p q = false := by
 rw [QiA hi] at h; rw [PB, h, Bool.and_false]
theorem Gc {l : List (Cu × Cu)} {a b c : Int} {p q : List UInt8} (h : Hm l = false) : PB l a b c p q = false := by rw [PB, h]; rfl
theorem Gd {l : List (Cu × Cu)} {a b c : Int} {p q : List UInt8} {i : Nat} (h : Hm l = true) (hi : i < l.length) (hp : MV l[i] a b c p q = true) : PB l a b c p q = true := by
 rw [PB, h, Bool.true_and]; exact List.any_eq_true.2 ⟨_, Qip hi, hp⟩
def inC (x y : Cu) (s : Cu × Cu) : Bool := decide (KZ s.1 x <= 0) && decide (KZ y s.2 <= 0)
theorem QeV {x y : Cu} {s : Cu × Cu} (h1 : KZ s.1 x <= 0) (h2 : KZ y s.2 <= 0) : inC x y s = true := by simp [inC, h1, h2]
theorem QeU {x y : Cu} {s : Cu × Cu} (h : ¬ KZ s.1 x <= 0 \/ ¬ KZ y s.2 <= 0) : inC x y s = false := by
 simp only [inC, Qix, decide_eq_false_iff_not]; exact h
def mIn (l : List (Cu × Cu)) (x y : Cu) : Bool := l.any (inC x y)
theorem TM {α : Type} {s : List α} {p : α -> Bool} {i : Nat} (h : i < s.length) (hp : p s[i] = true) : s.any p = true := List.any_eq_true.2 ⟨_, Qip h, hp⟩
theorem Qcd {α : Type} {s : List α} {p : α -> Bool} {i : Nat} (hi : s.length <= i) (h : (s.take i).any p = false) : s.any p = false := by rwa [QiA hi] at h
theorem Mh {α : Type} {s : List α} {p : α -> Bool} {i : Nat} (h : i < s.length) (ha : (s.take i).any p = false) (hp : p s[i] = false) : (s.take (i + 1)).any p = false := by
 rw [List.take_succ_eq_append_getElem h, List.any_append, ha]; simp [hp]
def Xm (x : Cu) : Bool := Nv x.e x.a x.b x.c x.p x.q x.f
def GZ (s : List (Cu × Cu) × List (Cu × Cu)) : Bool := Hm s.1 && Hm s.2 && s.1.all fun x => Xm x.1 && Xm x.2
def MU (s : List (Cu × Cu) × List (Cu × Cu)) (a b c : Int) (p q : List UInt8) : Bool :=
 GZ s && K1 a b c p q && (if p = [] then PB s.1 a b c p q else PB s.2 a b c p q)
theorem Kp {s : List (Cu × Cu) × List (Cu × Cu)} (h : Hm s.1 = false \/ Hm s.2 = false) : GZ s = false := by
 rw [GZ]; rcases h with h | h <;> simp [h]
theorem JD {s : List (Cu × Cu) × List (Cu × Cu)} {i : Nat} (hi : i < s.1.length) (h : Xm s.1[i].1 = false \/ Xm s.1[i].2 = false) : GZ s = false := by
 have : (s.1.all fun x => Xm x.1 && Xm x.2) = false := XA hi (by rcases h with h | h <;> simp [h])
 rw [GZ, this, Bool.and_false]
theorem FE {s : List (Cu × Cu) × List (Cu × Cu)} {i : Nat} (h1 : Hm s.1 = true) (h2 : Hm s.2 = true) (hi : s.1.length <= i) (h : (s.1.take i).all (fun x => Xm x.1 && Xm x.2) = true) : GZ s = true := by
 rw [QiA hi] at h
 rw [GZ, h1, h2, h]; rfl
def Rv (l : List Cu) : D := .sl (l.map dCu)
theorem To {l : List Cu} : ∀ r ∈ l.map dCu, r.length = 7 := fun r hr => by obtain ⟨x, _, rfl⟩ := Qiy.1 hr; rfl
theorem QbR {l : List Cu} {a b : Nat} : ∀ r ∈ ((l.map dCu).take a).drop b, r.length = 7 := fun r hr => To r (QiE (List.mem_of_mem_drop hr))
def HP : List Cu -> Cu -> List Cu
 | [], c => [c]
 | x :: r, c => if KZ x c < 0 then x :: HP r c else if KZ x c = 0 then x :: r else c :: x :: r
theorem BH {l : List Cu} {c : Cu} {k : Nat} (hk : k < l.length) (h : KZ l[k] c < 0) (hi : HP l c = l.take k ++ HP (l.drop k) c) : HP l c = l.take (k + 1) ++ HP (l.drop (k + 1)) c := by
 rw [hi, QiB hk, HP, if_pos h, List.take_succ_eq_append_getElem hk, List.append_assoc]; rfl
theorem BG {l : List Cu} {c : Cu} {k : Nat} (hk : k < l.length) (h : KZ l[k] c = 0) (hi : HP l c = l.take k ++ HP (l.drop k) c) : HP l c = l := by
 rw [hi, QiB hk, HP, if_neg Wa, if_pos h, <- QiB hk, List.take_append_drop]
theorem Df {l : List Cu} {c : Cu} {k : Nat} (h : l.length <= k \/ ∃ hk : k < l.length, ¬ KZ l[k] c < 0 /\ KZ l[k] c ≠ 0) (hi : HP l c = l.take k ++ HP (l.drop k) c) : HP l c = l.take k ++ c :: l.drop k := by
 rw [hi]
 rcases h with h | ⟨hk, h1, h2⟩
 ·rw [QiF h, HP]
 ·rw [QiB hk, HP, if_neg h1, if_neg h2]
theorem NT : ∀ (l : List Cu) (c : Cu), (HP l c).length <= l.length + 1
 | [], c => by simp [HP]
 | x :: r, c => by
  have := NT r c
  simp only [HP]
  (repeat' split) <;> simp <;> omega
theorem RR : ∀ {l : List Cu} {c : Cu}, (∀ x ∈ l, Cu.sm x) -> Cu.sm c -> ∀ x ∈ HP l c, Cu.sm x
 | [], c, _, hc, x, hx => by simp [HP] at hx; exact hx ▸ hc
 | y :: r, c, hl, hc, x, hx => by
  simp only [HP] at hx
  split at hx
  ·rcases Qim.1 hx with rfl | hx
   ·exact hl _ Wd
   ·exact RR (fun z hz => hl z (by simp [hz])) hc x hx
  ·split at hx
   ·exact hl x hx
   ·rcases Qim.1 hx with rfl | hx
    ·exact hc
    ·exact hl x hx
def YZ (l : List (Cu × Cu)) : List Cu := l.foldl (fun out s => HP (HP out s.1) s.2) [GI, Pz]
theorem Qbl {l : List (Cu × Cu)} {i : Nat} (h : i < l.length) : YZ (l.take (i + 1)) = HP (HP (YZ (l.take i)) l[i].1) l[i].2 := by
 rw [List.take_succ_eq_append_getElem h, YZ, List.foldl_append]; rfl
theorem P3 : ∀ (l : List (Cu × Cu)) (out : List Cu), (l.foldl (fun out s => HP (HP out s.1) s.2) out).length <= out.length + 2 * l.length
 | [], out => by simp
 | s :: l, out => by
  have h1 := NT out s.1
  have h2 := NT (HP out s.1) s.2
  have := P3 l (HP (HP out s.1) s.2)
  simp only [List.foldl_cons, List.length_cons]; omega
theorem HL (l : List (Cu × Cu)) : (YZ l).length <= 2 + 2 * l.length := P3 l _
theorem S5 : ∀ {l : List (Cu × Cu)} {out : List Cu}, (∀ s ∈ l, Cu.sm s.1 /\ Cu.sm s.2) -> (∀ x ∈ out, Cu.sm x) -> ∀ x ∈ l.foldl (fun out s => HP (HP out s.1) s.2) out, Cu.sm x
 | [], _, _, h => h
 | s :: l, out, hl, h => by
  rw [List.foldl_cons]
  exact S5 (fun t ht => hl t (by simp [ht])) (RR (RR h (hl s Wd).1) (hl s Wd).2)
theorem Dd {l : List (Cu × Cu)} (hl : ∀ s ∈ l, Cu.sm s.1 /\ Cu.sm s.2) : ∀ x ∈ YZ l, Cu.sm x := S5 hl (by
 intro x hx
 simp only [Qim, Qil, or_false] at hx
 rcases hx with rfl | rfl <;> exact ⟨Qiw _, Qiw _⟩)
theorem NQ {l : List (Cu × Cu)} (hl : Sm l) (i : Nat) : (YZ (l.take i)).length <= 2000002 /\ ∀ x ∈ YZ (l.take i), Cu.sm x := by
 refine ⟨?_, Dd fun s hs => hl.2 s (QiE hs)⟩
 have := HL (l.take i)
 have h2 : (l.take i).length <= l.length := List.length_take_le' ..
 have := hl.1
 omega
def HN (l : List (Cu × Cu)) (x y : Cu) : List (Cu × Cu) := match l.getLast? with
 | some s => if KZ s.2 x = 0 then l.dropLast ++ [(s.1, y)] else l ++ [(x, y)]
 | none => l ++ [(x, y)]
theorem S6 {l : List (Cu × Cu)} {x y : Cu} {i : Nat} (hi : i + 1 = l.length) (h : KZ (l[i]'Wa).2 x = 0) : HN l x y = l.set i ((l[i]'Wa).1, y) := by
 have hg : l.getLast? = some (l[i]'Wa) := by
  rw [List.getLast?_eq_getElem?, show l.length - 1 = i by omega, List.getElem?_eq_getElem]
 rw [HN, hg]
 simp only [h, if_true]
 rw [List.dropLast_eq_take, show l.length - 1 = i by omega, List.set_eq_take_append_cons_drop, if_pos Wa, QiF Wa]
theorem FD {l : List (Cu × Cu)} {x y : Cu} (h : l = [] \/ ∃ i, ∃ hi : i + 1 = l.length, KZ (l[i]'Wa).2 x ≠ 0) : HN l x y = l ++ [(x, y)] := by
 rcases h with rfl | ⟨i, hi, h⟩
 ·rfl
 ·have hg : l.getLast? = some (l[i]'Wa) := by
   rw [List.getLast?_eq_getElem?, show l.length - 1 = i by omega, List.getElem?_eq_getElem]
  rw [HN, hg]
  simp only [if_neg h]
theorem S7 (l : List (Cu × Cu)) (x y : Cu) : (HN l x y).length <= l.length + 1 := by
 unfold HN
 split
 ·split
  ·simp
  ·simp
 ·simp
theorem De {l : List (Cu × Cu)} {x y : Cu} (hl : ∀ s ∈ l, Cu.sm s.1 /\ Cu.sm s.2) (hx : Cu.sm x) (hy : Cu.sm y) : ∀ s ∈ HN l x y, Cu.sm s.1 /\ Cu.sm s.2 := by
 intro s hs
 unfold HN at hs
 split at hs
 ·rename_i t ht
  have ht' := List.mem_of_getLast? ht
  split at hs
  ·rcases Qiv.1 hs with hs | hs
   ·exact hl s (List.dropLast_subset _ hs)
   ·simp at hs; subst hs; exact ⟨(hl t ht').1, hy⟩
  ·rcases Qiv.1 hs with hs | hs
   ·exact hl s hs
   ·simp at hs; subst hs; exact ⟨hx, hy⟩
 ·rcases Qiv.1 hs with hs | hs
  ·exact hl s hs
  ·simp at hs; subst hs; exact ⟨hx, hy⟩
theorem L3 {α β : Type} {l : List α} {f : α -> β} {i : Nat} (h : i + 1 < l.length) : (l.map f)[((i : Int) + 1).toNat]? = some (f l[i + 1]) := by
 rw [show ((i : Int) + 1).toNat = i + 1 by omega, List.getElem?_map, List.getElem?_eq_getElem h]; rfl
def HM (f : Cu -> Cu -> Bool) : List Cu -> List (Cu × Cu) -> List (Cu × Cu)
 | x :: y :: r, out => HM f (y :: r) (if f x y = true then HN out x y else out)
 | _, out => out
def Lf (l : List (Cu × Cu)) : List (Cu × Cu) := if l.all GM = true then HM (mIn l) (YZ l) [] else []
theorem P4 {f : Cu -> Cu -> Bool} {c : List Cu} {out : List (Cu × Cu)} {i : Nat} (h : i + 1 < c.length) : HM f (c.drop i) out = HM f (c.drop (i + 1)) (if f c[i] c[i + 1] = true then HN out c[i] c[i + 1] else out) := by
 rw [QiB (Wa : i < c.length), QiB h, HM]
theorem BF {f : Cu -> Cu -> Bool} {c : List Cu} {out : List (Cu × Cu)} {i : Nat} (h : c.length <= i + 1) : HM f (c.drop i) out = out := by
 have : (c.drop i).length <= 1 := by simp; omega
 match hd : c.drop i with
 | [] => rfl
 | [x] => rfl
 | x :: y :: r => rw [hd] at this; simp at this
def FillI (f : Cu -> Cu -> Bool) (c : List Cu) (i : Nat) (out : List (Cu × Cu)) : Prop :=
 out.length <= i /\ (∀ s ∈ out, Cu.sm s.1 /\ Cu.sm s.2) /\ HM f c [] = HM f (c.drop i) out
theorem FillI.zero {f : Cu -> Cu -> Bool} {c : List Cu} : FillI f c 0 [] := ⟨Qiw _, by simp, by simp⟩
theorem FillI.take {f : Cu -> Cu -> Bool} {c : List Cu} {i : Nat} {out : List (Cu × Cu)} (h : FillI f c i out) (hc : ∀ x ∈ c, Cu.sm x) (hi : i + 1 < c.length) (ht : f c[i] c[i + 1] = true) : FillI f c (i + 1) (HN out c[i] c[i + 1]) := by
 obtain ⟨h1, h2, h3⟩ := h
 refine ⟨QiD (S7 ..) Wa, De h2 (hc _ (Qip _)) (hc _ (Qip _)), ?_⟩
 rw [h3, P4 hi, if_pos ht]
theorem FillI.skip {f : Cu -> Cu -> Bool} {c : List Cu} {i : Nat} {out : List (Cu × Cu)} (h : FillI f c i out) (hi : i + 1 < c.length) (ht : f c[i] c[i + 1] = false) : FillI f c (i + 1) out := by
 obtain ⟨h1, h2, h3⟩ := h
 exact ⟨Wa, h2, by rw [h3, P4 hi, if_neg (by rw [ht]; simp)]⟩
theorem FillI.done {f : Cu -> Cu -> Bool} {c : List Cu} {i : Nat} {out : List (Cu × Cu)} (h : FillI f c i out) (hi : c.length <= i + 1) : HM f c [] = out := by rw [h.2.2, BF hi]
theorem QcL {i : Nat} : ((i : Int) + 1).toNat = i + 1 := Wa
theorem YB {l : List (Cu × Cu)} (hl : Sm l) : ∀ x ∈ YZ l, Cu.sm x := Dd hl.2
def Qcv (a b : List (Cu × Cu)) : List (Cu × Cu) := if Hm a = true /\ Hm b = true then Lf (a ++ b) else []
def Lg (a : List (Cu × Cu)) : List (Cu × Cu) := if Hm a = true then HM (fun x y => !mIn a x y) (YZ a) [] else []
theorem QcC {l : List (Cu × Cu)} : ∀ r ∈ l.map ND, r.length = 14 := fun r hr => by obtain ⟨x, _, rfl⟩ := Qiy.1 hr; rfl
theorem Sm.app {a b : List (Cu × Cu)} (ha : Sm a) (hb : Sm b) (h : a.length + b.length <= 1000000) : Sm (a ++ b) := by
 refine ⟨by simp; omega, fun s hs => ?_⟩
 rcases Qiv.1 hs with hs | hs
 ·exact ha.2 s hs
 ·exact hb.2 s hs
theorem QfQ {H : Qih} {S : Nat -> Bool} {k n : Nat} {b : Box} (hS : S k = true) (hb : lk H k = some b) (hp : b.pr = true) (hn : n = b.rows.length) : (D.osl k n).fz H S = .sl b.rows := by
 simp only [D.fz, D.fzS, hS, hb, if_true, hp, hn, and_self]
abbrev Nj := List (Cu × Cu) × List (Cu × Cu)
def Qcw (a b : Nj) : Nj := if GZ a = true /\ GZ b = true then (Qcv a.1 b.1, Qcv a.2 b.2) else ([], [])
def RQ (a : Nj) : Nj := if GZ a = true then (Lg a.1, Lg a.2) else ([], [])
def mPl (v n : Int) : Int := if n < 1 then 0 else MW v n
theorem P7 {v n : Int} : 0 <= mPl v n := by
 unfold mPl; split
 ·omega
 ·exact QbI Wa
theorem P6 {v n : Int} (h : 1 <= n) : mPl v n < n := by
 rw [mPl, if_neg Wa]; exact QbH Wa
def JG (l : List Int) (i : Int) : Int := if i < 0 \/ (l.length : Int) <= i then i.tmod 3 else l.getD i.toNat 0
theorem BE {l : List Int} {i : Int} (h0 : 0 <= i) (h : i < l.length) : JG l i = l[i.toNat]'Wa := by
 rw [JG, if_neg Wa, List.getD_eq_getElem?_getD, List.getElem?_eq_getElem Wa]; rfl
def I64 (x : Int) : Prop := -9223372036854775808 <= x /\ x <= 9223372036854775807
theorem RN {l : List Int} {i : Int} (hl : ∀ x ∈ l, I64 x) (hi : I64 i) : I64 (JG l i) := by
 by_cases h : i < 0 \/ (l.length : Int) <= i
 ·rw [JG, if_pos h]
  have h1 := Int.tmod_lt_of_pos i (Wa : (0 : Int) < 3)
  have h2 := Int.lt_tmod_of_pos i (Wa : (0 : Int) < 3)
  exact ⟨Wa, Wa⟩
 ·rw [BE Wa Wa]
  exact hl _ (Qip _)
theorem Pk (x : Int) : I64 (IntKind.i64.wrap x) := by
 unfold IntKind.wrap I64
 simp only [IntKind.bits, IntKind.signed, Bool.true_and]
 split
 ·rename_i h
  have := of_decide_eq_true h
  omega
 ·rename_i h
  have : ¬ (x % 2 ^ 64 >= 2 ^ (64 - 1)) := fun hh => h (decide_eq_true hh)
  omega
theorem F4 {α : Type} {k : Nat} {v : α} {l : List (Nat × α)} : lk ((k, v) :: l) k = some v := by rw [Qm, if_pos rfl]
theorem NO {α : Type} {k : Nat} {v : α} {l : List (Nat × α)} : (lk ((k, v) :: l) k).isSome = true := by rw [F4]; rfl
def gB (L : List Int) (I : Int) (et : Nat) : Box := ⟨[[QP L, .int .i64 I]], 2, et, true⟩
def nxI (I : Int) : Int := IntKind.i64.wrap (I + 1)
def nx (L : List Int) (I n : Int) : Int := mPl (JG L (IntKind.i64.wrap (nxI I - 1))) n
def Tb (h m : Int) : Int := if Hl .and .i64 h m = h then 2 else if Hl .and .i64 h m = 0 then 0 else 1
theorem R4 {i : Nat} (h : i <= 62) : 1 <= (2 : Int) ^ i /\ (2 : Int) ^ i <= 4611686018427387904 := by
 have h1 : (2 : Nat) ^ i <= 2 ^ 62 := Nat.pow_le_pow_right Wa h
 have h2 : 1 <= (2 : Nat) ^ i := Nat.one_le_two_pow
 have h3 : ((2 ^ i : Nat) : Int) = (2 : Int) ^ i := by simp
 rw [<- h3]
 have h4 : (2 : Nat) ^ 62 = 4611686018427387904 := by decide
 omega
structure Vr where
 a : Int
 b : Int
 c : Int
 p : List UInt8
 q : List UInt8
def dVr (v : Vr) : List D := [.int .i64 v.a, .int .i64 v.b, .int .i64 v.c, .str v.p, .str v.q]
def Vr.sm (v : Vr) : Prop := v.p.length <= 100 /\ v.q.length <= 100
def versions : List Vr := [⟨1, 0, 0, [], []⟩, ⟨1, 2, 0, [], []⟩, ⟨2, 0, 0, [97, 46, 49], []⟩, ⟨2, 0, 0, [], []⟩]
theorem Lz : ∀ v ∈ versions, v.sm := by
 intro v hv
 simp only [versions, Qim, Qil, or_false] at hv
 rcases hv with rfl | rfl | rfl | rfl <;> exact ⟨by decide, by decide⟩
theorem J9 {i : Nat} : ((i : Int) - 1).toNat = i - 1 := Wa
end M25
namespace Go.Proofs
open Go Go.Abs M3 M25
theorem Jr {a b c : Int} {p q : List UInt8} : Ok Tryz.prog 88 [.agg [.int .i64 a, .int .i64 b, .int .i64 c, .str p, .str q]] (.agg [.int .i64 a, .int .i64 b, .int .i64 c, .str p, .str []]) := by
 refine Ok.ofT ZS Tryz.func88 Qh5 (Qik Z) ?_
 show TW _ _ tf88.body _ _
 refine Qd fun K hK => Zo Z Z Z (Zv Z (kc2 hK Z Z ?_))
 refine Qd fun K hK => Qf Z Z (QZ Z Z Z Z Z Z Z Z (kc2 hK Z Z ?_))
 refine Qd fun K hK => QA (cs := [_, _, _, _, _]) Z Z Z Z (QZ Z Z Z Z Z Z Z Z (kc1 hK Z ?_))
 refine Qp (ZE (cs := [_, _, _, _, _]) Z Z Z Z ?_)
 exact rfl
theorem Y6  : Ok Tryz.prog 90 [] (.agg [.int .i64 (-1), .int .i64 0, .int .i64 0, .int .i64 0, .str [], .str [], .bool false]) := by
 refine Ok.ofT ZS Tryz.func90 Qh7 (Qik Z) ?_
 show TW _ _ tf90.body _ _
 refine Qd fun K hK => Zv Z (kc1 hK Z ?_)
 refine Qd fun K hK => QY Z Z (QZ Z Z Z Z Z Z Z Z (kc1 hK Z ?_))
 refine Qp (ZE (cs := [_, _, _, _, _, _, _]) Z Z Z Z ?_)
 exact rfl
theorem Xg  : Ok Tryz.prog 92 [] (.agg [.int .i64 1, .int .i64 0, .int .i64 0, .int .i64 0, .str [], .str [], .bool false]) := by
 refine Ok.ofT ZS Tryz.func92 Qh9 (Qik Z) ?_
 show TW _ _ tf92.body _ _
 refine Qd fun K hK => Zv Z (kc1 hK Z ?_)
 refine Qd fun K hK => QY Z Z (QZ Z Z Z Z Z Z Z Z (kc1 hK Z ?_))
 refine Qp (ZE (cs := [_, _, _, _, _, _, _]) Z Z Z Z ?_)
 exact rfl
theorem YL {a b c : Int} {p q : List UInt8} : Ok Tryz.prog 63 [.agg [.int .i64 a, .int .i64 b, .int .i64 c, .str p, .str q]] (.agg [.int .i64 0, .int .i64 a, .int .i64 b, .int .i64 c, .str p, .str [], .bool false]) := by
 refine Ok.ofT ZS Tryz.func63 QhL (Qik Z) ?_
 show TW _ _ tf63.body _ _
 refine Qd fun K hK => Zo Z Z Z (Zv Z (kc2 hK Z Z ?_))
 refine Qd fun K hK => QA (cs := [_, _, _, _, _]) Z Z Z Z (Qw (Jr) Z Z (.inl Z) (QY Z Z (QZ Z Z Z Z Z Z Z Z (kc1 hK Z ?_))))
 refine Qp (ZE (cs := [_, _, _, _, _, _, _]) Z Z Z Z ?_)
 exact rfl
theorem HA {a b c : Int} {p q : List UInt8} : Ok Tryz.prog 64 [.agg [.int .i64 a, .int .i64 b, .int .i64 c, .str p, .str q]] (.agg [.int .i64 0, .int .i64 a, .int .i64 b, .int .i64 c, .str p, .str [], .bool true]) := by
 refine Ok.ofT ZS Tryz.func64 QhM (Qik Z) ?_
 show TW _ _ tf64.body _ _
 refine Qd fun K hK => Zo Z Z Z (Zv Z (kc2 hK Z Z ?_))
 refine Qd fun K hK => QA (cs := [_, _, _, _, _]) Z Z Z Z (Qw (Jr) Z Z (.inl Z) (QY Z Z (QZ Z Z Z Z Z Z Z Z (kc1 hK Z ?_))))
 refine Qp (ZE (cs := [_, _, _, _, _, _, _]) Z Z Z Z ?_)
 exact rfl
theorem X9 {a b c : Int} {p q : List UInt8} : Ok Tryz.prog 89 [.agg [.int .i64 a, .int .i64 b, .int .i64 c, .str p, .str q]] (.bool (Nt a b c)) := by
 refine Ok.ofT ZS Tryz.func89 Qh6 (Qik Z) ?_
 show TW _ _ tf89.body _ _
 refine Qd fun K hK => Zo Z Z Z (Qa Z (kc1 hK Z ?_))
 refine Qd fun K hK => Qf Z Z (Qz Z Z Z (Yr Z Z (Qa Z ?_)))
 refine Qv (g := 6) Z (fun h1 => ?_) (fun h1 => ?_)
 ·rw [h1]
  simp only [qB] at h1
  refine Qe Z (Qf Z Z (Qe Z (Qz Z Z Z (Qe Z (Yr Z Z (Qh Z Z (Qa Z ?_)))))))
  refine Qv (g := 11) Z (fun h2 => ?_) (fun h2 => ?_)
  ·rw [h2]
   simp only [qB] at h2
   refine Qe Z (Qf Z Z (Qe Z (Qz Z Z Z (Qe Z (Yr Z Z (Qh Z Z (Qa Z (kc1 hK Z ?_))))))))
   refine Qp (Qk Z ?_)
   (repeat clear hK K); simp_all [Nt]
  ·rw [h2]
   simp only [qB] at h2
   refine gn3 Z Z Z (Qh Z Z (Qa Z (kc1 hK Z ?_)))
   refine Qp (Qk Z ?_)
   (repeat clear hK K); simp_all [Nt]
 ·rw [h1]
  simp only [qB] at h1
  refine gn3 Z Z Z (Qh Z Z (Qa Z (gn3 Z Z Z (Qh Z Z (Qa Z (kc1 hK Z ?_))))))
  refine Qp (Qk Z ?_)
  (repeat clear hK K); simp_all [Nt]
open Go Go.Abs M3 M25
theorem GS {a b c : Int} {p q : List UInt8} (hp : p.length <= 1000000) (hq : q.length <= 1000000) {part : Int} : Ok Tryz.prog 109 [.agg [.int .i64 a, .int .i64 b, .int .i64 c, .str p, .str q], .int .i64 part] (dOV (GY a b c p q part)) := by
 refine Ok.ofT ZS Tryz.func109 Qf8 (Qik Z) ?_
 show TW _ _ tf109.body _ _
 refine Qd fun K hK => Zo Z Z Z (Zv Z (Qa Z (kc3 hK Z Z Z ?_)))
 refine QC ?_ -- 0
 refine Qd fun K hK => QA (cs := [_, _, _, _, _]) Z Z Z Z (Qw (Zf Wa Wa) Z Z (.inr Z) (ZF Z (Qa Z ?_)))
 refine Qv (g := 10) Z (fun h1 => ?_) (fun h1 => ?_)
 ·rw [h1]
  simp only [qB] at h1
  refine gn2 Z Z (Qh Z Z (Qa Z (gn2 Z Z (Qh Z Z (kc4 hK Z Z Z Z ?_)))))
  refine Ze Z (Qd fun K hK => QY Z Z (QZ Z Z Z Z Z Z Z Z (Qa Z (kc2 hK Z Z ?_))))
  refine Qp (Qj (Post.eq (XG (ds := [.int .i64 _, .int .i64 _, .int .i64 _, .str _, .str _]) (d' := .bool _) (cs := [_, _, _, _, _]) Z Z Z Z Z ⟨rfl, rfl⟩) ?_))
  (simp [GY, dOV, h1]; done)
 ·rw [h1]
  simp only [qB] at h1
  refine Qe Z (Qa Z (Qe Z (ZT Z Z (Qh Z Z (Qa Z ?_)))))
  refine Qv (g := 14) Z (fun h2 => ?_) (fun h2 => ?_)
  ·rw [h2]
   simp only [qB] at h2
   refine gn2 Z Z (Qh Z Z (kc4 hK Z Z Z Z ?_))
   refine Ze Z (Qd fun K hK => QY Z Z (QZ Z Z Z Z Z Z Z Z (Qa Z (kc2 hK Z Z ?_))))
   refine Qp (Qj (Post.eq (XG (ds := [.int .i64 _, .int .i64 _, .int .i64 _, .str _, .str _]) (d' := .bool _) (cs := [_, _, _, _, _]) Z Z Z Z Z ⟨rfl, rfl⟩) ?_))
   (simp [GY, dOV, h1, h2]; done)
  ·rw [h2]
   simp only [qB] at h2
   refine Qe Z (Qa Z (Qe Z (Gt Z Z (Qh Z Z (kc4 hK Z Z Z Z ?_)))))
   refine Qt Z (fun h3 => ?_) (fun h3 => ?_)
   ·rw [h3]
    simp only [qB] at h3
    refine Qd fun K hK => QY Z Z (QZ Z Z Z Z Z Z Z Z (Qa Z (kc2 hK Z Z ?_)))
    refine Qp (Qj (Post.eq (XG (ds := [.int .i64 _, .int .i64 _, .int .i64 _, .str _, .str _]) (d' := .bool _) (cs := [_, _, _, _, _]) Z Z Z Z Z ⟨rfl, rfl⟩) ?_))
    (simp [GY, dOV, h1, h2, h3]; done)
   ·rw [h3]
    simp only [qB] at h3
    refine Qq (ks3 Z Z Z (Qd fun K hK => Zv Z (kc4 hK Z Z Z Z ?_)))
    refine QC ?_ -- 1
    refine Qd fun K hK => Qa Z (kc4 hK Z Z Z Z ?_)
    refine QD (Qd fun K hK => Yr Z Z (Qa Z (kc5 hK Z Z Z Z Z ?_)))
    refine Qt Z (fun h4 => ?_) (fun h4 => ?_)
    ·rw [h4]
     simp only [qB] at h4
     refine QL fun K hK => Qf Z Z (Qz Z Z Z (QU Z Z (Qo (by have := Gk (by simpa using h1); omega) (by have := Gk (by simpa using h1); omega)) (QY Z Z (QZ Z Z Z Z Z Z Z Z (hK _ ?_)))))
     refine Qg (ks2 Z Z ?_)
     refine QC ?_ -- 2
     refine Qd fun K hK => QA (cs := [_, _, _, _, _]) Z Z Z Z (Qw (Zf Wd Wd) Z Z (.inr Z) (ZF Z (kc3 hK Z Z Z ?_)))
     refine Qt Z (fun h5 => ?_) (fun h5 => ?_)
     ·rw [h5]
      simp only [qB] at h5
      refine Qd fun K hK => QY Z Z (QZ Z Z Z Z Z Z Z Z (Qa Z (kc2 hK Z Z ?_)))
      refine Qp (Qj (Post.eq (XG (ds := [.int .i64 _, .int .i64 _, .int .i64 _, .str _, .str _]) (d' := .bool _) (cs := [_, _, _, _, _]) Z Z Z Z Z ⟨rfl, rfl⟩) ?_))
      (simp [GY, dOV, h1, h2, h3, h4, h5]; done)
     ·rw [h5]
      simp only [qB] at h5
      refine Qq (ks2 Z Z (Qd fun K hK => QA (cs := [_, _, _, _, _]) Z Z Z Z (QZ Z Z Z Z Z Z Z Z (Qa Z (kc2 hK Z Z ?_)))))
      refine Qp (Post.eq (XG (ds := [.int .i64 _, .int .i64 _, .int .i64 _, .str _, .str _]) (d' := .bool _) (cs := [_, _, _, _, _]) Z Z Z Z Z ⟨rfl, rfl⟩) ?_)
      (simp [GY, dOV, h1, h2, h3, h4, h5]; done)
    ·rw [h4]
     simp only [qB] at h4
     refine Qd fun K hK => Yr Z Z (Qa Z (kc4 hK Z Z Z Z ?_))
     refine Qt Z (fun h6 => ?_) (fun h6 => ?_)
     ·rw [h6]
      simp only [qB] at h6
      refine QL fun K hK => Qf Z Z (Qz Z Z Z (Qf Z Z (Qz Z Z Z (QU Z Z (Qo (by have := Gk (by simpa using h1); omega) (by have := Gk (by simpa using h1); omega)) (QY Z Z (QZ Z Z Z Z Z Z Z Z (hK _ ?_)))))))
      refine Qg (ks2 Z Z ?_)
      refine QC ?_ -- 2
      refine Qd fun K hK => QA (cs := [_, _, _, _, _]) Z Z Z Z (Qw (Zf Wd Wd) Z Z (.inr Z) (ZF Z (kc3 hK Z Z Z ?_)))
      refine Qt Z (fun h7 => ?_) (fun h7 => ?_)
      ·rw [h7]
       simp only [qB] at h7
       refine Qd fun K hK => QY Z Z (QZ Z Z Z Z Z Z Z Z (Qa Z (kc2 hK Z Z ?_)))
       refine Qp (Qj (Post.eq (XG (ds := [.int .i64 _, .int .i64 _, .int .i64 _, .str _, .str _]) (d' := .bool _) (cs := [_, _, _, _, _]) Z Z Z Z Z ⟨rfl, rfl⟩) ?_))
       (simp [GY, dOV, h1, h2, h3, h4, h6, h7]; done)
      ·rw [h7]
       simp only [qB] at h7
       refine Qq (ks2 Z Z (Qd fun K hK => QA (cs := [_, _, _, _, _]) Z Z Z Z (QZ Z Z Z Z Z Z Z Z (Qa Z (kc2 hK Z Z ?_)))))
       refine Qp (Post.eq (XG (ds := [.int .i64 _, .int .i64 _, .int .i64 _, .str _, .str _]) (d' := .bool _) (cs := [_, _, _, _, _]) Z Z Z Z Z ⟨rfl, rfl⟩) ?_)
       (simp [GY, dOV, h1, h2, h3, h4, h6, h7]; done)
     ·rw [h6]
      simp only [qB] at h6
      refine QL fun K hK => Qf Z Z (Qz Z Z Z (Qf Z Z (Qz Z Z Z (Qf Z Z (Qz Z Z Z (QU Z Z (Qo (by have := Gk (by simpa using h1); omega) (by have := Gk (by simpa using h1); omega)) (QY Z Z (QZ Z Z Z Z Z Z Z Z (hK _ ?_)))))))))
      refine Qg (ks2 Z Z ?_)
      refine QC ?_ -- 2
      refine Qd fun K hK => QA (cs := [_, _, _, _, _]) Z Z Z Z (Qw (Zf Wd Wd) Z Z (.inr Z) (ZF Z (kc3 hK Z Z Z ?_)))
      refine Qt Z (fun h8 => ?_) (fun h8 => ?_)
      ·rw [h8]
       simp only [qB] at h8
       refine Qd fun K hK => QY Z Z (QZ Z Z Z Z Z Z Z Z (Qa Z (kc2 hK Z Z ?_)))
       refine Qp (Qj (Post.eq (XG (ds := [.int .i64 _, .int .i64 _, .int .i64 _, .str _, .str _]) (d' := .bool _) (cs := [_, _, _, _, _]) Z Z Z Z Z ⟨rfl, rfl⟩) ?_))
       (simp [GY, dOV, h1, h2, h3, h4, h6, h8]; done)
      ·rw [h8]
       simp only [qB] at h8
       refine Qq (ks2 Z Z (Qd fun K hK => QA (cs := [_, _, _, _, _]) Z Z Z Z (QZ Z Z Z Z Z Z Z Z (Qa Z (kc2 hK Z Z ?_)))))
       refine Qp (Post.eq (XG (ds := [.int .i64 _, .int .i64 _, .int .i64 _, .str _, .str _]) (d' := .bool _) (cs := [_, _, _, _, _]) Z Z Z Z Z ⟨rfl, rfl⟩) ?_)
       (simp [GY, dOV, h1, h2, h3, h4, h6, h8]; done)
theorem GT {a b c : Int} {p q : List UInt8} (hp : p.length <= 1000000) (hq : q.length <= 1000000) : Ok Tryz.prog 91 [.agg [.int .i64 a, .int .i64 b, .int .i64 c, .str p, .str q]] (dOV (S8 a b c p q)) := by
 refine Ok.ofT ZS Tryz.func91 Qh8 (Qik Z) ?_
 show TW _ _ tf91.body _ _
 refine Qd fun K hK => Zo Z Z Z (Zv Z (Qa Z (kc2 hK Z Z ?_)))
 refine QC ?_ -- 0
 refine Qd fun K hK => QA (cs := [_, _, _, _, _]) Z Z Z Z (Qw (Zf Wa Wa) Z Z (.inr Z) (ZF Z (kc3 hK Z Z Z ?_)))
 refine Qt Z (fun h1 => ?_) (fun h1 => ?_)
 ·rw [h1]
  simp only [qB] at h1
  refine Qd fun K hK => QY Z Z (QZ Z Z Z Z Z Z Z Z (Qa Z (kc2 hK Z Z ?_)))
  refine Qp (Qj (Post.eq (XG (ds := [.int .i64 _, .int .i64 _, .int .i64 _, .str _, .str _]) (d' := .bool _) (cs := [_, _, _, _, _]) Z Z Z Z Z ⟨rfl, rfl⟩) ?_))
  simp [S8, dOV, h1]
 ·rw [h1]
  simp only [qB] at h1
  refine Qq (ks2 Z Z ?_)
  refine QC ?_ -- 1
  refine Qd fun K hK => Qf Z Z (Qz Z Z Z (Cs Z Z (kc3 hK Z Z Z ?_)))
  refine Qt Z (fun h2 => ?_) (fun h2 => ?_)
  ·rw [h2]
   simp only [qB] at h2
   refine Qd fun K hK => Qf Z Z (Qz Z Z Z (Qf Z Z (Qz Z Z Z (Qf Z Z (Qz Z Z Z (QY Z Z (QZ Z Z Z Z Z Z Z Z (Qa Z (kc2 hK Z Z ?_)))))))))
   refine Qp (Qj (Post.eq (XG (ds := [.int .i64 _, .int .i64 _, .int .i64 _, .str _, .str _]) (d' := .bool _) (cs := [_, _, _, _, _]) Z Z Z Z Z ⟨rfl, rfl⟩) ?_))
   simp [S8, dOV, h1, h2]
  ·rw [h2]
   simp only [qB] at h2
   refine Qq (ks2 Z Z ?_)
   refine QC ?_ -- 2
   refine Qd fun K hK => Qa Z (kc3 hK Z Z Z ?_)
   refine QD ?_
   refine Zk (ι := Nat) (fun m => ⟨[(1, .ref 1 0 0), (2, .ref 2 0 0), (4, .int .i64 ((m : Int) - 1))], [(1, ⟨[[.int .i64 a, .int .i64 b, .int .i64 c, .str p, .str q]], 5, 59, true⟩), (2, ⟨[[.int .i64 0, .int .i64 0, .int .i64 0, .str [], .str []]], 5, 59, true⟩)]⟩) (fun m => m <= 3 /\ XL a b c p q 3 = XL a b c p q m) (fun m => m) 3 ?_ ?_ ?_
   ·exact QX (l := [1, 2, 4]) (lH := [1, 2]) (kp3 rfl rfl rfl) (Qb rfl (Qb rfl Ql)) rfl rfl rfl
   ·exact ⟨Wa, rfl⟩
   intro m hI
   obtain ⟨hI1, hI2⟩ := hI
   refine QC ?_ -- 3
   refine Qd fun K hK => Qa Z (Ni Z Z (kc4 hK Z Z Z Z ?_))
   refine Qt Z (fun h3 => ?_) (fun h3 => ?_)
   ·rw [h3]
    simp only [qB] at h3
    rcases Nat.eq_zero_or_pos m with hm | hm <;> first | omega | skip
    refine Qq (ks3 Z Z Z ?_)
    refine QC ?_ -- 4
    refine QD (Qd fun K hK => QA (cs := [_, _, _, _, _]) Z Z Z Z (Qa Z (Qw (GS Wa Wa) Z Z (.inl Z) (Qa Z (Q3 Z Z (Q3 Z Z (Zv Z (QZ Z Z Z Z Z Z Z Z (Qa Z (kc5 hK Z Z Z Z Z ?_))))))))))
    refine Qd fun K hK => Qa Z (kc5 hK Z Z Z Z Z ?_)
    refine Qt Z (fun h4 => ?_) (fun h4 => ?_)
    ·rw [h4]
     refine Qd fun K hK => QA (cs := [_, _, _, _, _]) Z Z Z Z (QZ Z Z Z Z Z Z Z Z (Qa Z (kc2 hK Z Z ?_)))
     refine Qp (Qr (Qj (QS (Qr (Qj (Post.eq (XG (ds := [.int .i64 _, .int .i64 _, .int .i64 _, .str _, .str _]) (d' := .bool _) (cs := [_, _, _, _, _]) Z Z Z Z Z ⟨rfl, rfl⟩) ?_))))))
     subst h2
     simp [S8, dOV, h1, hI2, SF hm h4, h4]
    ·rw [h4]
     refine Qq (Qg (ks3 Z Z Z (QL fun K hK => Qa Z (GP Z Z Wb (Qa Z (hK _ ?_))))))
     refine Qi (m - 1) ?_ ?_ ?_
     ·refine QX (l := [1, 2, 4]) (lH := [1, 2]) (kp3 Z Z Z) (Qb Z (Qb Z Ql)) ?_ Z rfl; simp only [List.cons.injEq, Prod.mk.injEq, D.int.injEq, and_true, true_and]; omega
     ·exact ⟨Wa, by rw [hI2]; exact TO hm h4⟩
     ·show m - 1 < m; omega
   ·rw [h3]
    simp only [qB] at h3
    rcases Nat.eq_zero_or_pos m with hm | hm <;> first | omega | skip
    refine Q0 (QE (Qs (QB (ks1 Z (Qd fun K hK => QY Z Z (QZ Z Z Z Z Z Z Z Z (Qa Z (kc2 hK Z Z ?_))))))))
    refine Qp (Post.eq (XG (ds := [.int .i64 _, .int .i64 _, .int .i64 _, .str _, .str _]) (d' := .bool _) (cs := [_, _, _, _, _]) Z Z Z Z Z ⟨rfl, rfl⟩) ?_)
    subst h2
    subst hm
    have hb : XL a b c [] q 3 = none := hI2
    simp [S8, dOV, h1, hb]
open Go Go.Abs M3 M25
theorem Ja {e a b c : Int} {p q : List UInt8} {f : Bool} : Ok Tryz.prog 103 [.agg [.int .i64 e, .int .i64 a, .int .i64 b, .int .i64 c, .str p, .str q, .bool f]] (.bool (Nv e a b c p q f)) := by
 refine Ok.ofT ZS Tryz.func103 Qf2 (Qik Z) ?_
 show TW _ _ tf103.body _ _
 refine Qd fun K hK => Zo Z Z Z (Qa Z (kc1 hK Z ?_))
 refine Qd fun K hK => Qf Z Z (Qz Z Z Z (YH Z Z (Qa Z ?_)))
 refine Qv (g := 6) Z (fun h1 => ?_) (fun h1 => ?_)
 ·rw [h1]
  simp only [qB] at h1
  refine gn4 Z Z Z Z (QG Z (QG Z (QG Z (QG Z (gn2 Z Z (QG Z (QG Z ?_)))))))
  refine QG Z (QG Z (Xj Z (Qh Z Z (Qa Z (kc1 hK Z ?_)))))
  refine Qp (Qk Z ?_)
  (repeat clear hK K); simp_all [Nv]
 ·rw [h1]
  simp only [qB] at h1
  refine Qe Z (Qf Z Z (Qe Z (Qz Z Z Z (Qe Z (ZF Z (Qe Z (Qa Z ?_)))))))
  refine Qv (g := 10) Z (fun h2 => ?_) (fun h2 => ?_)
  ·rw [h2]
   simp only [qB] at h2
   refine Qe Z (Qf Z Z (Qe Z (Qf Z Z (Qe Z (Qz Z Z Z (Qe Z (Hp Z Z (Qe Z (Qh Z Z (Qe Z (Qa Z ?_)))))))))))
   refine Qv (g := 16) Z (fun h3 => ?_) (fun h3 => ?_)
   ·rw [h3]
    simp only [qB] at h3
    refine Qe Z (Qf Z Z (Qe Z (QA (cs := [_, _, _, _, _]) Z Z Z Z (Qe Z (Qw (X9) Z Z (.inr Z) (Qe Z (ZF Z (Qe Z (Qh Z Z (Qh Z Z (Qa Z ?_)))))))))))
    refine kc1 hK Z ?_
    refine Qp (Qk Z ?_)
    (repeat clear hK K); simp_all [Nv]
   ·rw [h3]
    simp only [qB] at h3
    refine gn4 Z Z Z Z (Qe Z (Qh Z Z (Qh Z Z (Qa Z (kc1 hK Z ?_)))))
    refine Qp (Qk Z ?_)
    (repeat clear hK K); simp_all [Nv]
  ·rw [h2]
   simp only [qB] at h2
   refine gn4 Z Z Z Z (Qe Z (Qh Z Z (Qe Z (Qa Z (gn4 Z Z Z Z ?_)))))
   refine Qe Z (Qh Z Z (Qh Z Z (Qa Z (kc1 hK Z ?_))))
   refine Qp (Qk Z ?_)
   (repeat clear hK K); simp_all [Nv]
theorem GE {a b c : Int} {p q : List UInt8} : Ok Tryz.prog 65 [.agg [.int .i64 a, .int .i64 b, .int .i64 c, .str p, .str q]] (.agg (dCu (MT a b c))) := by
 refine Ok.ofT ZS Tryz.func65 QhN (Qik Z) ?_
 show TW _ _ tf65.body _ _
 refine Qd fun K hK => Zo Z Z Z (Zv Z (kc2 hK Z Z ?_))
 refine QC ?_ -- 0
 refine Qd fun K hK => QA (cs := [_, _, _, _, _]) Z Z Z Z (Qw (X9) Z Z (.inr Z) (kc3 hK Z Z Z ?_))
 refine Qt Z (fun h1 => ?_) (fun h1 => ?_)
 ·rw [h1]
  refine Qd fun K hK => Qw (Y6) Z Z (.inl Z) (QZ Z Z Z Z Z Z Z Z (kc1 hK Z ?_))
  refine Qp (Qj (Post.eq (ZE (ds := [.int .i64 _, .int .i64 _, .int .i64 _, .int .i64 _, .str _, .str _, .bool _]) (cs := [_, _, _, _, _, _, _]) Z Z Z Z Z) ?_))
  simp [MT, dCu, GI, h1]
 ·rw [h1]
  refine Qq (ks2 Z Z (Qd fun K hK => Qf Z Z (Qz Z Z Z (Qf Z Z (Qz Z Z Z (Qf Z Z (Qz Z Z Z (QY Z Z (Qw (YL) Z Z (.inl Z) (QZ Z Z Z Z Z Z Z Z ?_))))))))))
  refine kc1 hK Z ?_
  refine Qp (Post.eq (ZE (ds := [.int .i64 _, .int .i64 _, .int .i64 _, .int .i64 _, .str _, .str _, .bool _]) (cs := [_, _, _, _, _, _, _]) Z Z Z Z Z) ?_)
  simp [MT, dCu, GI, h1]
theorem HC {a b c : Int} {p q : List UInt8} : Ok Tryz.prog 66 [.agg [.int .i64 a, .int .i64 b, .int .i64 c, .str p, .str q]] (.agg (dCu (FB a b c))) := by
 refine Ok.ofT ZS Tryz.func66 QhO (Qik Z) ?_
 show TW _ _ tf66.body _ _
 refine Qd fun K hK => Zo Z Z Z (Zv Z (kc2 hK Z Z ?_))
 refine Qd fun K hK => Qf Z Z (Qz Z Z Z (Qf Z Z (Qz Z Z Z (Qf Z Z (Qz Z Z Z (QY Z Z (Qw (GT Wd Wd) Z Z (.inl Z) (Qa Z (Q3 Z Z (Q3 Z Z ?_))))))))))
 refine Zv Z (QZ Z Z Z Z Z Z Z Z (Qa Z (kc3 hK Z Z Z ?_)))
 refine QC ?_ -- 0
 refine Qd fun K hK => Qa Z (ZF Z (kc3 hK Z Z Z ?_))
 refine Qt Z (fun h1 => ?_) (fun h1 => ?_)
 ·rw [h1]
  simp only [qB] at h1
  refine Qd fun K hK => Qw (Xg) Z Z (.inl Z) (QZ Z Z Z Z Z Z Z Z (kc1 hK Z ?_))
  refine Qp (Qj (Post.eq (ZE (ds := [.int .i64 _, .int .i64 _, .int .i64 _, .int .i64 _, .str _, .str _, .bool _]) (cs := [_, _, _, _, _, _, _]) Z Z Z Z Z) ?_))
  cases hn : S8 a b c [] [] <;> simp [FB, dCu, Pz, hn] at *
 ·rw [h1]
  simp only [qB] at h1
  refine Qq (ks2 Z Z (Qd fun K hK => QA (cs := [_, _, _, _, _]) Z Z Z Z (Qw (YL) Z Z (.inl Z) (QZ Z Z Z Z Z Z Z Z (kc1 hK Z ?_)))))
  refine Qp (Post.eq (ZE (ds := [.int .i64 _, .int .i64 _, .int .i64 _, .int .i64 _, .str _, .str _, .bool _]) (cs := [_, _, _, _, _, _, _]) Z Z Z Z Z) ?_)
  cases hn : S8 a b c [] [] <;> simp [FB, dCu, Pz, hn] at *
theorem Jc  : Ok Tryz.prog 85 [] (Zi [(GI, Pz)]) := by
 refine Ok.ofT ZS Tryz.func85 Qh2 (Qik Z) ?_
 show TW _ _ tf85.body _ _
 refine Qd fun K hK => Qa Z (hK _ _ (TL (Zn) ?_))
 refine Qd fun K hK => Qw (Y6) Z Z (.inl Z) (Qw (Xg) Z Z (.inl Z) (QY Z Z (QJ Z Z (Qa Z (kc1 hK Z ?_)))))
 refine Qp (ZX Z ?_)
 rfl
theorem Ya  : Ok Tryz.prog 62 [] (Mt ([], [])) := by
 refine Ok.ofT ZS Tryz.func62 QhK (Qik Z) ?_
 show TW _ _ tf62.body _ _
 refine Qd fun K hK => Zv Z (kc1 hK Z ?_)
 refine Qd fun K hK => QY Z Z (QZ Z Z Z Z Z Z Z Z (kc1 hK Z ?_))
 refine Qp (Post.eq (ZE (ds := [.sl _, .sl _]) (cs := [_, _]) Z Z Z Z Z) ?_)
 rfl
theorem JV  : Ok Tryz.prog 60 [] (Mt ([(GI, Pz)], [(GI, Pz)])) := by
 refine Ok.ofT ZS Tryz.func60 QhI (Qik Z) ?_
 show TW _ _ tf60.body _ _
 refine Qd fun K hK => Zv Z (kc1 hK Z ?_)
 refine Qd fun K hK => Qw (Jc) Z Z (.inl Z) (Qw (Jc) Z Z (.inl Z) (QY Z Z (QZ Z Z Z Z Z Z Z Z (kc1 hK Z ?_))))
 refine Qp (Post.eq (ZE (ds := [.sl _, .sl _]) (cs := [_, _]) Z Z Z Z Z) ?_)
 rfl
theorem X8 {a b c : Int} {p q : List UInt8} (hp : p.length <= 1000000) (hq : q.length <= 1000000) : Ok Tryz.prog 32 [.agg [.int .i64 a, .int .i64 b, .int .i64 c, .str p, .str q]] (Mt (Xk a b c p q)) := by
 refine Ok.ofT ZS Tryz.func32 Qhl (Qik Z) ?_
 show TW _ _ tf32.body _ _
 refine Qd fun K hK => Zo Z Z Z (Zv Z (kc2 hK Z Z ?_))
 refine QC ?_ -- 0
 refine Qd fun K hK => QA (cs := [_, _, _, _, _]) Z Z Z Z (Qw (Zf Wa Wa) Z Z (.inr Z) (ZF Z (kc3 hK Z Z Z ?_)))
 refine Qt Z (fun h1 => ?_) (fun h1 => ?_)
 ·rw [h1]
  simp only [qB] at h1
  refine Qd fun K hK => Qw (Ya) Z Z (.inl Z) (QZ Z Z Z Z Z Z Z Z (kc1 hK Z ?_))
  refine Qp (Qj (Post.eq (ZE (ds := [.sl _, .sl _]) (cs := [_, _]) Z Z Z Z Z) ?_))
  simp [Xk, Mt, Zi, ND, dCu, h1]
 ·rw [h1]
  simp only [qB] at h1
  refine Qq (ks2 Z Z ?_)
  refine QC ?_ -- 1
  refine Qd fun K hK => Qf Z Z (Qz Z Z Z (Cs Z Z (kc3 hK Z Z Z ?_)))
  refine Qt Z (fun h2 => ?_) (fun h2 => ?_)
  ·rw [h2]
   simp only [qB] at h2
   refine Qd fun K hK => QN (ds0 := [6, 3, 2, 1, 0]) (cs := [_, _, _, _, _]) Z Z Z Z Z Z (Q7 (ds0 := [3, 2, 1, 0]) (YL) Z Z (.inl Z) Z Z (QN (ds0 := [4, 3, 2, 1, 0]) (cs := [_, _, _, _, _]) Z Z Z Z Z Z (Q7 (ds0 := [3, 2, 1, 0]) (HA) Z Z (.inl Z) Z Z (QY Z Z (QJ Z Z (QY Z Z (Yt (ds0 := []) Z Z Z Z Z Z Z Z Z Z (kc1 hK Z ?_))))))))
   refine Qp (Qj (Post.eq (ZE (ds := [.sl _, .sl _]) (cs := [_, _]) Z Z Z Z Z) ?_))
   simp [Xk, Mt, Zi, ND, dCu, h1, h2]
  ·rw [h2]
   simp only [qB] at h2
   refine Qq (ks2 Z Z (Qd fun K hK => QN (ds0 := [6, 3, 2, 1, 0]) (cs := [_, _, _, _, _]) Z Z Z Z Z Z (Q7 (ds0 := [3, 2, 1, 0]) (GE) Z Z (.inl Z) Z Z (QN (ds0 := [4, 3, 2, 1, 0]) (cs := [_, _, _, _, _]) Z Z Z Z Z Z (Q7 (ds0 := [3, 2, 1, 0]) (HC) Z Z (.inl Z) Z Z (QY Z Z (QJ Z Z (QY Z Z (Yt (ds0 := []) Z Z Z Z Z Z Z Z Z Z (kc1 hK Z ?_))))))))))
   refine Qp (Post.eq (ZE (ds := [.sl _, .sl _]) (cs := [_, _]) Z Z Z Z Z) ?_)
   subst h2
   simp [Xk, Mt, Zi, ND, dCu, h1]
open Go Go.Abs M3 M25
theorem Z0 {l : List (Cu × Cu)} (hl : Sm l) : Ok Tryz.prog 102 [Zi l] (.bool (Hm l)) := by
 refine Ok.ofT ZS Tryz.func102 Qf1 (Qik Z) ?_
 show TW _ _ tf102.body _ _
 have hn := hl.1
 refine Qd fun K hK => Qa Z (kc1 hK Z ?_)
 refine QC ?_ -- 0
 refine Qd fun K hK => Qa Z (kc2 hK Z Z ?_)
 refine QD ?_
 refine Zk (ι := Nat) (fun i => ⟨[(0, Zi l), (3, .int .i64 i)], []⟩) (fun i => i <= l.length /\ (List.range i).all (QdI l) = true) (fun i => l.length - i) 0 ?_ ?_ ?_
 ·exact QV (kp2 rfl rfl)
 ·exact ⟨Qiw _, rfl⟩
 intro i hI
 refine QC ?_ -- 1
 refine Qd fun K hK => mv2 Z Z (Zh Z Z (ZT Z Z (kc3 hK Z Z Z ?_)))
 refine Qt Z (fun h1 => ?_) (fun h1 => ?_)
 ·rw [h1]
  simp only [qA] at h1
  refine Qq (ks2 Z Z ?_)
  refine QC ?_ -- 2
  refine QD (Qd fun K hK => mv2 Z Z (QI Z Z Z Wa (Q1 Wa) Z (QN (ds0 := [20, 19, 18, 17, 16, 15, 14, 13, 12, 11, 10, 9, 8, 7, 6, 5, 4, 3, 2, 1, 0]) (cs := [_, _, _, _, _, _, _, _, _, _, _, _, _, _]) Z Z Z Z Z Z (Q7 (ds0 := [19, 18, 17, 16, 15, 14, 13, 12, 11, 10, 9, 8, 7, 6, 5, 4, 3, 2, 1, 0]) (YE (hl.at (i := i) Wa).1.1 (hl.at (i := i) Wa).1.2 (hl.at (i := i) Wa).2.1 (hl.at (i := i) Wa).2.2) Z Z (.inr Z) Z Z (ZF Z (Qa Z ?_))))))
  refine Qv (g := 16) Z (fun h2 => ?_) (fun h2 => ?_)
  ·rw [h2]
   simp only [qA] at h2
   refine gn3 Z Z Z (QG Z (QG Z (QG Z (QG Z (QG Z (QG Z (QG Z (QG Z (QG Z ?_)))))))))
   refine QG Z (QG Z (QG Z (QG Z (Xj Z (Qh Z Z (kc3 hK Z Z Z ?_))))))
   refine Ze Z (Qd fun K hK => Qa Z (kc1 hK Z ?_))
   refine Qp (Qr (Qj (QS (Qr (Qj (Qk Z ?_))))))
   first
    | exact (Gn hI.2 Wa).symm
    | exact (Yi (i := i) Wa (Hg Wa (.inl h2))).symm
    | (simp only [J9] at *; exact (Yi (i := i) Wa (Hg Wa (.inr ⟨Wa, h4⟩))).symm)
  ·rw [h2]
   simp only [qA] at h2
   refine Qe Z (Qa Z (Qe Z (Gt Z Z (Qe Z (Qa Z ?_)))))
   refine Qv (g := 19) Z (fun h3 => ?_) (fun h3 => ?_)
   ·rw [h3]
    simp only [qA] at h3
    refine Qe Z (Qa Z (Qe Z (Qa Z (Qe Z (GP Z Z Wb (Qe Z (QI Z Z Z Wa (Zt Wa Wa) Z (Qe Z (Q8 Z Z (Qe Z (QN (ds0 := [3, 2, 1, 0]) (cs := [_, _, _, _, _, _, _]) Z Z Z Z Z Z ?_)))))))))))
    refine Qe Z (Qa Z (Qe Z (Qa Z (Qe Z (QI Z Z Z Wa (Q1 Wa) Z (Qe Z (Q8 Z Z (Qe Z (QN (ds0 := [3, 2, 1, 0]) (cs := [_, _, _, _, _, _, _]) Z Z Z Z Z Z (Qe Z (Q7 (ds0 := [2, 1, 0]) (ZA (hl.at (i := ((i : Int) - 1).toNat) Wa).2.1 (hl.at (i := ((i : Int) - 1).toNat) Wa).2.2 (hl.at (i := i) Wa).1.1 (hl.at (i := i) Wa).1.2) Z Z (.inr Z) Z Z ?_)))))))))))
    refine Qe Z (Ni Z Z (Qe Z (Qh Z Z (Qh Z Z (kc3 hK Z Z Z ?_)))))
    refine Qt Z (fun h4 => ?_) (fun h4 => ?_)
    ·rw [h4]
     simp only [qA] at h4
     refine Qd fun K hK => Qa Z (kc1 hK Z ?_)
     refine Qp (Qr (Qj (QS (Qr (Qj (Qk Z ?_))))))
     first
      | exact (Gn hI.2 Wa).symm
      | exact (Yi (i := i) Wa (Hg Wa (.inl h2))).symm
      | (simp only [J9] at *; exact (Yi (i := i) Wa (Hg Wa (.inr ⟨Wa, h4⟩))).symm)
    ·rw [h4]
     simp only [qA] at h4
     refine Qq (Qg (ks2 Z Z (QL fun K hK => Qa Z (QU Z Z Wb (Qa Z (hK _ ?_))))))
     refine Qi (i + 1) ?_ ?_ ?_
     ·exact QV (kp2 rfl rfl)
     ·exact ⟨Wa, Jk hI.2 (Do Wa h2 (by (simp only [J9] at *; exact .inr (Int.not_le.1 h4))))⟩
     ·omega
   ·rw [h3]
    simp only [qA] at h3
    refine gn4 Z Z Z Z (gn4 Z Z Z Z (gn4 Z Z Z Z ?_))
    refine Xj Z (Qe Z (Qh Z Z (Qh Z Z (kc3 hK Z Z Z ?_))))
    refine Zm Z (Qq (Qg (ks2 Z Z (QL fun K hK => Qa Z (QU Z Z Wb (Qa Z (hK _ ?_)))))))
    refine Qi (i + 1) ?_ ?_ ?_
    ·exact QV (kp2 rfl rfl)
    ·exact ⟨Wa, Jk hI.2 (Do Wa h2 (by exact .inl Wa))⟩
    ·omega
 ·rw [h1]
  simp only [qA] at h1
  refine Q0 (QE (Qs (QB (QO (Zn) (Qd fun K hK => Qa Z (kc1 hK Z ?_))))))
  refine Qp (Qk Z ?_)
  first
   | exact (Gn hI.2 Wa).symm
   | exact (Yi (i := i) Wa (Hg Wa (.inl h2))).symm
   | (simp only [J9] at *; exact (Yi (i := i) Wa (Hg Wa (.inr ⟨Wa, h4⟩))).symm)
theorem Ku {l : List (Cu × Cu)} (hl : Sm l) {x y : Cu} (hx : Cu.sm x) (hy : Cu.sm y) : Ok Tryz.prog 127 [Zi l, .agg (dCu x), .agg (dCu y)] (.bool (mIn l x y)) := by
 refine Ok.ofT ZS Tryz.func127 Qgo (Qik Z) ?_
 show TW _ _ tf127.body _ _
 have hn := hl.1
 refine Qd fun K hK => Zo Z Z Z (Zo Z Z Z (Qa Z (kc3 hK Z Z Z ?_)))
 refine QC ?_ -- 0
 refine Qd fun K hK => Qa Z (kc4 hK Z Z Z Z ?_)
 refine QD ?_
 refine Zk (ι := Nat) (fun i => ⟨[(0, Zi l), (4, .ref 4 0 0), (5, .ref 5 0 0), (7, .int .i64 i)], [(4, ⟨[dCu x], 7, 113, true⟩), (5, ⟨[dCu y], 7, 113, true⟩)]⟩) (fun i => i <= l.length /\ (l.take i).any (inC x y) = false) (fun i => l.length - i) 0 ?_ ?_ ?_
 ·exact QX (l := [0, 4, 5, 7]) (lH := [4, 5]) (kp4 rfl rfl rfl rfl) (Qb rfl (Qb rfl Ql)) rfl rfl rfl
 ·exact ⟨Qiw _, by simp⟩
 intro i hI
 refine QC ?_ -- 1
 refine Qd fun K hK => mv2 Z Z (Zh Z Z (ZT Z Z (kc5 hK Z Z Z Z Z ?_)))
 refine Qt Z (fun h1 => ?_) (fun h1 => ?_)
 ·rw [h1]
  simp only [qA] at h1
  refine Qq (ks4 Z Z Z Z ?_)
  refine QC ?_ -- 2
  refine QD (Qd fun K hK => mv2 Z Z (QI Z Z Z Wa (Q1 Wa) Z (Q8 Z Z (QN (ds0 := [11, 10, 9, 8, 7, 6, 5, 4, 3, 2, 1, 0]) (cs := [_, _, _, _, _, _, _]) Z Z Z Z Z Z (QN (ds0 := [11, 10, 9, 8, 7, 6, 5, 4, 3, 2, 1, 0]) (cs := [_, _, _, _, _, _, _]) Z Z Z Z Z Z (Q7 (ds0 := [10, 9, 8, 7, 6, 5, 4, 3, 2, 1, 0]) (ZA (hl.at (i := i) Wa).1.1 (hl.at (i := i) Wa).1.2 hx.1 hx.2) Z Z (.inr Z) Z Z (QaC Z Z (Qa Z ?_))))))))
  refine Qv (g := 22) Z (fun h2 => ?_) (fun h2 => ?_)
  ·rw [h2]
   simp only [qA] at h2
   refine Qe Z (QN (ds0 := [2, 1, 0]) (cs := [_, _, _, _, _, _, _]) Z Z Z Z Z Z (Qe Z (Qa Z (Qe Z (Qa Z (Qe Z (QI Z Z Z Wa (Q1 Wa) Z (Qe Z (Q8 Z Z (Qe Z (QN (ds0 := [2, 1, 0]) (cs := [_, _, _, _, _, _, _]) Z Z Z Z Z Z ?_)))))))))))
   refine Qe Z (Q7 (ds0 := [1, 0]) (ZA hy.1 hy.2 (hl.at (i := i) Wa).2.1 (hl.at (i := i) Wa).2.2) Z Z (.inr Z) Z Z (Qe Z (QaC Z Z (Qh Z Z (kc5 hK Z Z Z Z Z ?_)))))
   refine Qt Z (fun h3 => ?_) (fun h3 => ?_)
   ·rw [h3]
    simp only [qA] at h3
    refine Qd fun K hK => Qa Z (kc1 hK Z ?_)
    refine Qp (Qr (Qj (QS (Qr (Qj (Qk Z ?_))))))
    first
     | exact (Qcd (i := i) Wa hI.2).symm
     | exact (TM (i := i) Wa (QeV h2 h3)).symm
   ·rw [h3]
    simp only [qA] at h3
    refine Qq (Qg (ks4 Z Z Z Z (QL fun K hK => Qa Z (QU Z Z Wb (Qa Z (hK _ ?_))))))
    refine Qi (i + 1) ?_ ?_ ?_
    ·exact QX (l := [0, 4, 5, 7]) (lH := [4, 5]) (kp4 rfl rfl rfl rfl) (Qb rfl (Qb rfl Ql)) rfl rfl rfl
    ·exact ⟨Wa, Mh Wa hI.2 (QeU (by exact .inr h3))⟩
    ·omega
  ·rw [h2]
   simp only [qA] at h2
   refine gn4 Z Z Z Z (gn4 Z Z Z Z (Qh Z Z (kc5 hK Z Z Z Z Z ?_)))
   refine Zm Z (Qq (Qg (ks4 Z Z Z Z (QL fun K hK => Qa Z (QU Z Z Wb (Qa Z (hK _ ?_)))))))
   refine Qi (i + 1) ?_ ?_ ?_
   ·exact QX (l := [0, 4, 5, 7]) (lH := [4, 5]) (kp4 rfl rfl rfl rfl) (Qb rfl (Qb rfl Ql)) rfl rfl rfl
   ·exact ⟨Wa, Mh Wa hI.2 (QeU (by exact .inl h2))⟩
   ·omega
 ·rw [h1]
  simp only [qA] at h1
  refine Q0 (QE (Qs (QB (QO (Zn) (Qd fun K hK => Qa Z (kc1 hK Z ?_))))))
  refine Qp (Qk Z ?_)
  first
   | exact (Qcd (i := i) Wa hI.2).symm
   | exact (TM (i := i) Wa (QeV h2 h3)).symm
open Go Go.Abs M3 M25
theorem JS {l : List (Cu × Cu)} (hl : Sm l) {a b c : Int} {p q : List UInt8} (hp : p.length <= 1000000) (hq : q.length <= 1000000) : Ok Tryz.prog 84 [Zi l, .agg [.int .i64 a, .int .i64 b, .int .i64 c, .str p, .str q]] (.bool (PB l a b c p q)) := by
 refine Ok.ofT ZS Tryz.func84 Qh1 (Qik Z) ?_
 show TW _ _ tf84.body _ _
 have hn := hl.1
 refine Qd fun K hK => Zo Z Z Z (Qa Z (kc2 hK Z Z ?_))
 refine QC ?_ -- 0
 refine Qd fun K hK => Qa Z (kc3 hK Z Z Z ?_)
 refine QD ?_
 refine Zk (ι := Nat) (fun i => ⟨[(0, Zi l), (3, .ref 3 0 0), (5, .int .i64 i)], [(3, ⟨[[.int .i64 a, .int .i64 b, .int .i64 c, .str p, .str q]], 5, 59, true⟩)]⟩) (fun i => i <= l.length /\ (l.take i).any (fun s => MV s a b c p q) = false) (fun i => l.length - i) 0 ?_ ?_ ?_
 ·exact QX (l := [0, 3, 5]) (lH := [3]) (kp3 rfl rfl rfl) (Qb rfl Ql) rfl rfl rfl
 ·exact ⟨Qiw _, by simp⟩
 intro i hI
 refine QC ?_ -- 1
 refine Qd fun K hK => mv2 Z Z (Zh Z Z (ZT Z Z (Qa Z ?_)))
 refine Qv (g := 10) Z (fun h1 => ?_) (fun h1 => ?_)
 ·rw [h1]
  simp only [qA] at h1
  refine Qe Z (Qa Z (Qe Z (Qw (Z0 hl) Z Z (.inr Z) (Qh Z Z (kc4 hK Z Z Z Z ?_)))))
  refine Qt Z (fun h2 => ?_) (fun h2 => ?_)
  ·rw [h2]
   refine Qq (ks3 Z Z Z ?_)
   refine QC ?_ -- 2
   refine QD (Qd fun K hK => mv2 Z Z (QI Z Z Z Wa (Q1 Wa) Z (QN (ds0 := [0]) (cs := [_, _, _, _, _, _, _, _, _, _, _, _, _, _]) Z Z Z Z Z Z (QN (ds0 := [0]) (cs := [_, _, _, _, _]) Z Z Z Z Z Z (Q7 (ds0 := []) (GD (hl.at (i := i) Wa).1.1 (hl.at (i := i) Wa).1.2 (hl.at (i := i) Wa).2.1 (hl.at (i := i) Wa).2.2 hp hq) Z Z (.inr Z) Z Z (kc4 hK Z Z Z Z ?_))))))
   refine Qt Z (fun h3 => ?_) (fun h3 => ?_)
   ·rw [h3]
    simp only [qA] at h3
    refine Qd fun K hK => Qa Z (kc1 hK Z ?_)
    refine Qp (Qr (Qj (QS (Qr (Qj (Qk Z ?_))))))
    first
     | exact (Gb (i := i) Wa hI.2).symm
     | exact (Gc h2).symm
     | exact (Gd h2 (i := i) Wa h3).symm
   ·rw [h3]
    simp only [qA] at h3
    refine Qq (Qg (ks3 Z Z Z (QL fun K hK => Qa Z (QU Z Z Wb (Qa Z (hK _ ?_))))))
    refine Qi (i + 1) ?_ ?_ ?_
    ·exact QX (l := [0, 3, 5]) (lH := [3]) (kp3 rfl rfl rfl) (Qb rfl Ql) rfl rfl rfl
    ·exact ⟨Wa, Mh Wa hI.2 h3⟩
    ·omega
  ·rw [h2]
   refine Q0 (QE (Qs (QB (QO (Zn) (Qd fun K hK => Qa Z (kc1 hK Z ?_))))))
   refine Qp (Qk Z ?_)
   first
    | exact (Gb (i := i) Wa hI.2).symm
    | exact (Gc h2).symm
    | exact (Gd h2 (i := i) Wa h3).symm
 ·rw [h1]
  simp only [qA] at h1
  refine gn2 Z Z (Qh Z Z (kc4 hK Z Z Z Z ?_))
  refine Zm Z (Q0 (QE (Qs (QB (QO (Zn) (Qd fun K hK => Qa Z (kc1 hK Z ?_)))))))
  refine Qp (Qk Z ?_)
  first
   | exact (Gb (i := i) Wa hI.2).symm
   | exact (Gc h2).symm
   | exact (Gd h2 (i := i) Wa h3).symm
theorem YF {s : List (Cu × Cu) × List (Cu × Cu)} (h1s : Sm s.1) (h2s : Sm s.2) : Ok Tryz.prog 83 [Mt s] (.bool (GZ s)) := by
 refine Ok.ofT ZS Tryz.func83 Qh0 (Qik Z) ?_
 show TW _ _ tf83.body _ _
 have hn := h1s.1
 refine Qd fun K hK => Zo Z Z Z (Qa Z (kc1 hK Z ?_))
 refine QC ?_ -- 0
 refine Qd fun K hK => Qf Z Z (Qz Z Z Z (Qw (Z0 h1s) Z Z (.inr Z) (ZF Z (Qa Z ?_))))
 refine Qv (g := 8) Z (fun h1 => ?_) (fun h1 => ?_)
 ·rw [h1]
  simp only [qA] at h1
  refine gn4 Z Z Z Z (Qh Z Z (kc2 hK Z Z ?_))
  refine Ze Z (Qd fun K hK => Qa Z (kc1 hK Z ?_))
  refine Qp (Qj (Qk Z ?_))
  first
   | exact (FE (i := i) h1 h2 Wa hI.2).symm
   | exact (JD (i := i) Wa (.inl h4)).symm
   | exact (JD (i := i) Wa (.inr h5)).symm
   | exact (Kp (.inl h1)).symm
   | exact (Kp (.inr h2)).symm
 ·rw [h1]
  simp only [qA] at h1
  refine Qe Z (Qf Z Z (Qe Z (Qz Z Z Z (Qe Z (Qw (Z0 h2s) Z Z (.inr Z) (Qe Z (ZF Z (Qh Z Z (kc2 hK Z Z ?_)))))))))
  refine Qt Z (fun h2 => ?_) (fun h2 => ?_)
  ·rw [h2]
   simp only [qA] at h2
   refine Qd fun K hK => Qa Z (kc1 hK Z ?_)
   refine Qp (Qj (Qk Z ?_))
   first
    | exact (FE (i := i) h1 h2 Wa hI.2).symm
    | exact (JD (i := i) Wa (.inl h4)).symm
    | exact (JD (i := i) Wa (.inr h5)).symm
    | exact (Kp (.inl h1)).symm
    | exact (Kp (.inr h2)).symm
  ·rw [h2]
   simp only [qA] at h2
   refine Qq (ks1 Z ?_)
   refine QC ?_ -- 1
   refine Qd fun K hK => Qa Z (kc2 hK Z Z ?_)
   refine QD ?_
   refine Zk (ι := Nat) (fun i => ⟨[(1, .ref 1 0 0), (3, .int .i64 i)], [(1, ⟨[[Zi s.1, Zi s.2]], 2, 66, true⟩)]⟩) (fun i => i <= s.1.length /\ (s.1.take i).all (fun x => Xm x.1 && Xm x.2) = true) (fun i => s.1.length - i) 0 ?_ ?_ ?_
   ·exact QX (l := [1, 3]) (lH := [1]) (kp2 rfl rfl) (Qb rfl Ql) rfl rfl rfl
   ·exact ⟨Qiw _, by simp⟩
   intro i hI
   refine QC ?_ -- 2
   refine Qd fun K hK => Qa Z (Qf Z Z (Qz Z Z Z (Zh Z Z (ZT Z Z (kc3 hK Z Z Z ?_)))))
   refine Qt Z (fun h3 => ?_) (fun h3 => ?_)
   ·rw [h3]
    simp only [qA] at h3
    refine Qq (ks2 Z Z ?_)
    refine QC ?_ -- 3
    refine QD (Qd fun K hK => Qf Z Z (Qz Z Z Z (Qa Z (QI Z Z Z Wa (Q1 Wa) Z (Q8 Z Z (QA (cs := [_, _, _, _, _, _, _]) Z Z Z Z (Qw (Ja) Z Z (.inr Z) (ZF Z (Qa Z ?_)))))))))
    refine Qv (g := 29) Z (fun h4 => ?_) (fun h4 => ?_)
    ·rw [h4]
     simp only [qA] at h4
     refine gn4 Z Z Z Z (gn4 Z Z Z Z (Qh Z Z (kc3 hK Z Z Z ?_)))
     refine Ze Z (Qd fun K hK => Qa Z (kc1 hK Z ?_))
     refine Qp (Qr (Qj (QS (Qr (Qj (Qk Z ?_))))))
     first
      | exact (FE (i := i) h1 h2 Wa hI.2).symm
      | exact (JD (i := i) Wa (.inl h4)).symm
      | exact (JD (i := i) Wa (.inr h5)).symm
      | exact (Kp (.inl h1)).symm
      | exact (Kp (.inr h2)).symm
    ·rw [h4]
     simp only [qA] at h4
     refine Qe Z (Qf Z Z (Qe Z (Qz Z Z Z (Qe Z (Qa Z (Qe Z (QI Z Z Z Wa (Q1 Wa) Z (Qe Z (Q8 Z Z (Qe Z (QA (cs := [_, _, _, _, _, _, _]) Z Z Z Z ?_)))))))))))
     refine Qe Z (Qw (Ja) Z Z (.inr Z) (Qe Z (ZF Z (Qh Z Z (kc3 hK Z Z Z ?_)))))
     refine Qt Z (fun h5 => ?_) (fun h5 => ?_)
     ·rw [h5]
      simp only [qA] at h5
      refine Qd fun K hK => Qa Z (kc1 hK Z ?_)
      refine Qp (Qr (Qj (QS (Qr (Qj (Qk Z ?_))))))
      first
       | exact (FE (i := i) h1 h2 Wa hI.2).symm
       | exact (JD (i := i) Wa (.inl h4)).symm
       | exact (JD (i := i) Wa (.inr h5)).symm
       | exact (Kp (.inl h1)).symm
       | exact (Kp (.inr h2)).symm
     ·rw [h5]
      simp only [qA] at h5
      refine Qq (Qg (ks2 Z Z (QL fun K hK => Qa Z (QU Z Z Wb (Qa Z (hK _ ?_))))))
      refine Qi (i + 1) ?_ ?_ ?_
      ·exact QX (l := [1, 3]) (lH := [1]) (kp2 rfl rfl) (Qb rfl Ql) rfl rfl rfl
      ·exact ⟨Wa, Zj Wa hI.2 (by rw [show Xm s.1[i].1 = true from h4, show Xm s.1[i].2 = true from h5]; rfl)⟩
      ·omega
   ·rw [h3]
    simp only [qA] at h3
    refine Q0 (QE (Qs (QB (QO (Zn) (Qd fun K hK => Qa Z (kc1 hK Z ?_))))))
    refine Qp (Qk Z ?_)
    first
     | exact (FE (i := i) h1 h2 Wa hI.2).symm
     | exact (JD (i := i) Wa (.inl h4)).symm
     | exact (JD (i := i) Wa (.inr h5)).symm
     | exact (Kp (.inl h1)).symm
     | exact (Kp (.inr h2)).symm
theorem Fg {s : List (Cu × Cu) × List (Cu × Cu)} (h1s : Sm s.1) (h2s : Sm s.2) {a b c : Int} {p q : List UInt8} (hp : p.length <= 1000000) (hq : q.length <= 1000000) : Ok Tryz.prog 57 [Mt s, .agg [.int .i64 a, .int .i64 b, .int .i64 c, .str p, .str q]] (.bool (MU s a b c p q)) := by
 refine Ok.ofT ZS Tryz.func57 QhF (Qik Z) ?_
 show TW _ _ tf57.body _ _
 refine Qd fun K hK => Zo Z Z Z (Zo Z Z Z (Qa Z (kc2 hK Z Z ?_)))
 refine QC ?_ -- 0
 refine Qd fun K hK => QA (cs := [_, _]) Z Z Z Z (Qw (YF h1s h2s) Z Z (.inr Z) (ZF Z (Qa Z ?_)))
 refine Qv (g := 8) Z (fun h1 => ?_) (fun h1 => ?_)
 ·rw [h1]
  simp only [qB] at h1
  refine gn3 Z Z Z (Qh Z Z (kc3 hK Z Z Z ?_))
  refine Ze Z (Qd fun K hK => Qa Z (kc1 hK Z ?_))
  refine Qp (Qj (Qk Z ?_))
  (repeat clear hK K); simp_all [MU]
 ·rw [h1]
  simp only [qB] at h1
  refine Qe Z (QA (cs := [_, _, _, _, _]) Z Z Z Z (Qe Z (Qw (Zf hp hq) Z Z (.inr Z) (Qe Z (ZF Z (Qh Z Z (kc3 hK Z Z Z ?_)))))))
  refine Qt Z (fun h2 => ?_) (fun h2 => ?_)
  ·rw [h2]
   simp only [qB] at h2
   refine Qd fun K hK => Qa Z (kc1 hK Z ?_)
   refine Qp (Qj (Qk Z ?_))
   (repeat clear hK K); simp_all [MU]
  ·rw [h2]
   simp only [qB] at h2
   refine Qq (ks2 Z Z ?_)
   refine QC ?_ -- 1
   refine Qd fun K hK => Qf Z Z (Qz Z Z Z (Hp Z Z (kc3 hK Z Z Z ?_)))
   refine Qt Z (fun h3 => ?_) (fun h3 => ?_)
   ·rw [h3]
    simp only [qB] at h3
    refine Qd fun K hK => Qf Z Z (Qz Z Z Z (QA (cs := [_, _, _, _, _]) Z Z Z Z (Qw (JS h1s hp hq) Z Z (.inr Z) (Qa Z (kc1 hK Z ?_)))))
    refine Qp (Qj (Qk Z ?_))
    (repeat clear hK K); simp_all [MU]
   ·rw [h3]
    simp only [qB] at h3
    refine Qq (ks2 Z Z (Qd fun K hK => Qf Z Z (Qz Z Z Z (QA (cs := [_, _, _, _, _]) Z Z Z Z (Qw (JS h2s hp hq) Z Z (.inr Z) (Qa Z (kc1 hK Z ?_)))))))
    refine Qp (Qk Z ?_)
    (repeat clear hK K); simp_all [MU]
open Go Go.Abs M3 M25
theorem _root_.Wu {p : Prop} (h : p := by first | exact .inl (by omega) | exact .inr ⟨by omega, by assumption, by assumption⟩) : p := h
theorem JU {l : List Cu} {c : Cu} (hl : l.length <= 3000000) (hs : ∀ x ∈ l, Cu.sm x) (hc : Cu.sm c) : Ok Tryz.prog 140 [Rv l, .agg (dCu c)] (Rv (HP l c)) := by
 refine Ok.ofT ZS Tryz.func140 Qgz (Qik Z) ?_
 show TW _ _ tf140.body _ _
 refine Qd fun K hK => Zo Z Z Z (Qa Z (kc2 hK Z Z ?_))
 refine Qd fun K hK => Qa Z (kc3 hK Z Z Z ?_)
 refine QC ?_ -- 0
 refine QD ?_
 refine Zk (ι := Nat) (fun k => ⟨[(0, Rv l), (3, .ref 3 0 0), (5, .int .i64 k)], [(3, ⟨[dCu c], 7, 113, true⟩)]⟩) (fun k => k <= l.length /\ HP l c = l.take k ++ HP (l.drop k) c) (fun k => l.length - k) 0 ?_ ?_ ?_
 ·exact QX (l := [0, 3, 5]) (lH := [3]) (kp3 rfl rfl rfl) (Qb rfl Ql) rfl rfl rfl
 ·exact ⟨Qiw _, by simp⟩
 intro k hI
 refine QC ?_ -- 1
 refine Qd fun K hK => mv2 Z Z (Zh Z Z (ZT Z Z (Qa Z ?_)))
 refine Qv (g := 10) Z (fun h1 => ?_) (fun h1 => ?_)
 ·rw [h1]
  simp only [qA] at h1
  refine Qe Z (Qa Z (Qe Z (Qa Z (Qe Z (QI Z Z Z Wa (Q1 Wa) Z (Qe Z (QN (ds0 := [2, 1, 0]) (cs := [_, _, _, _, _, _, _]) Z Z Z Z Z Z (Qe Z (QN (ds0 := [2, 1, 0]) (cs := [_, _, _, _, _, _, _]) Z Z Z Z Z Z (Qe Z (Q7 (ds0 := [1, 0]) (ZA (hs _ (Qip Wa)).1 (hs _ (Qip Wa)).2 hc.1 hc.2) Z Z (.inr Z) Z Z ?_)))))))))))
  refine Qe Z (ZT Z Z (Qh Z Z (kc4 hK Z Z Z Z ?_)))
  refine Qt Z (fun h2 => ?_) (fun h2 => ?_)
  ·rw [h2]
   simp only [qA] at h2
   refine Qq (ks3 Z Z Z (QD (QL fun K hK => Qa Z (QU Z Z Wb (Qa Z (hK _ ?_))))))
   refine Qg ?_
   refine Qi (k + 1) ?_ ?_ ?_
   ·exact QX (l := [0, 3, 5]) (lH := [3]) (kp3 rfl rfl rfl) (Qb rfl Ql) rfl rfl rfl
   ·exact ⟨Wa, BH Wa h2 hI.2⟩
   ·omega
  ·rw [h2]
   simp only [qA] at h2
   refine Q0 (QE (Qs (QB (ks3 Z Z Z ?_))))
   refine QC ?_ -- 2
   refine Qd fun K hK => mv2 Z Z (Zh Z Z (ZT Z Z (Qa Z ?_)))
   refine Qv (g := 25) Z (fun h3 => ?_) (fun h3 => ?_)
   ·rw [h3]
    simp only [qA] at h3
    refine Qe Z (Qa Z (Qe Z (Qa Z (Qe Z (QI Z Z Z Wa (Q1 Wa) Z (Qe Z (QN (ds0 := [2, 1, 0]) (cs := [_, _, _, _, _, _, _]) Z Z Z Z Z Z (Qe Z (QN (ds0 := [2, 1, 0]) (cs := [_, _, _, _, _, _, _]) Z Z Z Z Z Z (Qe Z (Q7 (ds0 := [1, 0]) (ZA (hs _ (Qip Wa)).1 (hs _ (Qip Wa)).2 hc.1 hc.2) Z Z (.inr Z) Z Z ?_)))))))))))
    refine Qe Z (Yr Z Z (Qh Z Z (kc4 hK Z Z Z Z ?_)))
    refine Qt Z (fun h4 => ?_) (fun h4 => ?_)
    ·rw [h4]
     simp only [qA] at h4
     refine Qd fun K hK => mv2 Z Z (kc1 hK Z ?_)
     refine Qp (Qj (ZX Z ?_))
     rw [BG (k := k) Wa Wh hI.2]; rfl
    ·rw [h4]
     simp only [qA] at h4
     refine Qq (ks3 Z Z Z (Qd fun K hK => mv2 Z Z (Rk Z Z Z Z Wa Wa Wf To Z (TH (ds0 := [5, 1, 0]) Z Z (fun _ h => ⟨QbR, h⟩) Z (.inl Z) Wd Wf Wf Z Z (QN (ds0 := [6, 5, 1, 0]) (cs := [_, _, _, _, _, _, _]) Z Z Z Z Z Z (QJ Z Z (XC (ds0 := [1, 0]) Z Z Wn ⟨_, rfl, rfl, rfl, rfl, rfl⟩ Z Z Wd Z Z Wf Wf Z Z (mv2 Z Z ?_))))))))
     refine Rk Z Z Z Z Wa Wf Wd To Z (XC (ds0 := [0]) Z Z Wn ⟨rfl, QbR, rfl⟩ Z Z Wd Z Z Wf Wf Z Z (Qa Z (kc1 hK Z ?_)))
     refine Qp (ZX Z ?_)
     rw [Df (k := k) Wu hI.2]; simp [XR, D.fz, D.fzS, GF, lk, D.can, D.canS, Rv, D.sid, (show ∀ a b : Nat, a + 1 + b = a + (b + 1) from fun a b => Wa), QiA (show (l.map dCu).length <= l.length by simp)] <;> rfl
   ·rw [h3]
    simp only [qA] at h3
    exact absurd h1 h3
 ·rw [h1]
  simp only [qA] at h1
  refine gn4 Z Z Z Z (gn3 Z Z Z (Qh Z Z (kc4 hK Z Z Z Z ?_)))
  refine Zm Z (Q0 (QE (Qs (QB (ks3 Z Z Z ?_)))))
  refine QC ?_ -- 2
  refine Qd fun K hK => mv2 Z Z (Zh Z Z (ZT Z Z (Qa Z ?_)))
  refine Qv (g := 25) Z (fun h5 => ?_) (fun h5 => ?_)
  ·rw [h5]
   simp only [qA] at h5
   exact absurd h5 h1
  ·rw [h5]
   simp only [qA] at h5
   refine gn4 Z Z Z Z (gn3 Z Z Z (Qh Z Z (kc4 hK Z Z Z Z ?_)))
   refine Zm Z (Qq (ks3 Z Z Z (Qd fun K hK => mv2 Z Z (Rk Z Z Z Z Wa Wa Wf To Z (TH (ds0 := [5, 1, 0]) Z Z (fun _ h => ⟨QbR, h⟩) Z (.inl Z) Wd Wf Wf Z Z (QN (ds0 := [6, 5, 1, 0]) (cs := [_, _, _, _, _, _, _]) Z Z Z Z Z Z (QJ Z Z (XC (ds0 := [1, 0]) Z Z Wn ⟨_, rfl, rfl, rfl, rfl, rfl⟩ Z Z Wd Z Z Wf Wf Z Z (Qa Z ?_)))))))))
   refine Qa Z (Rk Z Z Z Z Wa Wf Wd To Z (XC (ds0 := [0]) Z Z Wn ⟨rfl, QbR, rfl⟩ Z Z Wd Z Z Wf Wf Z Z (Qa Z (kc1 hK Z ?_))))
   refine Qp (ZX Z ?_)
   rw [Df (k := k) Wu hI.2]; simp [XR, D.fz, D.fzS, GF, lk, D.can, D.canS, Rv, D.sid, (show ∀ a b : Nat, a + 1 + b = a + (b + 1) from fun a b => Wa), QiA (show (l.map dCu).length <= l.length by simp)] <;> rfl
theorem Jt {l : List (Cu × Cu)} (hl : Sm l) : Ok Tryz.prog 126 [Zi l] (Rv (YZ l)) := by
 refine Ok.ofT ZS Tryz.func126 Qgn (Qik Z) ?_
 show TW _ _ tf126.body _ _
 have hn := hl.1
 refine Qd fun K hK => Qa Z (kc1 hK Z ?_)
 refine Qd fun K hK => Qw (Y6) Z Z (.inl Z) (Qw (Xg) Z Z (.inl Z) (QJ Z Z (Qa Z (kc2 hK Z Z ?_))))
 refine QC ?_ -- 0
 refine Qd fun K hK => Qa Z (kc3 hK Z Z Z ?_)
 refine QD ?_
 refine Zk (ι := Nat) (fun i => ⟨[(0, Zi l), (3, Rv (YZ (l.take i))), (4, .int .i64 i)], []⟩) (fun i => i <= l.length) (fun i => l.length - i) 0 ?_ ?_ ?_
 ·exact le_trans (JB 7 _ Wg) (QX (l := [0, 3, 4]) (lH := []) (kp3 rfl rfl rfl) Ql rfl rfl rfl)
 ·exact Qiw _
 intro i hI
 refine QC ?_ -- 1
 refine Qd fun K hK => mv2 Z Z (Zh Z Z (ZT Z Z (kc4 hK Z Z Z Z ?_)))
 refine Qt Z (fun h1 => ?_) (fun h1 => ?_)
 ·rw [h1]
  simp only [qA] at h1
  refine Qq (ks3 Z Z Z ?_)
  refine QC ?_ -- 2
  refine QD (QL fun K hK => mv2 Z Z (Qa Z (QI Z Z Z Wa (Q1 Wa) Z (Q8 Z Z (QN (ds0 := [7, 1, 0]) (cs := [_, _, _, _, _, _, _]) Z Z Z Z Z Z (Q7 (ds0 := [1, 0]) (JU (QiD (NQ hl i).1 Wa) (NQ hl i).2 (hl.2 _ (Qip Wa)).1) Z Z (.inl Z) Z Z (mv2 Z Z (QI Z Z Z Wa (Q1 Wa) Z ?_))))))))
  refine Q8 Z Z (QN (ds0 := [1, 0]) (cs := [_, _, _, _, _, _, _]) Z Z Z Z Z Z (Q7 (ds0 := [0]) (JU (QiD (NT _ _) (by have := (NQ hl i).1; omega)) (RR (NQ hl i).2 (hl.2 _ (Qip Wa)).1) (hl.2 _ (Qip Wa)).2) Z Z (.inl Z) Z Z (Qa Z (hK _ ?_))))
  refine Qg (ks3 Z Z Z (QL fun K hK => Qa Z (QU Z Z Wb (Qa Z (hK _ ?_)))))
  refine Qi (i + 1) ?_ ?_ ?_
  ·exact QX (l := [0, 3, 4]) (lH := []) (kp3 rfl rfl rfl) Ql (by rw [Qbl Wa]; rfl) rfl rfl
  ·omega
  ·omega
 ·rw [h1]
  simp only [qA] at h1
  refine Q0 (QE (Qs (QB (ks1 Z (Qd fun K hK => mv2 Z Z (kc1 hK Z ?_))))))
  refine Qp (ZX Z ?_)
  rw [QiA (Wa : l.length <= i)]; rfl
open Go Go.Abs M3 M25
theorem Ju {l : List (Cu × Cu)} {x y : Cu} (hn : l.length <= 3000000) (hl : ∀ s ∈ l, Cu.sm s.1 /\ Cu.sm s.2) (hx : Cu.sm x) (hy : Cu.sm y) : OkH Tryz.prog 128 [.osl 500000 l.length, .agg (dCu x), .agg (dCu y)] [(500000, ⟨l.map ND, 14, 116, true⟩)] (.osl 500000 (HN l x y).length) [(500000, ⟨(HN l x y).map ND, 14, 116, true⟩)] := by
 refine OkH.mv ZS Tryz.func128 Qgp (Qik Z) Z ?_
 show TW _ _ tf128.body _ _
 refine Qd fun K hK => Zo Z Z Z (Zo Z Z Z (Qa Z (kc3 hK Z Z Z ?_)))
 refine QC ?_ -- 0
 refine Qd fun K hK => Qa Z (Zh Z Z (GP Z Z Wb (Qa Z (kc4 hK Z Z Z Z ?_))))
 refine Qd fun K hK => Qa Z (Ni Z Z (Qa Z ?_))
 refine Qv (g := 13) Z (fun h1 => ?_) (fun h1 => ?_)
 ·rw [h1]
  simp only [qA] at h1
  refine Qe Z (Qa Z (Qe Z (Qa Z (Qe Z (G6 (ds0 := [5, 4, 2, 1, 0]) Z Z Z Wd Wa Wa Z Z Z (Qe Z (Qf Z Z (Qe Z (QN (ds0 := [2, 1, 0]) (cs := [_, _, _, _, _, _, _]) Z (Yj Z (Zt Wa Wa)) Z Z Z Z (Qe Z (QN (ds0 := [2, 1, 0]) (cs := [_, _, _, _, _, _, _]) Z Z Z Z Z Z ?_)))))))))))
  refine Qe Z (Q7 (ds0 := [1, 0]) (ZA (hl _ (Qip Wa)).2.1 (hl _ (Qip Wa)).2.2 hx.1 hx.2) Z Z (.inr Z) Z Z (Qe Z (Yr Z Z (Qh Z Z (kc5 hK Z Z Z Z Z ?_)))))
  refine Qt Z (fun h2 => ?_) (fun h2 => ?_)
  ·rw [h2]
   simp only [qA] at h2
   refine Qd fun K hK => mv2 Z Z (QA (cs := [_, _, _, _, _, _, _]) Z Z Z Z (JM Z Z Z Wd Wa Wa Z (Qf Z Z (QZ Z Z (Zt Wa Wa) Z Z Z Z Z (kc1 hK Z ?_)))))
   refine Qd fun K hK => mv2 Z Z (kc1 hK Z ?_)
   refine Qp (Qj ?_)
   refine JE Z ?_ (Lu ?_)
   ·rw [S6 (i := ((l.length : Int) - 1).toNat) Wa h2]; simp [QaD, D.fz, D.fzS, PG, D.can, D.canS]
   ·rw [S6 (i := ((l.length : Int) - 1).toNat) Wa h2]; simp [lk, List.map_set, ND, dCu, setRow, D.sid]
  ·rw [h2]
   simp only [qA] at h2
   refine Qq (ks3 Z Z Z (Qd fun K hK => Qa Z (QA (cs := [_, _, _, _, _, _, _]) Z Z Z Z (QA (cs := [_, _, _, _, _, _, _]) Z Z Z Z (QY Z Z (QJ Z Z (Xy Z Z (fun _ h => Xn Z Z Z h) Z Wd Z Z Z Wf Wf (Qa Z (kc1 hK Z ?_)))))))))
   refine Qp ?_
   refine JE Z ?_ (Lu ?_)
   ·rw [FD (.inr ⟨((l.length : Int) - 1).toNat, Wa, h2⟩)]; simp [QaD, D.fz, D.fzS, PG, D.can, D.canS]
   ·rw [FD (.inr ⟨((l.length : Int) - 1).toNat, Wa, h2⟩)]; simp [lk, ND, dCu, D.sid]
 ·rw [h1]
  simp only [qA] at h1
  refine gn4 Z Z Z Z (gn4 Z Z Z Z (Qh Z Z (kc5 hK Z Z Z Z Z ?_)))
  refine Zm Z (Qq (ks3 Z Z Z (Qd fun K hK => Qa Z (QA (cs := [_, _, _, _, _, _, _]) Z Z Z Z (QA (cs := [_, _, _, _, _, _, _]) Z Z Z Z (QY Z Z (QJ Z Z (Xy Z Z (fun _ h => Xn Z Z Z h) Z Wd Z Z Z Wf Wf (Qa Z (kc1 hK Z ?_))))))))))
  refine Qp ?_
  have h0 : l = [] := List.eq_nil_of_length_eq_zero Wa
  refine JE Z ?_ (Lu ?_)
  ·rw [FD (.inl h0)]; simp [QaD, D.fz, D.fzS, PG, D.can, D.canS]
  ·rw [FD (.inl h0)]; simp [lk, ND, dCu, D.sid]
open Go Go.Abs M3 M25
theorem GV {l : List (Cu × Cu)} (hl : Sm l) : Ok Tryz.prog 125 [Zi l] (.tup [Zi (Lf l), .bool (l.all GM)]) := by
  refine Ok.ofT ZS Tryz.func125 Qgm (Qik Z) ?_
  show TW _ _ tf125.body _ _
  have hn := hl.1
  have hc1 := HL l
  refine Qd fun K hK => mv2 Z Z (kc1 hK Z ?_)
  refine QC ?_ -- 0
  refine Qd fun K hK => Qa Z (kc2 hK Z Z ?_)
  refine QD ?_
  refine Zk (ι := Nat) (fun i => ⟨[(0, Zi l), (4, .int .i64 i)], []⟩) (fun i => i <= l.length /\ (l.take i).all GM = true) (fun i => l.length - i) 0 ?_ ?_ ?_
  · exact QV (kp2 rfl rfl)
  · exact ⟨Qiw _, by simp⟩
  intro i hI
  refine QC ?_ -- 1
  refine Qd fun K hK => mv2 Z Z (Zh Z Z (ZT Z Z (kc3 hK Z Z Z ?_)))
  refine Qt Z (fun h1 => ?_) (fun h1 => ?_)
  · rw [h1]
    simp only [qA] at h1
    refine Qq (ks2 Z Z ?_)
    refine QC ?_ -- 2
    refine QD (Qd fun K hK => mv2 Z Z (QI Z Z Z Wa (Q1 Wa) Z (QA (cs := [_, _, _, _, _, _, _, _, _, _, _, _, _, _]) Z Z Z Z (Qw (YE (hl.at (i := i) Wa).1.1 (hl.at (i := i) Wa).1.2 (hl.at (i := i) Wa).2.1 (hl.at (i := i) Wa).2.2) Z Z (.inr Z) (ZF Z (kc3 hK Z Z Z ?_))))))
    refine Qt Z (fun h2 => ?_) (fun h2 => ?_)
    · rw [h2]
      simp only [qA] at h2
      refine Qd fun K hK => mv2 Z Z (kc2 hK Z Z ?_)
      refine Qp (Qr (Qj (QS (Qr (Qj ?_)))))
      first
        | exact ZO rfl rfl ⟨by rw [Lf, if_neg (by rw [XA (i := i) Wa Wh]; simp)]; rfl, by rw [XA (i := i) Wa Wh]; rfl⟩
        | (have ha : l.all GM = true := Ke Wa hI.2
           exact ZO rfl rfl ⟨by rw [Lf, if_pos ha, hI2.done Wa]; simp [XR, D.fz, D.fzS, GF, lk, D.can, D.canS, Zi], by rw [ha]; rfl⟩)
    · rw [h2]
      simp only [qA] at h2
      refine Qq (Qg (ks2 Z Z (QL fun K hK => Qa Z (QU Z Z Wb (Qa Z (hK _ ?_))))))
      refine Qi (i + 1) ?_ ?_ ?_
      · exact QV (kp2 rfl rfl)
      · exact ⟨Wa, Zj Wa hI.2 Wh⟩
      · omega
  · rw [h1]
    simp only [qA] at h1
    refine Q0 (QE (Qs (QB (ks1 Z (Qd fun K hK => Qa Z (kc2 hK Z Z ?_))))))
    refine Qd fun K hK => Qa Z (Qw (Jt hl) Z Z (.inl Z) (Qa Z (kc3 hK Z Z Z ?_)))
    refine QC ?_ -- 3
    refine Qd fun K hK => Qa Z (kc4 hK Z Z Z Z ?_)
    refine QD ?_
    refine Zk (ι := Nat × List (Cu × Cu)) (fun ⟨i, out⟩ => ⟨[(0, Zi l), (5, .osl 5 out.length), (6, Rv (YZ l)), (7, .int .i64 i)], [(5, ⟨out.map ND, 14, 116, true⟩)]⟩) (fun ⟨i, out⟩ => i <= (YZ l).length /\ FillI (mIn l) (YZ l) i out) (fun ⟨i, out⟩ => (YZ l).length - i) (0, []) ?_ ?_ ?_
    · exact le_trans (ZV 5 5 14 116 rfl rfl) (QX (l := [0, 5, 6, 7]) (lH := [5]) (kp4 rfl rfl rfl rfl) (Qb rfl Ql) rfl rfl rfl)
    · exact ⟨Qiw _, FillI.zero⟩
    intro ⟨i, out⟩ hI
    obtain ⟨hI1, hI2⟩ := hI
    have hI3 := hI2.1
    dsimp only
    refine QC ?_ -- 4
    refine Qd fun K hK => Qa Z (QU Z Z Wb (Qa Z (Zh Z Z (ZT Z Z (kc5 hK Z Z Z Z Z ?_)))))
    refine Qt Z (fun h3 => ?_) (fun h3 => ?_)
    · rw [h3]
      simp only [qA] at h3
      refine Qq (ks4 Z Z Z Z ?_)
      refine QC ?_ -- 5
      refine QD (Qd fun K hK => mv2 Z Z (Qa Z (QI Z Z Z Wa (Q1 Wa) Z (QN (ds0 := [0]) (cs := [_, _, _, _, _, _, _]) Z Z Z Z Z Z (mv2 Z Z (QU Z Z Wb (QI Z Z Z Wa (L3 Wa) Z (QN (ds0 := [0]) (cs := [_, _, _, _, _, _, _]) Z Z Z Z Z Z ?_))))))))
      refine Q7 (ds0 := []) (Ku hl (YB hl _ (Qip Wa)) (YB hl _ (Qip Wa))) Z Z (.inr Z) Z Z (kc5 hK Z Z Z Z Z ?_)
      refine Qt Z (fun h4 => ?_) (fun h4 => ?_)
      · rw [h4]
        refine QL fun K hK => Qa rfl (Qa rfl (Qa rfl (QI rfl rfl rfl Wa (Q1 Wa) rfl (QN (ds0 := [1, 0]) (cs := [_, _, _, _, _, _, _]) rfl rfl rfl rfl rfl rfl (Qa rfl (Qa rfl (QU rfl rfl Wb (QI rfl rfl rfl Wa (L3 Wa) rfl (QN (ds0 := [1, 0]) (cs := [_, _, _, _, _, _, _]) rfl rfl rfl rfl rfl rfl (LF (ds0 := [0]) (Qch (k := 5) rfl rfl rfl Wg rfl Wg (by simp [D.ids, D.sid, dCu]) ⟨.osl 5 out.length, by simp, by simp [D.ids, D.sid]⟩ rfl rfl (Ju Wa hI2.2.1 (YB hl _ (Qip Wa)) (YB hl _ (Qip Wa)))) (fun _ h => by cases h) rfl rfl ?_))))))))))
        refine Qa Z (hK _ ?_)
        refine Qg (ks4 Z Z Z Z (QL fun K hK => Qa Z (QU Z Z Wb (Qa Z (hK _ ?_)))))
        refine Qi (i + 1, HN out (YZ l)[i] (YZ l)[i + 1]) ?_ ?_ ?_
        · exact le_trans (BB (l := [0, 6, 7]) (t := 50) (u := 5) 5 (kp3 rfl rfl rfl) rfl rfl rfl rfl) (QX (l := [0, 5, 6, 7]) (lH := [5]) (kp4 rfl rfl rfl rfl) (Qb rfl Ql) rfl rfl rfl)
        · exact ⟨Wa, hI2.take (YB hl) Wa Wh⟩
        · show (YZ l).length - (i + 1) < (YZ l).length - i; omega
      · rw [h4]
        refine Qq (Qg (ks4 Z Z Z Z (QL fun K hK => Qa Z (QU Z Z Wb (Qa Z (hK _ ?_))))))
        refine Qi (i + 1, out) ?_ ?_ ?_
        · exact QX (l := [0, 5, 6, 7]) (lH := [5]) (kp4 rfl rfl rfl rfl) (Qb rfl Ql) rfl rfl rfl
        · exact ⟨Wa, hI2.skip Wa Wh⟩
        · show (YZ l).length - (i + 1) < (YZ l).length - i; omega
    · rw [h3]
      simp only [qA] at h3
      refine Q0 (QE (Qs (QB (ks1 Z (Qd fun K hK => mv2 Z Z (Qa Z (kc2 hK Z Z ?_)))))))
      refine Qp ?_
      first
        | exact ZO rfl rfl ⟨by rw [Lf, if_neg (by rw [XA (i := i) Wa Wh]; simp)]; rfl, by rw [XA (i := i) Wa Wh]; rfl⟩
        | (have ha : l.all GM = true := Ke Wa hI.2
           exact ZO rfl rfl ⟨by rw [Lf, if_pos ha, hI2.done Wa]; simp [XR, D.fz, D.fzS, GF, lk, D.can, D.canS, Zi], by rw [ha]; rfl⟩)
open Go Go.Abs M3 M25
theorem Kt {a b : List (Cu × Cu)} (ha : Sm a) (hb : Sm b) (hab : a.length + b.length <= 1000000) : Ok Tryz.prog 110 [Zi a, Zi b] (Zi (Qcv a b)) := by
 refine Ok.ofT ZS Tryz.func110 Qf9 (Qik Z) ?_
 show TW _ _ tf110.body _ _
 refine Qd fun K hK => Qa Z (kc2 hK Z Z ?_)
 refine QC ?_ -- 0
 refine Qd fun K hK => Qa Z (Qw (Z0 ha) Z Z (.inr Z) (ZF Z (Qa Z ?_)))
 refine Qv (g := 10) Z (fun h1 => ?_) (fun h1 => ?_)
 ·rw [h1]
  simp only [qB] at h1
  refine gn3 Z Z Z (Qh Z Z (kc3 hK Z Z Z ?_))
  refine Ze Z (Qd fun K hK => Qa Z (kc1 hK Z ?_))
  refine Qp (Qj (ZX Z ?_))
  rw [Qcv, if_neg (by simp [h1])]; rfl
 ·rw [h1]
  simp only [qB] at h1
  refine Qe Z (Qa Z (Qe Z (Qw (Z0 hb) Z Z (.inr Z) (Qe Z (ZF Z (Qh Z Z (kc3 hK Z Z Z ?_)))))))
  refine Qt Z (fun h2 => ?_) (fun h2 => ?_)
  ·rw [h2]
   simp only [qB] at h2
   refine Qd fun K hK => Qa Z (kc1 hK Z ?_)
   refine Qp (Qj (ZX Z ?_))
   rw [Qcv, if_neg (by simp [h1, h2])]; rfl
  ·rw [h2]
   simp only [qB] at h2
   refine Qq (ks2 Z Z (Qd fun K hK => Qa Z (Qb8 Z Z (fun _ h => QcI QcC h) Z (.inl Z) Wd Wf Wf (Qa Z (Xy Z Z (fun _ h => QcI QcC h) Z Wd Z Z Z Wf Wf ?_)))))
   apply QcU [17] Wd
   ·simp [St.freezeL, St.freeze, rem, D.fz, D.fzS, Box.fz, lk, D.scrub]; exact ⟨rfl, rfl⟩
   ·exact GV (ha.app hb hab)
   ·rfl
   ·simp [XR, D.fz, D.fzS, GF, D.can, D.canS, Zi]
   ·exact .inl rfl
   refine Qa Z (Q3 Z Z (Q3 Z Z (mv2 Z Z (kc1 hK Z ?_))))
   refine Qd fun K hK => mv2 Z Z (kc1 hK Z ?_)
   refine Qp (ZX Z ?_)
   rw [Qcv, if_pos ⟨h1, h2⟩]; rfl
theorem JT {a : List (Cu × Cu)} (ha : Sm a) : Ok Tryz.prog 111 [Zi a] (Zi (Lg a)) := by
 refine Ok.ofT ZS Tryz.func111 Qga (Qik Z) ?_
 show TW _ _ tf111.body _ _
 have hn := ha.1
 have hc1 := HL a
 refine Qd fun K hK => Qa Z (kc1 hK Z ?_)
 refine QC ?_ -- 0
 refine Qd fun K hK => Qa Z (Qw (Z0 ha) Z Z (.inr Z) (ZF Z (kc2 hK Z Z ?_)))
 refine Qt Z (fun h1 => ?_) (fun h1 => ?_)
 ·rw [h1]
  simp only [qA] at h1
  refine Qd fun K hK => Qa Z (kc1 hK Z ?_)
  refine Qp (Qj (ZX Z ?_))
  rw [Lg, if_neg (by simp [h1])]; rfl
 ·rw [h1]
  simp only [qA] at h1
  refine Qq (ks1 Z (Qd fun K hK => Qa Z (kc2 hK Z Z ?_)))
  refine Qd fun K hK => Qa Z (Qw (Jt ha) Z Z (.inl Z) (Qa Z (kc3 hK Z Z Z ?_)))
  refine QC ?_ -- 1
  refine Qd fun K hK => Qa Z (kc4 hK Z Z Z Z ?_)
  refine QD ?_
  refine Zk (ι := Nat × List (Cu × Cu)) (fun ⟨i, out⟩ => ⟨[(0, Zi a), (3, .osl 3 out.length), (4, Rv (YZ a)), (5, .int .i64 i)], [(3, ⟨out.map ND, 14, 116, true⟩)]⟩) (fun ⟨i, out⟩ => i <= (YZ a).length /\ FillI (fun x y => !mIn a x y) (YZ a) i out) (fun ⟨i, out⟩ => (YZ a).length - i) (0, []) ?_ ?_ ?_
  ·exact le_trans (ZV 3 3 14 116 rfl rfl) (QX (l := [0, 3, 4, 5]) (lH := [3]) (kp4 rfl rfl rfl rfl) (Qb rfl Ql) rfl rfl rfl)
  ·exact ⟨Qiw _, FillI.zero⟩
  intro ⟨i, out⟩ hI
  obtain ⟨hI1, hI2⟩ := hI
  have hI3 := hI2.1
  dsimp only
  refine QC ?_ -- 2
  refine Qd fun K hK => Qa Z (QU Z Z Wb (Qa Z (Zh Z Z (ZT Z Z (kc5 hK Z Z Z Z Z ?_)))))
  refine Qt Z (fun h2 => ?_) (fun h2 => ?_)
  ·rw [h2]
   simp only [qA] at h2
   refine Qq (ks4 Z Z Z Z ?_)
   refine QC ?_ -- 3
   refine QD (Qd fun K hK => mv2 Z Z (Qa Z (QI Z Z Z Wa (Q1 Wa) Z (QN (ds0 := [1, 0]) (cs := [_, _, _, _, _, _, _]) Z Z Z Z Z Z (mv2 Z Z (QU Z Z Wb (QI Z Z Z Wa (L3 Wa) Z (QN (ds0 := [1, 0]) (cs := [_, _, _, _, _, _, _]) Z Z Z Z Z Z ?_))))))))
   refine Q7 (ds0 := [0]) (Ku ha (YB ha _ (Qip Wa)) (YB ha _ (Qip Wa))) Z Z (.inr Z) Z Z (ZF Z (kc5 hK Z Z Z Z Z ?_))
   refine Qt Z (fun h3 => ?_) (fun h3 => ?_)
   ·rw [h3]
    simp only [qA] at h3
    refine QL fun K hK => Qa rfl (Qa rfl (Qa rfl (QI rfl rfl rfl Wa (Q1 Wa) rfl (QN (ds0 := [1, 0]) (cs := [_, _, _, _, _, _, _]) rfl rfl rfl rfl rfl rfl (Qa rfl (Qa rfl (QU rfl rfl Wb (QI rfl rfl rfl Wa (L3 Wa) rfl (QN (ds0 := [1, 0]) (cs := [_, _, _, _, _, _, _]) rfl rfl rfl rfl rfl rfl (LF (ds0 := [0]) (Qch (k := 3) rfl rfl rfl Wg rfl Wg (by simp [D.ids, D.sid, dCu]) ⟨.osl 3 out.length, by simp, by simp [D.ids, D.sid]⟩ rfl rfl (Ju Wa hI2.2.1 (YB ha _ (Qip Wa)) (YB ha _ (Qip Wa)))) (fun _ h => by cases h) rfl rfl ?_))))))))))
    refine Qa Z (hK _ ?_)
    refine Qg (ks4 Z Z Z Z (QL fun K hK => Qa Z (QU Z Z Wb (Qa Z (hK _ ?_)))))
    refine Qi (i + 1, HN out (YZ a)[i] (YZ a)[i + 1]) ?_ ?_ ?_
    ·exact le_trans (BB (l := [0, 4, 5]) (t := 40) (u := 3) 3 (kp3 rfl rfl rfl) rfl rfl rfl rfl) (QX (l := [0, 3, 4, 5]) (lH := [3]) (kp4 rfl rfl rfl rfl) (Qb rfl Ql) rfl rfl rfl)
    ·exact ⟨Wa, hI2.take (YB ha) Wa (by simp; assumption)⟩
    ·show (YZ a).length - (i + 1) < (YZ a).length - i; omega
   ·rw [h3]
    simp only [qA] at h3
    refine Qq (Qg (ks4 Z Z Z Z (QL fun K hK => Qa Z (QU Z Z Wb (Qa Z (hK _ ?_))))))
    refine Qi (i + 1, out) ?_ ?_ ?_
    ·exact QX (l := [0, 3, 4, 5]) (lH := [3]) (kp4 rfl rfl rfl rfl) (Qb rfl Ql) rfl rfl rfl
    ·exact ⟨Wa, hI2.skip Wa (by simp; assumption)⟩
    ·show (YZ a).length - (i + 1) < (YZ a).length - i; omega
  ·rw [h2]
   simp only [qA] at h2
   refine Q0 (QE (Qs (QB (ks1 Z (Qd fun K hK => mv2 Z Z (kc1 hK Z ?_))))))
   refine Qp (ZX Z ?_)
   rw [Lg, if_pos h1, hI2.done Wa]; simp [XR, D.fz, D.fzS, GF, lk, D.can, D.canS, Zi]
open Go Go.Abs M3 M25
theorem FW {a b : Nj} (h1a : Sm a.1) (h2a : Sm a.2) (h1b : Sm b.1) (h2b : Sm b.2) (hl1 : a.1.length + b.1.length <= 1000000) (hl2 : a.2.length + b.2.length <= 1000000) : Ok Tryz.prog 93 [Mt a, Mt b] (Mt (Qcw a b)) := by
 refine Ok.ofT ZS Tryz.func93 Qia (Qik Z) ?_
 show TW _ _ tf93.body _ _
 refine Qd fun K hK => Zo Z Z Z (Zo Z Z Z (Zv Z (kc3 hK Z Z Z ?_)))
 refine QC ?_ -- 0
 refine Qd fun K hK => QA (cs := [_, _]) Z Z Z Z (Qw (YF h1a h2a) Z Z (.inr Z) (ZF Z (Qa Z ?_)))
 refine Qv (g := 8) Z (fun h1 => ?_) (fun h1 => ?_)
 ·rw [h1]
  simp only [qB] at h1
  refine gn3 Z Z Z (Qh Z Z (kc4 hK Z Z Z Z ?_))
  refine Ze Z (Qd fun K hK => Qw (Ya) Z Z (.inl Z) (QZ Z Z Z Z Z Z Z Z (kc1 hK Z ?_)))
  refine Qp (Qj (Post.eq (ZE (ds := [.sl _, .sl _]) (cs := [_, _]) Z Z Z Z Z) ?_))
  rw [Qcw, if_neg (by simp [h1])]; rfl
 ·rw [h1]
  simp only [qB] at h1
  refine Qe Z (QA (cs := [_, _]) Z Z Z Z (Qe Z (Qw (YF h1b h2b) Z Z (.inr Z) (Qe Z (ZF Z (Qh Z Z (kc4 hK Z Z Z Z ?_)))))))
  refine Qt Z (fun h2 => ?_) (fun h2 => ?_)
  ·rw [h2]
   simp only [qB] at h2
   refine Qd fun K hK => Qw (Ya) Z Z (.inl Z) (QZ Z Z Z Z Z Z Z Z (kc1 hK Z ?_))
   refine Qp (Qj (Post.eq (ZE (ds := [.sl _, .sl _]) (cs := [_, _]) Z Z Z Z Z) ?_))
   rw [Qcw, if_neg (by simp [h1, h2])]; rfl
  ·rw [h2]
   simp only [qB] at h2
   refine Qq (ks3 Z Z Z (Qd fun K hK => Qf Z Z (QQ (ds0 := [7, 1, 0]) Z Z Z Z Z (Qf Z Z (QQ (ds0 := [7, 1, 0]) Z Z Z Z Z (Q7 (ds0 := [1, 0]) (Kt h1a h1b hl1) Z Z (.inl Z) Z Z (Qf Z Z (QQ (ds0 := [2, 1, 0]) Z Z Z Z Z (Qf Z Z (QQ (ds0 := [2, 1, 0]) Z Z Z Z Z ?_))))))))))
   refine Q7 (ds0 := [1, 0]) (Kt h2a h2b hl2) Z Z (.inl Z) Z Z (QY Z Z (Yt (ds0 := []) Z Z Z Z Z Z Z Z Z Z (kc1 hK Z ?_)))
   refine Qp (Post.eq (ZE (ds := [.sl _, .sl _]) (cs := [_, _]) Z Z Z Z Z) ?_)
   rw [Qcw, if_pos ⟨h1, h2⟩]; rfl
theorem Fh {a : Nj} (h1a : Sm a.1) (h2a : Sm a.2) : Ok Tryz.prog 94 [Mt a] (Mt (RQ a)) := by
 refine Ok.ofT ZS Tryz.func94 Qib (Qik Z) ?_
 show TW _ _ tf94.body _ _
 refine Qd fun K hK => Zo Z Z Z (Zv Z (kc2 hK Z Z ?_))
 refine QC ?_ -- 0
 refine Qd fun K hK => QA (cs := [_, _]) Z Z Z Z (Qw (YF h1a h2a) Z Z (.inr Z) (ZF Z (kc3 hK Z Z Z ?_)))
 refine Qt Z (fun h1 => ?_) (fun h1 => ?_)
 ·rw [h1]
  simp only [qB] at h1
  refine Qd fun K hK => Qw (Ya) Z Z (.inl Z) (QZ Z Z Z Z Z Z Z Z (kc1 hK Z ?_))
  refine Qp (Qj (Post.eq (ZE (ds := [.sl _, .sl _]) (cs := [_, _]) Z Z Z Z Z) ?_))
  rw [RQ, if_neg (by simp [h1])]; rfl
 ·rw [h1]
  simp only [qB] at h1
  refine Qq (ks2 Z Z (Qd fun K hK => Qf Z Z (QQ (ds0 := [5, 1, 0]) Z Z Z Z Z (Q7 (ds0 := [1, 0]) (JT h1a) Z Z (.inl Z) Z Z (Qf Z Z (QQ (ds0 := [2, 1, 0]) Z Z Z Z Z (Q7 (ds0 := [1, 0]) (JT h2a) Z Z (.inl Z) Z Z (QY Z Z (Yt (ds0 := []) Z Z Z Z Z Z Z Z Z Z (kc1 hK Z ?_))))))))))
  refine Qp (Post.eq (ZE (ds := [.sl _, .sl _]) (cs := [_, _]) Z Z Z Z Z) ?_)
  rw [RQ, if_pos h1]; rfl
open Go Go.Abs M3 M25
theorem Z3 {v n : Int} (hn : n <= 9223372036854775807) (hv : I64 v) : Ok Tryz.prog 13 [.int .i64 v, .int .i64 n] (.int .i64 (mPl v n)) := by
 refine Ok.ofT ZS Tryz.func13 Qg8 (Qik Z) ?_
 show TW _ _ tf13.body _ _
 refine Qd fun K hK => Qa Z (kc2 hK Z Z ?_)
 refine QC ?_ -- 0
 refine Qd fun K hK => Qa Z (ZT Z Z (kc3 hK Z Z Z ?_))
 refine Qt Z (fun h1 => ?_) (fun h1 => ?_)
 ·rw [h1]
  simp only [qB] at h1
  refine Qd fun K hK => Qa Z (kc1 hK Z ?_)
  refine Qp (Qj (Qu Z ?_))
  rw [mPl, if_pos h1]
 ·rw [h1]
  simp only [qB] at h1
  refine Qq (ks2 Z Z (Qd fun K hK => mv2 Z Z (Sv Z Z Wa (Qa Z (kc2 hK Z Z ?_)))))
  refine QC ?_ -- 1
  refine Qd fun K hK => Qa Z (ZT Z Z (kc3 hK Z Z Z ?_))
  refine Qt Z (fun h2 => ?_) (fun h2 => ?_)
  ·rw [h2]
   simp only [qB] at h2
   refine Qd fun K hK => mv2 Z Z (QU Z Z (Qo (by have := Int.lt_tmod_of_pos v (Wa : 0 < n); omega) (by have := Int.tmod_lt_of_pos v (Wa : 0 < n); omega)) (Qa Z (kc1 hK Z ?_)))
   refine Qp (Qj (Qu Z ?_))
   rw [mPl, if_neg h1, MW, if_pos h2]
  ·rw [h2]
   simp only [qB] at h2
   refine Qq (ks1 Z (Qd fun K hK => mv2 Z Z (kc1 hK Z ?_)))
   refine Qp (Qu Z ?_)
   rw [mPl, if_neg h1, MW, if_neg h2]
theorem YU {l : List Int} {i : Int} : Ok Tryz.prog 36 [QP l, .int .i64 i] (.int .i64 (JG l i)) := by
 refine Ok.ofT ZS Tryz.func36 Qhp (Qik Z) ?_
 show TW _ _ tf36.body _ _
 refine Qd fun K hK => Qa Z (kc2 hK Z Z ?_)
 refine QC ?_ -- 0
 refine Qd fun K hK => Qa Z (ZT Z Z (Qa Z ?_))
 refine Qv (g := 7) Z (fun h1 => ?_) (fun h1 => ?_)
 ·rw [h1]
  simp only [qA] at h1
  refine gn4 Z Z Z Z (Qh Z Z (kc3 hK Z Z Z ?_))
  refine Ze Z (Qd fun K hK => Qa Z (Sv Z Z Wa (Qa Z (kc1 hK Z ?_))))
  refine Qp (Qj (Qu Z ?_))
  rw [JG, if_pos Wa]
 ·rw [h1]
  simp only [qA] at h1
  refine Qe Z (Qa Z (Qe Z (Qa Z (Qe Z (Zh Z Z (Qe Z (Ni Z Z (Qh Z Z (kc3 hK Z Z Z ?_)))))))))
  refine Qt Z (fun h2 => ?_) (fun h2 => ?_)
  ·rw [h2]
   simp only [qA] at h2
   refine Qd fun K hK => Qa Z (Sv Z Z Wa (Qa Z (kc1 hK Z ?_)))
   refine Qp (Qj (Qu Z ?_))
   rw [JG, if_pos Wa]
  ·rw [h2]
   simp only [qA] at h2
   refine Qq (ks2 Z Z (Qd fun K hK => mv2 Z Z (QI Z Z Z Wa (Zt Wa Wa) Z (Qz Z Z Z (Qa Z (kc1 hK Z ?_))))))
   refine Qp (Qu Z ?_)
   exact (BE Wa Wa).symm
theorem XT {k : Nat} {L : List Int} {I n : Int} (hk : 1000000 <= k) (hL : ∀ x ∈ L, I64 x) (hn : n <= 9223372036854775807) (et : Nat) : OkH Tryz.prog 33 [.ref k 0 0, .int .i64 n] [(k, gB L I et)] (.int .i64 (nx L I n)) ((k, gB L (nxI I) et) :: [(k, gB L I et)]) := by
 refine OkH.lent hk ZS Tryz.func33 Qhm (Qik Z) Z ?_
 show TW _ _ tf33.body _ _
 refine Qd fun K hK => Qa Z (kc2 hK Z Z ?_)
 refine Qd fun K hK => Qa Z (Yf Z Z (Qf Z NO (Qz Z (Yj F4 Z) Z (QU Z Z Z (Yf Z Z (Qf Z NO (QZ Z F4 Z Z Z Z Z Z (kc2 hK Z Z ?_))))))))
 refine Qd fun K hK => Qa Z (Yf Z Z (Qf Z NO (QQ (ds0 := [3, 1, 0]) Z (Yj F4 Z) Z Z Z (Qa Z (Yf Z Z (Qf Z NO (QQ (ds0 := [4, 3, 1, 0]) Z (Yj F4 Z) Z Z Z (GP Z Z Z (Q7 (ds0 := [1, 0]) (YU) Z Z (.inr Z) Z Z (Qa Z ?_))))))))))
 refine Q7 (ds0 := [0]) (Z3 hn (RN hL (Pk _))) Z Z (.inr Z) Z Z (Qa Z (kc1 hK Z ?_))
 refine Qp ?_
 exact JE rfl rfl (Qd0 F4)
open Go Go.Abs M3 M25
theorem Xf {v : Int} (h0 : 0 <= v) (h1v : v <= 61) : Ok Tryz.prog 58 [.int .i64 v] (.int .i64 (2 ^ v.toNat)) := by
 refine Ok.ofT ZS Tryz.func58 QhG (Qik Z) ?_
 show TW _ _ tf58.body _ _
 refine Qd fun K hK => Qa Z (kc1 hK Z ?_)
 refine Qd fun K hK => Qa Z (kc2 hK Z Z ?_)
 refine QC ?_ -- 0
 refine Qd fun K hK => Qa Z (kc3 hK Z Z Z ?_)
 refine QD ?_
 refine Zk (ι := Nat) (fun i => ⟨[(0, .int .i64 v), (3, .int .i64 (2 ^ i)), (4, .int .i64 i)], []⟩) (fun i => (i : Int) <= v) (fun i => v.toNat - i) 0 ?_ ?_ ?_
 ·exact QV (kp3 rfl rfl rfl)
 ·exact h0
 intro i hI
 have hp := R4 (i := i + 1) Wa
 rw [Int.pow_succ] at hp
 refine QC ?_ -- 1
 refine Qd fun K hK => mv2 Z Z (ZT Z Z (kc4 hK Z Z Z Z ?_))
 refine Qt Z (fun h1 => ?_) (fun h1 => ?_)
 ·rw [h1]
  simp only [qB] at h1
  refine Qq (ks3 Z Z Z ?_)
  refine QC ?_ -- 2
  refine QD (QL fun K hK => Qa rfl (TK rfl rfl (Qo (by obtain ⟨p1, p2⟩ := hp; generalize (2 : Int) ^ i = z at *; omega) (by obtain ⟨p1, p2⟩ := hp; generalize (2 : Int) ^ i = z at *; omega)) (Qa rfl (hK _ ?_))))
  refine Qg (ks3 Z Z Z (QL fun K hK => Qa Z (QU Z Z (Qo Wa Wa) (Qa Z (hK _ ?_)))))
  refine Qi (i + 1) ?_ ?_ ?_
  ·exact QX (l := [0, 3, 4]) (lH := []) (kp3 rfl rfl rfl) Ql (by rw [Int.pow_succ]; rfl) rfl rfl
  ·show ((i + 1 : Nat) : Int) <= v; omega
  ·omega
 ·rw [h1]
  simp only [qB] at h1
  refine Q0 (QE (Qs (QB (ks1 Z (Qd fun K hK => mv2 Z Z (kc1 hK Z ?_))))))
  refine Qp (Qu Z ?_)
  rw [show v.toNat = i by omega]
open Go Go.Abs M3 M25
theorem Xr  : Ok Tryz.prog 59 [] (.sl (versions.map dVr)) := by
 refine Ok.ofT ZS Tryz.func59 QhH (Qik Z) ?_
 show TW _ _ tf59.body _ _
 refine Qd fun K hK => Qa Z (hK _ _ (TL (Zn) ?_))
 refine Qd fun K hK => QY Z Z (QY Z Z (QY Z Z (QY Z Z (QJ Z Z (Qa Z (kc1 hK Z ?_))))))
 refine Qp (ZX Z ?_)
 rfl
end Go.Proofs
namespace M25
open Go Go.Abs M3
structure WantT where
 u : Int
 s : Nj
structure CandT where
 v : Vr
 sh : Int
 ns : List (List WantT)
 bs : List WantT
structure Rl where
 n : List UInt8
 f : List UInt8
 cs : List CandT
abbrev Qy := List Rl
def Kl (x : WantT) : List D := [.int .i64 x.u, Zi x.s.1, Zi x.s.2]
def Q6 (l : List WantT) : D := .sl (l.map Kl)
def Q9 (l : List (List WantT)) : D := .sl (l.map fun r => [Q6 r])
def QeN (c : CandT) : List D := [.int .i64 c.v.a, .int .i64 c.v.b, .int .i64 c.v.c, .str c.v.p, .str c.v.q, .int .i64 c.sh, Q9 c.ns, Q6 c.bs]
def LN (l : List CandT) : D := .sl (l.map QeN)
def Ym (u : Rl) : List D := [.str u.n, .str u.f, LN u.cs]
def Yq (w : Qy) : D := .agg [.sl (w.map Ym)]
structure ZL where
 u : Int
 m : Int
 deriving DecidableEq
structure KJ where
 u : Int
 m : Int
 l : Int
 c : Int
 deriving DecidableEq
structure RowT where
 k : Int
 u : Int
 a : Int
 b : Int
 t : List ZL
def JJ (t : ZL) : List D := [.int .i64 t.u, .int .i64 t.m]
def Zr (l : List ZL) : D := .sl (l.map JJ)
abbrev KH (a b : Int) : Int := Hl .and .i64 a b
abbrev bor (a b : Int) : Int := Hl .or .i64 a b
abbrev Ps (a b : Int) : Int := Hl .andNot .i64 a b
def uAt (w : Qy) (u : Int) : Option Rl := if u < 0 then none else w[u.toNat]?
theorem Pi {w : Qy} {u : Int} (h0 : 0 <= u) (h : u < w.length) : uAt w u = some (w[u.toNat]'Wa) := by
 rw [uAt, if_neg Wa, List.getElem?_eq_getElem Wa]
theorem Sc {w : Qy} {u : Int} (h : u < 0 \/ (w.length : Int) <= u) : uAt w u = none := by
 unfold uAt
 split
 ·rfl
 ·rw [List.getElem?_eq_none]; omega
def Xw (w : Qy) (u : Int) : Int := match uAt w u with
 | none => 0
 | some x => 2 ^ (min x.cs.length 16 + 1) - 1
theorem NR {w : Qy} {u : Int} (h0 : 0 <= u) (h : u < w.length) : Xw w u = 2 ^ (min (w[u.toNat]'Wa).cs.length 16 + 1) - 1 := by
 rw [Xw, Pi h0 h]
theorem FC {w : Qy} {u : Int} (h : u < 0 \/ (w.length : Int) <= u) : Xw w u = 0 := by rw [Xw, Sc h]
def Pl (v : Vr) : Prop := v.p.length <= 1000000 /\ v.q.length <= 1000000
structure WSm (w : Qy) : Prop where
 len : w.length <= 48
 cs : ∀ u ∈ w, u.cs.length <= 16
 vs : ∀ u ∈ w, ∀ c ∈ u.cs, Pl c.v
 ns : ∀ u ∈ w, ∀ c ∈ u.cs, c.ns.length <= 1000 /\ c.bs.length <= 1000
 nl : ∀ u ∈ w, ∀ c ∈ u.cs, ∀ r ∈ c.ns, r.length <= 1000
 nw : ∀ u ∈ w, ∀ c ∈ u.cs, ∀ r ∈ c.ns, ∀ x ∈ r, Sm x.s.1 /\ Sm x.s.2
 bw : ∀ u ∈ w, ∀ c ∈ u.cs, ∀ x ∈ c.bs, Sm x.s.1 /\ Sm x.s.2
def Qco (s : Nj) (v : Vr) : Bool := MU s v.a v.b v.c v.p v.q
def Kq (s : Nj) (l : List CandT) : Nat -> Int
 | 0 => 0
 | n + 1 => Kq s l n + match l[n]? with
  | some c => if Qco s c.v = true then 2 ^ (n + 1) else 0
  | none => 0
theorem NZ (s : Nj) (l : List CandT) : ∀ n, 0 <= Kq s l n /\ Kq s l n <= 2 ^ (n + 1) - 2
 | 0 => by simp [Kq]
 | n + 1 => by
  obtain ⟨h1, h2⟩ := NZ s l n
  have h3 : (2 : Int) ^ (n + 1 + 1) = 2 ^ (n + 1) * 2 := Int.pow_succ ..
  have h4 : (0 : Int) < 2 ^ (n + 1) := Int.pow_pos Wa
  rw [Kq, h3]
  generalize (2 : Int) ^ (n + 1) = z at *
  split
  ·split <;> omega
  ·omega
theorem MY {s : Nj} {l : List CandT} {i : Nat} (h : i < l.length) (hp : Qco s l[i].v = true) : Kq s l (i + 1) = Kq s l i + 2 ^ (i + 1) := by
 rw [Kq, List.getElem?_eq_getElem h]; simp only [hp, if_true]
theorem RT {s : Nj} {l : List CandT} {i : Nat} (h : i < l.length) (hp : Qco s l[i].v = false) : Kq s l (i + 1) = Kq s l i := by
 rw [Kq, List.getElem?_eq_getElem h]; simp only [hp, Qis, if_false, Int.add_zero]
def TC (w : Qy) (x : WantT) : Int := match uAt w x.u with
 | none => 0
 | some un => Kq x.s un.cs (min un.cs.length 16)
theorem RP {w : Qy} {x : WantT} (h0 : 0 <= x.u) (h : x.u < w.length) : TC w x = Kq x.s (w[x.u.toNat]'Wa).cs (min (w[x.u.toNat]'Wa).cs.length 16) := by
 rw [TC, Pi h0 h]
theorem NS {w : Qy} {x : WantT} (h : x.u < 0 \/ (w.length : Int) <= x.u) : TC w x = 0 := by rw [TC, Sc h]
theorem QbJ {n : Nat} (h : n <= 17) : 1 <= (2 : Int) ^ n /\ (2 : Int) ^ n <= 131072 := by
 have h1 : (2 : Nat) ^ n <= 2 ^ 17 := Nat.pow_le_pow_right Wa h
 have h2 : 1 <= (2 : Nat) ^ n := Nat.one_le_two_pow
 have h3 : ((2 ^ n : Nat) : Int) = (2 : Int) ^ n := by simp
 rw [<- h3]
 have h4 : (2 : Nat) ^ 17 = 131072 := by decide
 omega
theorem Qbs (s : Nj) (l : List CandT) {n : Nat} (h : n <= 16) : 0 <= Kq s l n /\ Kq s l n <= 131070 := by
 obtain ⟨h1, h2⟩ := NZ s l n
 have := QbJ (n := n + 1) Wa
 omega
def XX (w : Qy) (c : List Int) (u : Int) : Int := match uAt w u with
 | none => 0
 | some x => if (c.length : Int) <= u then 0 else if c.getD u.toNat 0 < -1 \/ ((min x.cs.length 16 : Nat) : Int) <= c.getD u.toNat 0 then 0 else 2 ^ (c.getD u.toNat 0 + 1).toNat
def Yz (m : Int) : Nat -> List Int
 | 0 => []
 | n + 1 => Yz m n ++ if KH m (2 ^ n) = 0 then [] else [(n : Int) - 1]
def XE (m : Int) : List Int := Yz m 17
def inW (w : Qy) (u : Int) : Bool := decide (0 <= u) && decide (u < w.length)
/-! ### Trails -/
def PC (w : Qy) (l : List KJ) (u : Int) : Int := l.foldl (fun a s => if s.u = u /\ inW w u = true then s.m else a) (Xw w u)
def Qe2 (l : List KJ) : Int := match l.getLast? with
 | none => 0
 | some s => s.l
def Qbm (l : List KJ) (u : Int) : Bool := l.any fun s => decide (s.u = u) && decide (s.c = -1)
def QfU (w : Qy) (l : List KJ) (inc : List ZL) : Bool := inc.all fun t => decide (Tb (PC w l t.u) t.m = 2)
def R0 (have_ : Int -> Int) : List ZL -> Int -> Int
 | [], at_ => at_
 | t :: r, at_ => if Tb (have_ t.u) t.m = 0 then -1 else if Tb (have_ t.u) t.m = 1 then (if 0 <= at_ then -1 else R0 have_ r t.u) else R0 have_ r at_
def Qe3 (w : Qy) (l : List KJ) (inc : List ZL) : Int := R0 (PC w l) inc (-1)
def DB (w : Qy) (l : List KJ) : Nat -> List (List ZL) -> Int × Int
 | _, [] => (-1, -1)
 | i, x :: r => if QfU w l x = true then (i, -1) else if 0 <= Qe3 w l x then (i, Qe3 w l x) else DB w l (i + 1) r
def QfT (w : Qy) (db : List (List ZL)) (l : List KJ) : Int × Int := DB w l 0 db
end M25
namespace M25
open Go Go.Abs M3
section
variable {fr : Qii} {H : Qih} {t u : Nat}
theorem QaO {k n : Nat} {b : Box} {d : D} (hb : lk H k = some b) (hp : b.pr = true) (hn : n = b.rows.length) (hd : .sl b.rows = d) : XR ⟨fr, H⟩ (.osl k n) = d := by
 unfold XR; rw [QfQ (S := GF) rfl hb hp hn]; exact hd
theorem K4 {e : AExit} {k n : Nat} {b : Box} {d : D} (h : lk fr t = some (.osl k n)) (hb : lk H k = some b) (hp : b.pr = true) (hn : n = b.rows.length) (hd : .sl b.rows = d) (he : e = .ret \/ e = .normal := by first | exact .inl rfl | exact .inr rfl) : Post [.tmp t] d e ⟨fr, H⟩ :=
 ZX h (QaO hb hp hn hd) he
end
theorem QfV (n : Nat) : (min (n : Int) 16 + 1).toNat = min n 16 + 1 := Wa
theorem Tz {n : Nat} (h : n <= 62) : IntKind.i64.wrap ((2 : Int) ^ n - 1) = 2 ^ n - 1 := by
 have := R4 h; exact Qo Wa Wa
theorem Qfd (i : Nat) : (2 : Int) ^ ((i : Int) + 1).toNat = 2 ^ (i + 1) := by rw [QcL]
theorem Qb5 (s : Nj) (l : List CandT) {i : Nat} (h : i < 16) : IntKind.i64.wrap (Kq s l i + (2 : Int) ^ ((i : Int) + 1).toNat) = Kq s l i + 2 ^ (i + 1) := by
 rw [Qfd]
 have h1 := Qbs s l (n := i) Wa
 have h2 := QbJ (n := i + 1) Wa
 exact Qo Wa Wa
theorem Jn {w : Qy} {c : List Int} {u : Int} (h : (u < 0 \/ (w.length : Int) <= u) \/ (c.length : Int) <= u) : XX w c u = 0 := by
 unfold XX
 split
 ·rfl
 ·rename_i x hx
  rcases h with h | h
  ·rw [Sc h] at hx; cases hx
  ·rw [if_pos h]
theorem Kz {w : Qy} {c : List Int} {u : Int} (h0 : 0 <= u) (h1 : u < w.length) (h2 : u < c.length) (h : c[u.toNat]'Wa < -1 \/ min (((w[u.toNat]'Wa).cs.length : Nat) : Int) 16 <= c[u.toNat]'Wa) : XX w c u = 0 := by
 rw [XX, Pi h0 h1]
 simp only []
 rw [if_neg Wa, List.getD_eq_getElem?_getD, List.getElem?_eq_getElem Wa]
 simp only [Option.getD_some]
 rw [if_pos]
 rcases h with h | h
 ·exact .inl h
 ·right; omega
theorem JC {w : Qy} {c : List Int} {u : Int} (h0 : 0 <= u) (h1 : u < w.length) (h2 : u < c.length) (h : ¬ c[u.toNat]'Wa < -1) (h' : ¬ min (((w[u.toNat]'Wa).cs.length : Nat) : Int) 16 <= c[u.toNat]'Wa) : XX w c u = 2 ^ (c[u.toNat]'Wa + 1).toNat := by
 rw [XX, Pi h0 h1]
 simp only []
 rw [if_neg Wa, List.getD_eq_getElem?_getD, List.getElem?_eq_getElem Wa]
 simp only [Option.getD_some]
 rw [if_neg]
 omega
theorem LT {m : Int} {n : Nat} (h : ¬ KH m (2 ^ n) = 0) : Yz m (n + 1) = Yz m n ++ [(n : Int) - 1] := by rw [Yz, if_neg h]
theorem C3 {m : Int} {n : Nat} (h : KH m (2 ^ n) = 0) : Yz m (n + 1) = Yz m n := by rw [Yz, if_pos h, List.append_nil]
theorem QeW {w : Qy} {u : Int} (h0 : 0 <= u) (h : u < w.length) : inW w u = true := by simp [inW, h0, h]
theorem Qdv {w : Qy} {u : Int} (h : u < 0 \/ (w.length : Int) <= u) : inW w u = false := by
 simp only [inW, Qix, decide_eq_false_iff_not]; omega
theorem MD {w : Qy} {u : Int} : inW w u = true ↔ 0 <= u /\ u < w.length := by simp [inW]
theorem N7 {e : Int} (h1 : 0 <= e) (h2 : e <= 18446744073709551615) : IntKind.u64.wrap e = e := by
 unfold IntKind.wrap
 simp only [IntKind.bits, IntKind.signed, Bool.false_and, Qis, if_false]
 omega
theorem QaB {p : Nat} (h : p <= 60) : IntKind.i64.wrap ((2 : Int) * 2 ^ min ((p : Nat) : Int).toNat IntKind.i64.bits) = 2 * 2 ^ p := by
 rw [show min ((p : Nat) : Int).toNat IntKind.i64.bits = p from by simp only [IntKind.bits, Int.toNat_natCast]; omega]
 have := R4 (i := p + 1) Wa
 rw [Int.pow_succ] at this
 exact Qo Wa Wa
end M25
namespace Go.Proofs
open Go Go.Abs M3 M25
theorem X5 {w : Qy} (hw : WSm w) {u : Int} : Ok Tryz.prog 35 [Yq w, .int .i64 u] (.int .i64 (Xw w u)) := by
 refine Ok.ofT ZS Tryz.func35 Qho (Qik Z) ?_
 show TW _ _ tf35.body _ _
 refine Qd fun K hK => Zo Z Z Z (Qa Z (kc2 hK Z Z ?_))
 refine QC ?_ -- 0
 refine Qd fun K hK => Qa Z (ZT Z Z (Qa Z ?_))
 refine Qv (g := 7) Z (fun h1 => ?_) (fun h1 => ?_)
 ·rw [h1]
  simp only [qA] at h1
  refine gn4 Z Z Z Z (Xj Z (Qh Z Z (kc3 hK Z Z Z ?_)))
  refine Ze Z (Qd fun K hK => Qa Z (kc1 hK Z ?_))
  refine Qp (Qj (Qu Z ?_))
  rw [FC Wa]
 ·rw [h1]
  simp only [qA] at h1
  refine Qe Z (Qa Z (Qe Z (Qf Z Z (Qe Z (Qz Z Z Z (Qe Z (Zh Z Z (Qe Z (Ni Z Z (Qh Z Z (kc3 hK Z Z Z ?_)))))))))))
  refine Qt Z (fun h2 => ?_) (fun h2 => ?_)
  ·rw [h2]
   simp only [qA] at h2
   refine Qd fun K hK => Qa Z (kc1 hK Z ?_)
   refine Qp (Qj (Qu Z ?_))
   rw [FC Wa]
  ·rw [h2]
   simp only [qA] at h2
   refine Qq (ks2 Z Z (Qd fun K hK => Qf Z Z (Qz Z Z Z (Qa Z (QI Z Z Z Wa (Zt Wa Wa) Z (Q8 Z Z (Qz Z Z Z (Zh Z Z (Qez Z Z (QU Z Z Wb ?_))))))))))
   refine Qw (Xf Wa Wa) Z Z (.inr Z) (GP Z Z (Tz Wa) (Qa Z (kc1 hK Z ?_)))
   refine Qp (Qu Z ?_)
   rw [NR Wa Wa, List.length_map, QfV]
theorem Hy {w : Qy} (hw : WSm w) {c : List Int} {u : Int} : Ok Tryz.prog 54 [Yq w, QP c, .int .i64 u] (.int .i64 (XX w c u)) := by
 refine Ok.ofT ZS Tryz.func54 QhE (Qik Z) ?_
 show TW _ _ tf54.body _ _
 refine Qd fun K hK => Zo Z Z Z (Qa Z (kc3 hK Z Z Z ?_))
 refine QC ?_ -- 0
 refine Qd fun K hK => Qa Z (ZT Z Z (Qa Z ?_))
 refine Qv (g := 9) Z (fun h1 => ?_) (fun h1 => ?_)
 ·rw [h1]
  simp only [qA] at h1
  refine gn4 Z Z Z Z (Xj Z (Qh Z Z (Qa Z (gn4 Z Z Z Z (Qh Z Z ?_)))))
  refine kc4 hK Z Z Z Z ?_
  refine Ze Z (Qd fun K hK => Qa Z (kc1 hK Z ?_))
  refine Qp (Qj (Qu Z ?_))
  rw [Jn Wa]
 ·rw [h1]
  simp only [qA] at h1
  refine Qe Z (Qa Z (Qe Z (Qf Z Z (Qe Z (Qz Z Z Z (Qe Z (Zh Z Z (Qe Z (Ni Z Z (Qh Z Z (Qa Z ?_)))))))))))
  refine Qv (g := 16) Z (fun h2 => ?_) (fun h2 => ?_)
  ·rw [h2]
   simp only [qA] at h2
   refine gn4 Z Z Z Z (Qh Z Z (kc4 hK Z Z Z Z ?_))
   refine Ze Z (Qd fun K hK => Qa Z (kc1 hK Z ?_))
   refine Qp (Qj (Qu Z ?_))
   rw [Jn Wa]
  ·rw [h2]
   simp only [qA] at h2
   refine Qe Z (Qa Z (Qe Z (Qa Z (Qe Z (Zh Z Z (Qe Z (Ni Z Z (Qh Z Z (kc4 hK Z Z Z Z ?_)))))))))
   refine Qt Z (fun h3 => ?_) (fun h3 => ?_)
   ·rw [h3]
    simp only [qA] at h3
    refine Qd fun K hK => Qa Z (kc1 hK Z ?_)
    refine Qp (Qj (Qu Z ?_))
    rw [Jn Wa]
   ·rw [h3]
    simp only [qA] at h3
    refine Qq (ks3 Z Z Z ?_)
    refine QC ?_ -- 1
    refine Qd fun K hK => mv2 Z Z (QI Z Z Z Wa (Zt Wa Wa) Z (QQ (ds0 := [15, 14, 13, 12, 11, 10, 9, 8, 7, 6, 5, 4, 3, 2, 1, 0]) Z Z Z Z Z (ZT Z Z (Qa Z ?_))))
    refine Qv (g := 27) Z (fun h4 => ?_) (fun h4 => ?_)
    ·rw [h4]
     simp only [qA] at h4
     refine gn4 Z Z Z Z (gn4 Z Z Z Z (gn4 Z Z Z Z ?_))
     refine Xj Z (Qh Z Z (kc3 hK Z Z Z ?_))
     refine Ze Z (Qd fun K hK => Qa Z (kc1 hK Z ?_))
     refine Qp (Qj (Qu Z ?_))
     rw [Kz Wa Wa Wa (by first | exact .inl Wh | exact .inr (by simpa using h5))]
    ·rw [h4]
     simp only [qA] at h4
     refine Qe Z (Qa Z (Qe Z (Qa Z (Qe Z (QI Z Z Z Wa (Zt Wa Wa) Z (Qe Z (QQ (ds0 := [1, 0]) Z Z Z Z Z (Qe Z (Qf Z Z (Qe Z (QQ (ds0 := [6, 5, 4, 3, 2, 1, 0]) Z Z Z Z Z ?_)))))))))))
     refine Qe Z (Qa Z (Qe Z (QI Z Z Z Wa (Zt Wa Wa) Z (Qe Z (Q8 Z Z (Qe Z (QQ (ds0 := [3, 2, 1, 0]) Z Z Z Z Z (Qe Z (Zh Z Z (Qe Z (Qez Z Z ?_)))))))))))
     refine Qe Z (Ni Z Z (Qh Z Z (kc3 hK Z Z Z ?_)))
     refine Qt Z (fun h5 => ?_) (fun h5 => ?_)
     ·rw [h5]
      simp only [qA] at h5
      refine Qd fun K hK => Qa Z (kc1 hK Z ?_)
      refine Qp (Qj (Qu Z ?_))
      rw [Kz Wa Wa Wa (by first | exact .inl Wh | exact .inr (by simpa using h5))]
     ·rw [h5]
      simp only [qA] at h5
      refine Qq (ks2 Z Z (Qd fun K hK => mv2 Z Z (QI Z Z Z Wa (Zt Wa Wa) Z (Qz Z Z Z (QU Z Z Wb (Qw (Xf Wa Wa) Z Z (.inr Z) (Qa Z (kc1 hK Z ?_))))))))
      refine Qp (Qu Z ?_)
      rw [JC Wa Wa Wa Wh (by simpa using h5)]
theorem GR {w : Qy} (hw : WSm w) {x : WantT} (hx : Sm x.s.1 /\ Sm x.s.2) : Ok Tryz.prog 28 [Yq w, .agg (Kl x)] (.int .i64 (TC w x)) := by
 refine Ok.ofT ZS Tryz.func28 Qhh (Qik Z) ?_
 show TW _ _ tf28.body _ _
 refine Qd fun K hK => Zo Z Z Z (Zo Z Z Z (Qa Z (kc2 hK Z Z ?_)))
 refine QC ?_ -- 0
 refine Qd fun K hK => Qf Z Z (Qz Z Z Z (ZT Z Z (Qa Z ?_)))
 refine Qv (g := 11) Z (fun h1 => ?_) (fun h1 => ?_)
 ·rw [h1]
  simp only [qA] at h1
  refine gn4 Z Z Z Z (gn2 Z Z (Qh Z Z (kc3 hK Z Z Z ?_)))
  refine Ze Z (Qd fun K hK => Qa Z (kc1 hK Z ?_))
  refine Qp (Qj (Qu Z ?_))
  rw [NS Wa]
 ·rw [h1]
  simp only [qA] at h1
  refine Qe Z (Qf Z Z (Qe Z (Qz Z Z Z (Qe Z (Qf Z Z (Qe Z (Qz Z Z Z (Qe Z (Zh Z Z (Qe Z (Ni Z Z ?_)))))))))))
  refine Qh Z Z (kc3 hK Z Z Z ?_)
  refine Qt Z (fun h2 => ?_) (fun h2 => ?_)
  ·rw [h2]
   simp only [qA] at h2
   refine Qd fun K hK => Qa Z (kc1 hK Z ?_)
   refine Qp (Qj (Qu Z ?_))
   rw [NS Wa]
  ·rw [h2]
   simp only [qA] at h2
   refine Qq (ks2 Z Z (Qd fun K hK => Qa Z (kc3 hK Z Z Z ?_)))
   refine Qd fun K hK => Qf Z Z (Qz Z Z Z (Qf Z Z (Qz Z Z Z (QI Z Z Z Wa (Zt Wa Wa) Z (Q8 Z Z (Qz Z Z Z (Qa Z (kc3 hK Z Z Z ?_))))))))
   refine QC ?_ -- 1
   refine Qd fun K hK => Qa Z (kc4 hK Z Z Z Z ?_)
   refine QD ?_
   refine Zk (ι := Nat) (fun i => ⟨[(3, .ref 3 0 0), (5, .int .i64 (Kq x.s (w[x.u.toNat]'Wa).cs i)), (6, LN (w[x.u.toNat]'Wa).cs), (7, .int .i64 i)], [(3, ⟨[[.int .i64 (x).u, Zi (x).s.1, Zi (x).s.2]], 3, 68, true⟩)]⟩) (fun i => i <= (min (w[x.u.toNat]'Wa).cs.length 16)) (fun i => (min (w[x.u.toNat]'Wa).cs.length 16) - i) 0 ?_ ?_ ?_
   ·exact QX (l := [3, 5, 6, 7]) (lH := [3]) (kp4 rfl rfl rfl rfl) (Qb rfl Ql) rfl rfl rfl
   ·exact Qiw _
   intro i hI
   refine QC ?_ -- 2
   refine Qd fun K hK => mv2 Z Z (Zh Z Z (ZT Z Z (Qa Z ?_)))
   refine Qv (g := 30) Z (fun h3 => ?_) (fun h3 => ?_)
   ·rw [h3]
    simp only [qA] at h3
    refine Qe Z (Qa Z (Qe Z (ZT Z Z (Qh Z Z (kc5 hK Z Z Z Z Z ?_)))))
    refine Qt Z (fun h4 => ?_) (fun h4 => ?_)
    ·rw [h4]
     simp only [qA] at h4
     refine Qq (ks4 Z Z Z Z ?_)
     refine QC ?_ -- 3
     refine QD (Qd fun K hK => Qf Z Z (QN (ds0 := [0]) (cs := [_, _]) Z Z Z Z Z Z (mv2 Z Z (QI Z Z Z Wa (Q1 Wa) Z (Q8 Z Z (QN (ds0 := [0]) (cs := [_, _, _, _, _]) Z Z Z Z Z Z (Q7 (ds0 := []) (Fg hx.1 hx.2 (hw.vs _ (Qip _) _ (Qip Wa)).1 (hw.vs _ (Qip _) _ (Qip Wa)).2) Z Z (.inr Z) Z Z (kc5 hK Z Z Z Z Z ?_))))))))
     refine Qt Z (fun h5 => ?_) (fun h5 => ?_)
     ·rw [h5]
      simp only [qA] at h5
      refine QL fun K hK => mv2 Z Z (QU Z Z Wb (Qw (Xf Wa Wa) Z Z (.inr Z) (QU Z Z (Qb5 _ _ Wa) (Qa Z (hK _ ?_)))))
      refine Qg (ks4 Z Z Z Z (QL fun K hK => Qa Z (QU Z Z Wb (Qa Z (hK _ ?_)))))
      refine Qi (i + 1) ?_ ?_ ?_
      ·exact QX (l := [3, 5, 6, 7]) (lH := [3]) (kp4 rfl rfl rfl rfl) (Qb rfl Ql) (by rw [MY Wa Wh]; rfl) rfl rfl
      ·omega
      ·omega
     ·rw [h5]
      simp only [qA] at h5
      refine Qq (Qg (ks4 Z Z Z Z (QL fun K hK => Qa Z (QU Z Z Wb (Qa Z (hK _ ?_))))))
      refine Qi (i + 1) ?_ ?_ ?_
      ·exact QX (l := [3, 5, 6, 7]) (lH := [3]) (kp4 rfl rfl rfl rfl) (Qb rfl Ql) (by rw [RT Wa Wh]; rfl) rfl rfl
      ·omega
      ·omega
    ·rw [h4]
     simp only [qA] at h4
     refine Q0 (QE (Qs (QB (ks1 Z (Qd fun K hK => mv2 Z Z (kc1 hK Z ?_))))))
     refine Qp (Qu Z ?_)
     rw [RP Wa Wa, show i = min (w[x.u.toNat]'Wa).cs.length 16 by omega]
   ·rw [h3]
    simp only [qA] at h3
    refine gn2 Z Z (Qh Z Z (kc5 hK Z Z Z Z Z ?_))
    refine Zm Z (Q0 (QE (Qs (QB (ks1 Z (Qd fun K hK => mv2 Z Z (kc1 hK Z ?_)))))))
    refine Qp (Qu Z ?_)
    rw [RP Wa Wa, show i = min (w[x.u.toNat]'Wa).cs.length 16 by omega]
end Go.Proofs
namespace M25
open Go Go.Abs M3
theorem WSm.csLen {w : Qy} (hw : WSm w) {u : Nat} (hu : u < w.length) : w[u].cs.length <= 16 := hw.cs _ (Qip _)
open Go Go.Abs M3
/-! ### Bits of numbers -/
theorem Sh (e : Int) : IntKind.i64.wrap e = (BitVec.ofInt 64 e).toInt := by
 have hb : (BitVec.ofInt 64 e).toInt = if e % 18446744073709551616 < 9223372036854775808 then e % 18446744073709551616 else e % 18446744073709551616 - 18446744073709551616 := by
  rw [BitVec.toInt_ofInt]; rfl
 rw [hb]
 unfold IntKind.wrap
 simp only [IntKind.bits, IntKind.signed, Bool.true_and]
 split
 ·rename_i h
  have := of_decide_eq_true h
  split <;> omega
 ·rename_i h
  have : ¬ (e % 2 ^ 64 >= 2 ^ (64 - 1)) := fun hh => h (decide_eq_true hh)
  split <;> omega
theorem G1 (b : BitVec 64) : BitVec.ofInt 64 (b.toNat : Int) = b := by
 rw [BitVec.ofInt_natCast, BitVec.ofNat_toNat, BitVec.setWidth_eq]
theorem QeH (x y : Int) : BitVec.ofInt 64 (KH x y) = BitVec.ofInt 64 x &&& BitVec.ofInt 64 y := by
 show BitVec.ofInt 64 (IntKind.i64.wrap ((BitVec.ofInt 64 x &&& BitVec.ofInt 64 y).toNat : Int)) = _
 rw [Sh, BitVec.ofInt_toInt, G1]
theorem QfJ (x y : Int) : BitVec.ofInt 64 (bor x y) = BitVec.ofInt 64 x ||| BitVec.ofInt 64 y := by
 show BitVec.ofInt 64 (IntKind.i64.wrap ((BitVec.ofInt 64 x ||| BitVec.ofInt 64 y).toNat : Int)) = _
 rw [Sh, BitVec.ofInt_toInt, G1]
theorem QeI (x y : Int) : BitVec.ofInt 64 (Ps x y) = BitVec.ofInt 64 x &&& ~~~ BitVec.ofInt 64 y := by
 show BitVec.ofInt 64 (IntKind.i64.wrap ((BitVec.ofInt 64 x &&& ~~~ BitVec.ofInt 64 y).toNat : Int)) = _
 rw [Sh, BitVec.ofInt_toInt, G1]
theorem Qbb {x : Int} (h : I64 x) : IntKind.i64.wrap x = x := Qo h.1 h.2
theorem Qcg {x : Int} (h : I64 x) : (BitVec.ofInt 64 x).toInt = x := by rw [<- Sh, Qbb h]
theorem T9 (x y : Int) : I64 (KH x y) := Pk _
theorem QeS (x y : Int) : I64 (bor x y) := Pk _
def tb (x : Int) (i : Nat) : Bool := (BitVec.ofInt 64 x).getLsbD i
theorem DH (x y : Int) (i : Nat) : tb (KH x y) i = (tb x i && tb y i) := by rw [tb, QeH, BitVec.getLsbD_and]; rfl
theorem Qfl (x y : Int) (i : Nat) : tb (bor x y) i = (tb x i || tb y i) := by rw [tb, QfJ, BitVec.getLsbD_or]; rfl
theorem Qat (x y : Int) {i : Nat} : tb (Ps x y) i = (tb x i && !tb y i) := by
 rw [tb, QeI, BitVec.getLsbD_and, BitVec.getLsbD_not]
 by_cases h : i < 64
 ·simp [h, tb]
 ·simp [tb, BitVec.getLsbD_of_ge _ i (by omega : 64 <= i)]
theorem Qas (x : Int) {i : Nat} (h : 64 <= i) : tb x i = false := BitVec.getLsbD_of_ge _ i h
theorem Qaq {x y : Int} (hx : I64 x) (hy : I64 y) (h : ∀ i, tb x i = tb y i) : x = y := by
 rw [<- Qcg hx, <- Qcg hy]
 congr 1
 exact BitVec.eq_of_getLsbD_eq fun i _ => h i
theorem Sb (i : Nat) : tb 0 i = false := by
 show (BitVec.ofInt 64 0).getLsbD i = false
 rw [show BitVec.ofInt 64 0 = 0#64 from rfl, BitVec.getLsbD_zero]
theorem T4 {x : Int} (hx : I64 x) : x = 0 ↔ ∀ i, tb x i = false := by
 constructor
 ·rintro rfl i; exact Sb i
 ·intro h; exact Qaq hx ⟨Wa, Wa⟩ fun i => by rw [h i, Sb]
theorem DJ (n : Nat) {i : Nat} (h : i < 64) : tb (n : Int) i = n.testBit i := by
 rw [tb, BitVec.ofInt_natCast, BitVec.getLsbD_ofNat]; simp [h]
theorem Ph {k : Nat} (hk : k < 64) (i : Nat) : tb ((2 : Int) ^ k) i = decide (i = k) := by
 have e : ((2 ^ k : Nat) : Int) = (2 : Int) ^ k := by simp
 by_cases h : i < 64
 ·rw [<- e, DJ _ h, Nat.testBit_two_pow]
  exact decide_eq_decide.2 eq_comm
 ·rw [Qas _ Wa]; exact (decide_eq_false Wa).symm
theorem QaN {x m : Int} : KH x m = 0 ↔ ∀ i, tb x i = true -> tb m i = false := by
 rw [T4 (T9 x m)]
 refine forall_congr' fun i => ?_
 rw [DH]; cases tb x i <;> cases tb m i <;> simp
def Lo (x : Int) : Prop := 0 <= x /\ x < 131072
theorem KM {x : Int} {k : Nat} (hk : k < 64) : KH x (2 ^ k) = 0 ↔ tb x k = false := by
 rw [QaN]
 constructor
 ·intro h
  cases hx : tb x k
  ·rfl
  ·have := h k hx; rw [Ph hk] at this; simp at this
 ·intro h i hi
  rw [Ph hk]
  by_cases e : i = k
  ·subst e; rw [h] at hi; cases hi
  ·exact decide_eq_false e
open Go Go.Abs M3
/-! ### Trails: the loops' laws -/
theorem Bk {w : Qy} {u : Int} : Xw w u = 0 ↔ inW w u = false := by
 constructor
 ·intro h
  cases hw : inW w u
  ·rfl
  ·rw [MD] at hw
   rw [NR hw.1 hw.2] at h
   have h2 : 2 <= (2 : Int) ^ (min (w[u.toNat]'Wa).cs.length 16 + 1) := by
    rw [Int.pow_succ]
    have := QbJ (n := min (w[u.toNat]'Wa).cs.length 16) Wa
    omega
   omega
 ·intro h
  refine FC (Classical.byContradiction fun hn => ?_)
  rw [QeW Wa Wa] at h; cases h
def Qes (w : Qy) (l : List KJ) : Prop := ∀ s ∈ l, Lo s.m
open Go Go.Abs M3
def Ci : List Rl -> Int -> Int
 | [], n => n
 | u :: r, n => if n < 1000000 then Ci r (n * ((u.cs.length : Int) + 1)) else n
def NI (w : Qy) : Int := Ci w 1
theorem QfZ {w : Qy} {i : Nat} {n : Int} (h : i < w.length) (hn : n < 1000000) : Ci (w.drop i) n = Ci (w.drop (i + 1)) (n * ((w[i].cs.length : Int) + 1)) := by
 rw [QiB h, Ci, if_pos hn]
theorem Qfk {w : Qy} {i : Nat} {n : Int} (h : w.length <= i) : Ci (w.drop i) n = n := by rw [QiF h, Ci]
theorem Qfj {w : Qy} {i : Nat} {n : Int} (hn : ¬ n < 1000000) : Ci (w.drop i) n = n := by
 cases h : w.drop i with
 | nil => rfl
 | cons u r => rw [Ci, if_neg hn]
theorem Qb0 {n : Int} {k : Nat} (h0 : 1 <= n) (h1 : n < 1000000) (hk : k <= 16) : 1 <= n * ((k : Int) + 1) /\ n * ((k : Int) + 1) <= 17000000 := by
 obtain ⟨m, rfl⟩ := Int.eq_ofNat_of_zero_le (Wa : 0 <= n)
 have h2 : m * (k + 1) <= 1000000 * 17 := Nat.mul_le_mul Wa Wa
 have h3 : 1 * 1 <= m * (k + 1) := Nat.mul_le_mul Wa Wa
 have e : (m : Int) * ((k : Int) + 1) = ((m * (k + 1) : Nat) : Int) := by simp
 rw [e]; omega
def chN (w : Qy) (n : Int) : Nat -> Int
 | 0 => n
 | i + 1 => match w[i]? with
  | some u => (chN w n i).tdiv ((u.cs.length : Int) + 1)
  | none => chN w n i
def chL (w : Qy) (n : Int) : Nat -> List Int
 | 0 => []
 | i + 1 => match w[i]? with
  | some u => chL w n i ++ [(chN w n i).tmod ((u.cs.length : Int) + 1) - 1]
  | none => chL w n i
def RO (w : Qy) (n : Int) : List Int := chL w n w.length
theorem QeK {w : Qy} {n : Int} {i : Nat} (h : i < w.length) : chN w n (i + 1) = (chN w n i).tdiv ((w[i].cs.length : Int) + 1) := by rw [chN, List.getElem?_eq_getElem h]
theorem CT {w : Qy} {n : Int} {i : Nat} (h : i < w.length) : chL w n (i + 1) = chL w n i ++ [(chN w n i).tmod ((w[i].cs.length : Int) + 1) - 1] := by rw [chL, List.getElem?_eq_getElem h]
theorem Qau {a : Int} {k : Nat} (h0 : 0 <= a) : 0 <= a.tdiv ((k : Int) + 1) /\ a.tdiv ((k : Int) + 1) <= a := by
 obtain ⟨m, rfl⟩ := Int.eq_ofNat_of_zero_le h0
 have : ((m : Int)).tdiv ((k : Int) + 1) = ((m / (k + 1) : Nat) : Int) := by
  rw [show (k : Int) + 1 = ((k + 1 : Nat) : Int) by simp, Int.ofNat_tdiv]
 rw [this]
 have := Nat.div_le_self m (k + 1)
 exact ⟨Int.natCast_nonneg _, Int.ofNat_le.2 this⟩
theorem CU {w : Qy} {n : Int} (h0 : 0 <= n) : ∀ i, 0 <= chN w n i /\ chN w n i <= n
 | 0 => ⟨h0, Int.le_refl _⟩
 | i + 1 => by
  obtain ⟨h1, h2⟩ := CU (w := w) h0 i
  rw [chN]
  split
  ·rename_i u _
   have := Qau (k := u.cs.length) h1
   omega
  ·exact ⟨h1, h2⟩
theorem CQ (w : Qy) (n : Int) : ∀ i, (chL w n i).length <= i
 | 0 => Nat.le_refl _
 | i + 1 => by
  have := CQ w n i
  rw [chL]; split <;> simp <;> omega
theorem Qd9 {a : Int} {k : Nat} (hk : k <= 16) : IntKind.i64.wrap (a.tmod ((k : Int) + 1) - 1) = a.tmod ((k : Int) + 1) - 1 := by
 have h1 := Int.lt_tmod_of_pos a (Wa : (0 : Int) < (k : Int) + 1)
 have h2 := Int.tmod_lt_of_pos a (Wa : (0 : Int) < (k : Int) + 1)
 exact Qo Wa Wa
theorem Qd8 {a : Int} {k : Nat} (h0 : 0 <= a) (h1 : a <= 9223372036854775807) : IntKind.i64.wrap (a.tdiv ((k : Int) + 1)) = a.tdiv ((k : Int) + 1) := by
 have := Qau (k := k) h0
 exact Qo Wa Wa
theorem FU {v : Int} (h : (v + 1).toNat <= 61) : IntKind.i64.wrap ((1 : Int) * 2 ^ min (v + 1).toNat IntKind.i64.bits) = 2 ^ (v + 1).toNat := by
 rw [show min (v + 1).toNat IntKind.i64.bits = (v + 1).toNat from by simp only [IntKind.bits]; omega, Int.one_mul]
 have := R4 (i := (v + 1).toNat) Wa
 exact Qo Wa Wa
end M25
namespace Go.Proofs
open Go Go.Abs M3 M25
theorem Jq {w : Qy} (hw : WSm w) : Ok Tryz.prog 14 [Yq w] (.int .i64 (NI w)) := by
 refine Ok.ofT ZS Tryz.func14 Qg9 (Qik Z) ?_
 show TW _ _ tf14.body _ _
 have hn := hw.len
 refine Qd fun K hK => Zo Z Z Z (Qa Z (kc1 hK Z ?_))
 refine Qd fun K hK => Qa Z (kc2 hK Z Z ?_)
 refine QC ?_ -- 0
 refine Qd fun K hK => Qa Z (kc3 hK Z Z Z ?_)
 refine QD ?_
 refine Zk (ι := Nat × Int) (fun ⟨i, n⟩ => ⟨[(1, .ref 1 0 0), (3, .int .i64 n), (4, .int .i64 i)], [(1, ⟨[[.sl ((w).map Ym)]], 1, 26, true⟩)]⟩) (fun ⟨i, n⟩ => i <= w.length /\ 1 <= n /\ NI w = Ci (w.drop i) n) (fun ⟨i, n⟩ => w.length - i) (0, 1) ?_ ?_ ?_
 ·exact QX (l := [1, 3, 4]) (lH := [1]) (kp3 rfl rfl rfl) (Qb rfl Ql) rfl rfl rfl
 ·exact ⟨Qiw _, Int.le_refl _, rfl⟩
 intro ⟨i, n⟩ hI
 obtain ⟨hI1, hI2, hI3⟩ := hI
 dsimp only
 refine QC ?_ -- 1
 refine Qd fun K hK => Qa Z (Qf Z Z (Qz Z Z Z (Zh Z Q5 (ZT Z Z (Qa Z ?_)))))
 refine Qv (g := 10) Z (fun h1 => ?_) (fun h1 => ?_)
 ·rw [h1]
  simp only [qA] at h1
  refine Qe Z (Qa Z (Qe Z (ZT Z Z (Qh Z Z (kc4 hK Z Z Z Z ?_)))))
  refine Qt Z (fun h2 => ?_) (fun h2 => ?_)
  ·rw [h2]
   simp only [qA] at h2
   refine Qq (ks3 Z Z Z ?_)
   refine QC ?_ -- 2
   refine QD (QL fun K hK => Qa Z (Qf Z Z (Qz Z Z Z (Qa Z (QI Z Z Z Wa (Q1 Wa) Z (Q8 Z Z (Qz Z Z Z (Zh Z Q5 (QU Z Z (Qo (by have := hw.csLen (Wa : i < w.length); omega) (by have := hw.csLen (Wa : i < w.length); omega)) (TK Z Z (Qo (by have := Qb0 hI2 h2 (hw.csLen (Wa : i < w.length)); omega) (by have := Qb0 hI2 h2 (hw.csLen (Wa : i < w.length)); omega)) ?_))))))))))
   refine Qa Z (hK _ ?_)
   refine Qg (ks3 Z Z Z (QL fun K hK => Qa Z (QU Z Z Wb (Qa Z (hK _ ?_)))))
   refine Qi (i + 1, n * (((w[i]'Wa).cs.length : Int) + 1)) ?_ ?_ ?_
   ·exact QX (l := [1, 3, 4]) (lH := [1]) (kp3 rfl rfl rfl) (Qb rfl Ql) rfl rfl rfl
   ·exact ⟨Wa, (Qb0 hI2 h2 (hw.csLen Wa)).1, by rw [hI3, QfZ Wa h2]⟩
   ·show w.length - (i + 1) < w.length - i; omega
  ·rw [h2]
   simp only [qA] at h2
   refine Q0 (QE (Qs (QB (ks1 Z (Qd fun K hK => mv2 Z Z (kc1 hK Z ?_))))))
   refine Qp (Qu Z ?_)
   rw [hI3, Qfj Wa]
 ·rw [h1]
  simp only [qA] at h1
  refine gn2 Z Z (Qh Z Z (kc4 hK Z Z Z Z ?_))
  refine Zm Z (Q0 (QE (Qs (QB (ks1 Z (Qd fun K hK => mv2 Z Z (kc1 hK Z ?_)))))))
  refine Qp (Qu Z ?_)
  rw [hI3, Qfk Wa]
theorem Hx {w : Qy} (hw : WSm w) {n : Int} (h0n : 0 <= n) (h1n : n <= 9223372036854775807) : Ok Tryz.prog 12 [Yq w, .int .i64 n] (QP (RO w n)) := by
 refine Ok.ofT ZS Tryz.func12 Qg7 (Qik Z) ?_
 show TW _ _ tf12.body _ _
 have hn := hw.len
 refine Qd fun K hK => Zo Z Z Z (Qa Z (kc2 hK Z Z ?_))
 refine Qd fun K hK => Qa Z (kc3 hK Z Z Z ?_)
 refine QC ?_ -- 0
 refine Qd fun K hK => Qa Z (kc4 hK Z Z Z Z ?_)
 refine QD ?_
 refine Zk (ι := Nat) (fun i => ⟨[(1, .int .i64 (chN w n i)), (2, .ref 2 0 0), (5, .osl 5 (chL w n i).length), (6, .int .i64 i)], [(2, ⟨[[.sl ((w).map Ym)]], 1, 26, true⟩), (5, ⟨(chL w n i).map (fun x => [.int .i64 x]), 1, 3, true⟩)]⟩) (fun i => i <= w.length) (fun i => w.length - i) 0 ?_ ?_ ?_
 ·exact le_trans (ZV 5 5 1 3 rfl rfl) (QX (l := [1, 2, 5, 6]) (lH := [2, 5]) (kp4 rfl rfl rfl rfl) (Qb rfl (Qb rfl Ql)) rfl rfl rfl)
 ·exact Qiw _
 intro i hI
 have hlen := CQ w n i
 have hbd := CU (w := w) h0n i
 refine QC ?_ -- 1
 refine Qd fun K hK => Qa Z (Qf Z Z (Qz Z Z Z (Zh Z Q5 (ZT Z Z (kc5 hK Z Z Z Z Z ?_)))))
 refine Qt Z (fun h1 => ?_) (fun h1 => ?_)
 ·rw [h1]
  simp only [qA] at h1
  refine Qq (ks4 Z Z Z Z ?_)
  refine QC ?_ -- 2
  refine QD (Qd fun K hK => Qf Z Z (Qz Z Z Z (Qa Z (QI Z Z Z Wa (Q1 Wa) Z (Q8 Z Z (Qz Z Z Z (Zh Z Q5 (QU Z Z (Qo Wa (by have := hw.csLen (Wa : i < w.length); omega)) (Qa Z (kc5 hK Z Z Z Z Z ?_))))))))))
  refine Qd fun K hK => mv2 Z Z (Qa Z (Sv Z Z Wa (GP Z Z (Qd9 (hw.csLen Wa)) (QJ Z Z (Xy Z Z (fun _ h => Xn Z Z Z h) Z Wd Z Z Z Wf Wf (Qa Z (kc5 hK Z Z Z Z Z ?_)))))))
  refine QL fun K hK => mv2 Z Z (QfC Z Z Wa (Qd8 hbd.1 Wa) (Qa Z (hK _ ?_)))
  refine Qg (ks4 Z Z Z Z (QL fun K hK => Qa Z (QU Z Z Wb (Qa Z (hK _ ?_)))))
  refine Qi (i + 1) ?_ ?_ ?_
  ·exact QX (l := [1, 2, 5, 6]) (lH := [2, 5]) (kp4 rfl rfl rfl rfl) (Qb rfl (Qb rfl Ql)) (by rw [CT Wa, QeK Wa, List.length_append]; rfl) (by rw [CT Wa, List.map_append]; rfl) rfl
  ·omega
  ·omega
 ·rw [h1]
  simp only [qA] at h1
  refine Q0 (QE (Qs (QB (ks1 Z (Qd fun K hK => mv2 Z Z (kc1 hK Z ?_))))))
  refine Qp ?_
  exact K4 rfl rfl rfl Wd (by rw [RO, show w.length = i by omega]; rfl)
theorem H4 {v : Int} (h0 : -1 <= v) (h1v : v <= 60) : Ok Tryz.prog 71 [.int .i64 v] (.int .i64 (2 ^ (v + 1).toNat)) := by
 refine Ok.ofT ZS Tryz.func71 QhS (Qik Z) ?_
 show TW _ _ tf71.body _ _
 refine Qd fun K hK => Qa Z (kc1 hK Z ?_)
 refine Qd fun K hK => Qa Z (QU Z Z Wb (Cv Z Z Wa (FU Wa) (Qa Z (kc1 hK Z ?_))))
 refine Qp (Qu Z ?_)
 rfl
theorem PM {w : Qy} (hw : WSm w) {u : Int} : Ok Tryz.prog 70 [Yq w, .int .i64 u] (.bool (inW w u)) := by
 refine Ok.ofT ZS Tryz.func70 QhR (Qik Z) ?_
 show TW _ _ tf70.body _ _
 refine Qd fun K hK => Zo Z Z Z (Qa Z (kc2 hK Z Z ?_))
 refine Qd fun K hK => Qa Z (Ni Z Z (Qa Z ?_))
 refine Qv (g := 7) Z (fun h1 => ?_) (fun h1 => ?_)
 ·rw [h1]
  simp only [qA] at h1
  refine Qe Z (Qa Z (Qe Z (Qf Z Z (Qe Z (Qz Z Z Z (Qe Z (Zh Z Q5 (Qe Z (ZT Z Z (Qh Z Z (Qa Z ?_)))))))))))
  refine kc1 hK Z ?_
  refine Qp (Qk Z ?_)
  rw [inW, decide_eq_true h1, Bool.true_and]
 ·rw [h1]
  simp only [qA] at h1
  refine gn4 Z Z Z Z (Xj Z (Qh Z Z (Qa Z (kc1 hK Z ?_))))
  refine Qp (Qk Z ?_)
  (rw [Qdv Wa]; done)
theorem Mo {w : Qy} (hw : WSm w) {u : Int} : Ok Tryz.prog 41 [Yq w, .int .i64 u] (.int .i64 (Xw w u)) := by
 refine Ok.ofT ZS Tryz.func41 Qht (Qik Z) ?_
 show TW _ _ tf41.body _ _
 refine Qd fun K hK => Zo Z Z Z (Qa Z (kc2 hK Z Z ?_))
 refine QC ?_ -- 0
 refine Qd fun K hK => QA (cs := [_]) Z Z Z Z (Qa Z (Qw (PM hw) Z Z (.inr Z) (ZF Z (kc3 hK Z Z Z ?_))))
 refine Qt Z (fun h1 => ?_) (fun h1 => ?_)
 ·rw [h1]
  simp only [qA] at h1
  try have h1b := MD.1 h1
  refine Qd fun K hK => Qa Z (kc1 hK Z ?_)
  refine Qp (Qj (Qu Z ?_))
  rw [Bk.2 h1]
 ·rw [h1]
  simp only [qA] at h1
  try have h1b := MD.1 h1
  refine Qq (ks2 Z Z (Qd fun K hK => Qf Z Z (Qz Z Z Z (Qa Z (QI Z Z Z Wa (Zt Wa Wa) Z (Q8 Z Z (Qz Z Z Z (Zh Z Q5 (Qw (H4 Wa (by have := hw.cs _ (Qip (Wa : u.toNat < w.length)); omega)) Z Z (.inr Z) (GP Z Z (Tz (by have := hw.cs _ (Qip (Wa : u.toNat < w.length)); omega)) ?_))))))))))
  refine Qa Z (kc1 hK Z ?_)
  refine Qp (Qu Z ?_)
  rw [NR h1b.1 h1b.2, show min (w[u.toNat]'Wa).cs.length 16 = (w[u.toNat]'Wa).cs.length from Nat.min_eq_left (hw.cs _ (Qip _)), QcL]
end Go.Proofs
namespace M25
open Go Go.Abs M3
/-! ### prop: what is left of each unit, scans -/
structure Qeq (w : Qy) (db : List (List ZL)) (l : List KJ) (a : Nat) (k : Nat) : Prop where
  ha : a < db.length
  hk : k < db[a].length
  eq : QfT w db l = ((a : Int), db[a][k].u)
  one : Tb (PC w l db[a][k].u) db[a][k].m = 1
  two : ∀ j, ∀ hj : j < db[a].length, j ≠ k -> Tb (PC w l db[a][j].u) db[a][j].m = 2
def QgV (w : Qy) (l : List KJ) (t : ZL) (c : Int) : KJ := ⟨t.u, Ps (PC w l t.u) t.m, Qe2 l, c⟩
open Go Go.Abs M3
/-! ### Sets that are made: moderate sizes -/
theorem Qba (l : List (Cu × Cu)) (x y : Cu) : (HN l x y).length <= l.length + 1 := S7 l x y
theorem Rz (f : Cu -> Cu -> Bool) : ∀ (c : List Cu) (out : List (Cu × Cu)), (∀ x ∈ c, Cu.sm x) -> (∀ s ∈ out, Cu.sm s.1 /\ Cu.sm s.2) -> (HM f c out).length <= out.length + c.length /\ ∀ s ∈ HM f c out, Cu.sm s.1 /\ Cu.sm s.2
 | [], out, _, h => ⟨by simp [HM], by simpa [HM] using h⟩
 | [x], out, _, h => ⟨by simp [HM], by simpa [HM] using h⟩
 | x :: y :: r, out, hc, h => by
  rw [HM]
  have hxy := Qba out x y
  split
  ·obtain ⟨h1, h2⟩ := Rz f (y :: r) (HN out x y) (fun z hz => hc z (by simp at hz ⊢; exact .inr hz)) (De h (hc x Wd) (hc y Wd))
   exact ⟨by simp only [List.length_cons] at h1 ⊢; omega, h2⟩
  ·obtain ⟨h1, h2⟩ := Rz f (y :: r) out (fun z hz => hc z (by simp at hz ⊢; exact .inr hz)) h
   exact ⟨by simp only [List.length_cons] at h1 ⊢; omega, h2⟩
def SmN (n : Nat) (l : List (Cu × Cu)) : Prop := l.length <= n /\ ∀ s ∈ l, Cu.sm s.1 /\ Cu.sm s.2
theorem SmN.sm {n : Nat} {l : List (Cu × Cu)} (h : SmN n l) (hn : n <= 1000000) : Sm l := ⟨QiD h.1 hn, h.2⟩
theorem SmN.up {n m : Nat} {l : List (Cu × Cu)} (h : SmN n l) (hn : n <= m) : SmN m l := ⟨QiD h.1 hn, h.2⟩
theorem SmN.nil (n : Nat) : SmN n [] := ⟨Qiw _, by simp⟩
theorem QcA {a b : List (Cu × Cu)} {n m : Nat} (ha : SmN n a) (hb : SmN m b) (h : n + m <= 1000000) : SmN (2 + 2 * (n + m)) (Qcv a b) := by
 unfold Qcv
 split
 ·have hab : Sm (a ++ b) := (ha.sm Wa).app (hb.sm Wa) (by have := ha.1; have := hb.1; omega)
  unfold Lf
  split
  ·obtain ⟨h1, h2⟩ := Rz (mIn (a ++ b)) (YZ (a ++ b)) [] (YB hab) Wd
   have := HL (a ++ b)
   have := ha.1
   have := hb.1
   exact ⟨by simp only [List.length_nil, List.length_append] at *; omega, h2⟩
  ·exact SmN.nil _
 ·exact SmN.nil _
theorem BM {a : List (Cu × Cu)} {n : Nat} (ha : SmN n a) (h : n <= 1000000) : SmN (2 + 2 * n) (Lg a) := by
 unfold Lg
 split
 ·obtain ⟨h1, h2⟩ := Rz (fun x y => !mIn a x y) (YZ a) [] (YB (ha.sm h)) Wd
  have := HL a
  have := ha.1
  exact ⟨by simp only [List.length_nil] at *; omega, h2⟩
 ·exact SmN.nil _
def DV (n : Nat) (s : Nj) : Prop := SmN n s.1 /\ SmN n s.2
theorem Qfa {a b : Nj} {n m : Nat} (ha : DV n a) (hb : DV m b) (h : n + m <= 1000000) : DV (2 + 2 * (n + m)) (Qcw a b) := by
 unfold Qcw
 split
 ·exact ⟨QcA ha.1 hb.1 h, QcA ha.2 hb.2 h⟩
 ·exact ⟨SmN.nil _, SmN.nil _⟩
theorem BN {a : Nj} {n : Nat} (ha : DV n a) (h : n <= 1000000) : DV (2 + 2 * n) (RQ a) := by
 unfold RQ
 split
 ·exact ⟨BM ha.1 h, BM ha.2 h⟩
 ·exact ⟨SmN.nil _, SmN.nil _⟩
theorem Gr (e a b c : Int) (f : Bool) : Cu.sm ⟨e, a, b, c, [], [], f⟩ := ⟨Qiw _, Qiw _⟩
theorem Ga {a b c : Int} {p q : List UInt8} (hp : p.length <= 1000000) : DV 1 (Xk a b c p q) := by
 unfold Xk
 split
 ·exact ⟨SmN.nil _, SmN.nil _⟩
 ·split
  ·refine ⟨SmN.nil _, ⟨Nat.le_refl _, fun s hs => ?_⟩⟩
   simp only [Qit] at hs; subst hs
   exact ⟨⟨hp, Qiw _⟩, ⟨hp, Qiw _⟩⟩
  ·refine ⟨⟨Nat.le_refl _, fun s hs => ?_⟩, SmN.nil _⟩
   simp only [Qit] at hs; subst hs
   constructor
   ·unfold MT; split
    ·exact Gr ..
    ·exact Gr ..
   ·unfold FB; split
    ·exact Gr ..
    ·exact Gr ..
def Pq : Nj := ([(GI, Pz)], [(GI, Pz)])
theorem LJ : DV 1 Pq := by
 have h : SmN 1 [(GI, Pz)] := ⟨Nat.le_refl _, fun s hs => by simp only [Qit] at hs; subst hs; exact ⟨Gr .., Gr ..⟩⟩
 exact ⟨h, h⟩
def bnd (i : Nat) : Nat := 4 * 2 ^ i
theorem Qcf {i : Nat} (h : i <= 16) : bnd i <= 262144 := by
 have : 2 ^ i <= 2 ^ 16 := Nat.pow_le_pow_right Wa h
 have e : (2 : Nat) ^ 16 = 65536 := by decide
 unfold bnd; omega
theorem Qfg {s : Nj} {i : Nat} (h : DV (bnd i - 4) s) {a b c : Int} {p q : List UInt8} (hp : p.length <= 1000000) (hi : i <= 16) : DV (bnd (i + 1) - 4) (Qcw s (Xk a b c p q)) := by
 have h1 := Qcf hi
 have h4 : 4 <= bnd i := by unfold bnd; have := Nat.one_le_two_pow (n := i); omega
 have := Qfa h (Ga (a := a) (b := b) (c := c) (q := q) hp) Wa
 have e : bnd (i + 1) = 2 * bnd i := by unfold bnd; rw [Nat.pow_succ]; omega
 exact ⟨this.1.up Wa, this.2.up Wa⟩
theorem QbV {s : Nj} {i : Nat} (h : DV (bnd i - 4) s) : DV (bnd (i + 1) - 4) s := by
 have e : bnd (i + 1) = 2 * bnd i := by unfold bnd; rw [Nat.pow_succ]; omega
 exact ⟨h.1.up Wa, h.2.up Wa⟩
def SetOk (s : Nj) : Prop := DV 600000 s
theorem SetOk.sm {s : Nj} (h : SetOk s) : Sm s.1 /\ Sm s.2 := ⟨h.1.sm Wa, h.2.sm Wa⟩
structure CR where
 v : Vr
 x : D
 y : D
 z : D
def dCR (r : CR) : List D := [.int .i64 r.v.a, .int .i64 r.v.b, .int .i64 r.v.c, .str r.v.p, .str r.v.q, r.x, r.y, r.z]
def CR.ren (r : CR) : CR := ⟨r.v, r.x.renS upN, r.y.renS upN, r.z.renS upN⟩
theorem CX (l : List CR) : (l.map dCR).map (fun r => r.map (D.renS upN)) = (l.map CR.ren).map dCR := by
 rw [List.map_map, List.map_map]; rfl
structure UR where
 n : List UInt8
 f : List UInt8
 k : Nat
 cs : List CR
def dUR (u : UR) : List D := [.str u.n, .str u.f, .osl u.k u.cs.length]
def UR.ren (u : UR) : UR := ⟨u.n, u.f, upN u.k, u.cs.map CR.ren⟩
theorem Qdm (l : List UR) : (l.map dUR).map (fun r => r.map (D.renS upN)) = (l.map UR.ren).map dUR := by
 rw [List.map_map, List.map_map]
 refine List.map_congr_left fun u _ => ?_
 simp [dUR, UR.ren, D.renS]
structure Fam (H : Qih) (kg ku eu ec : Nat) (us : List UR) : Prop where
 ne : ku ≠ kg
 u : ∃ pr, lk H ku = some ⟨us.map dUR, 3, eu, pr⟩
 c : ∀ y ∈ us, y.k ≠ kg /\ ∃ pr, lk H y.k = some ⟨y.cs.map dCR, 8, ec, pr⟩
 v : ∀ y ∈ us, y.cs.length <= 16 /\ ∀ z ∈ y.cs, Pl z.v
theorem Fam.up {H : Qih} {kg ku eu ec : Nat} {us : List UR} (h : Fam H kg ku eu ec us) : Fam (upH H) (upN kg) (upN ku) eu ec (us.map UR.ren) := by
 obtain ⟨h1, ⟨pu, h2⟩, h3, h4⟩ := h
 refine ⟨fun e => h1 (Sd e), ⟨pu, ?_⟩, fun y hy => ?_, fun y hy => ?_⟩
 ·rw [J6, h2, Option.map_some, Box.ren, Qdm]
 ·obtain ⟨u, hu, rfl⟩ := Qiy.1 hy
  obtain ⟨q1, pr, q2⟩ := h3 u hu
  refine ⟨fun e => q1 (Sd e), pr, ?_⟩
  show lk (upH H) (upN u.k) = _
  rw [J6, q2, Option.map_some, Box.ren, CX]; rfl
 ·obtain ⟨u, hu, rfl⟩ := Qiy.1 hy
  obtain ⟨q1, q2⟩ := h4 u hu
  refine ⟨by simpa [UR.ren] using q1, fun z hz => ?_⟩
  obtain ⟨z0, hz0, rfl⟩ := Qiy.1 hz
  exact q2 z0 hz0
theorem Fam.cons {H : Qih} {kg ku eu ec : Nat} {us : List UR} (h : Fam H kg ku eu ec us) {b : Box} : Fam ((kg, b) :: H) kg ku eu ec us := by
 obtain ⟨h1, ⟨pu, h2⟩, h3, h4⟩ := h
 exact ⟨h1, ⟨pu, Qn (Ne.symm h1) h2⟩, fun y hy => let ⟨q1, pr, q2⟩ := h3 y hy; ⟨q1, pr, Qn (Ne.symm q1) q2⟩, h4⟩
def WantIn (n : Nat) (x : WantT) : Prop := 1 <= x.u /\ x.u < n /\ SetOk x.s
def Sw (n : Nat) (r : List WantT) : Prop := r.length <= 2 /\ ∀ x ∈ r, WantIn n x
def N9 (n : Nat) (m : Int) (ns : List (List WantT)) : Prop := (ns.length : Int) <= m /\ ∀ r ∈ ns, Sw n r
theorem QdT {n : Nat} {x : WantT} (h : WantIn n x) : Sw n [x] := ⟨by simp, by intro y hy; simp only [Qit] at hy; subst hy; exact h⟩
theorem QdU {n : Nat} {x y : WantT} (h : WantIn n x) (h' : WantIn n y) : Sw n [x, y] := ⟨by simp, by
 intro z hz
 simp only [Qim, Qil, or_false] at hz
 rcases hz with rfl | rfl
 ·exact h
 ·exact h'⟩
theorem Qaf {n : Nat} {ns : List (List WantT)} {r : List WantT} (h : ∀ r ∈ ns, Sw n r) (hr : Sw n r) : ∀ x ∈ ns ++ [r], Sw n x := fun x hx => by
 rcases Qiv.1 hx with hx | hx
 ·exact h x hx
 ·simp only [Qit] at hx; subst hx; exact hr
end M25
namespace M25
open Go Go.Abs M3
/-! ### The boxes of a world under way -/
def fbx (ec : Nat) (us : List UR) : Qih := us.map fun u => (u.k, ⟨u.cs.map dCR, 8, ec, true⟩)
def Ye (us : List UR) : Prop := ∀ j, ∀ h : j < us.length, us[j].k = 500001 + j
theorem S1 {us : List UR} {u : UR} (h : Ye us) (hu : u.k = 500001 + us.length) : Ye (us ++ [u]) := fun j hj => by
 rw [List.length_append, List.length_singleton] at hj
 by_cases e : j < us.length
 ·rw [List.getElem_append_left e]; exact h j e
 ·have : j = us.length := Wa
  subst this
  rw [List.getElem_append_right (Nat.le_refl _)]; simpa using hu
theorem Mw (ec : Nat) (us : List UR) : QaH (fbx ec us) := fun p hp => by
 obtain ⟨u, _, rfl⟩ := Qiy.1 hp; rfl
theorem P2 {ec : Nat} : ∀ {us : List UR} {k : Nat} {b : Box}, lk (fbx ec us) k = some b -> ∃ u ∈ us, k = u.k /\ b = ⟨u.cs.map dCR, 8, ec, true⟩
 | [], _, _, h => by cases h
 | u :: us, k, b, h => by
  simp only [fbx, List.map_cons] at h
  rw [Qm] at h
  split at h
  ·rename_i e; cases h; exact ⟨u, by simp, e.symm, rfl⟩
  ·obtain ⟨v, hv, q⟩ := P2 (us := us) h
   exact ⟨v, by simp [hv], q⟩
theorem KV {us : List UR} (h : Ye us) {u : UR} (hu : u ∈ us) : 500001 <= u.k /\ u.k < 500001 + us.length := by
 obtain ⟨j, hj, rfl⟩ := QiG hu
 have := h j hj
 omega
theorem Rx {ec : Nat} {us : List UR} (h : Ye us) : QgN 500001 (fbx ec us) := fun k b hk => by
 obtain ⟨u, hu, rfl, _⟩ := P2 hk
 exact (KV h hu).1
theorem YX {ec : Nat} {us : List UR} (h : Ye us) {k : Nat} (hk : k < 500001 \/ 500001 + us.length <= k) : lk (fbx ec us) k = none := by
 cases hh : lk (fbx ec us) k with
 | none => rfl
 | some b =>
  obtain ⟨u, hu, rfl, _⟩ := P2 hh
  have := KV h hu
  omega
theorem C9 {ec : Nat} : ∀ {us : List UR} {n : Nat}, (∀ j, ∀ h : j < us.length, us[j].k = n + j) -> ∀ j, ∀ h : j < us.length, lk (fbx ec us) (n + j) = some ⟨us[j].cs.map dCR, 8, ec, true⟩
 | [], _, _, j, hj => by simp at hj
 | u :: us, n, hk, 0, _ => by
  have := hk 0 Wd
  simp only [List.getElem_cons_zero, Nat.add_zero] at this
  simp only [fbx, List.map_cons, Nat.add_zero]
  rw [Qm, if_pos this]; rfl
 | u :: us, n, hk, j + 1, hj => by
  have h0 := hk 0 Wd
  simp only [List.getElem_cons_zero, Nat.add_zero] at h0
  simp only [fbx, List.map_cons]
  rw [Qm, if_neg Wa]
  have := C9 (ec := ec) (us := us) (n := n + 1) (fun i hi => by
   have := hk (i + 1) (by simpa using hi)
   simp only [List.getElem_cons_succ] at this
   omega) j (by simpa using hj)
  rw [show n + 1 + j = n + (j + 1) by omega] at this
  simp only [List.getElem_cons_succ]
  exact this
theorem C8 {ec : Nat} {us : List UR} (h : Ye us) {j : Nat} (hj : j < us.length) : lk (fbx ec us) (500001 + j) = some ⟨us[j].cs.map dCR, 8, ec, true⟩ := C9 h j hj
theorem LW (ec : Nat) (us : List UR) (u : UR) : fbx ec (us ++ [u]) = fbx ec us ++ [(u.k, ⟨u.cs.map dCR, 8, ec, true⟩)] := by simp [fbx]
theorem Qa3 {ec : Nat} {us : List UR} (h : Ye us) {kg : Nat} {x y : Box} {u : UR} (hu : u.k = 500001 + us.length) (hkg : u.k ≠ kg) (k : Nat) :
  lk ((u.k, ⟨u.cs.map dCR, 8, ec, true⟩) :: (500000, x) :: (kg, y) :: fbx ec us) k = lk ((500000, x) :: (kg, y) :: fbx ec (us ++ [u])) k := by
 rw [LW]
 by_cases e : u.k = k
 ·subst e
  rw [QF, Qm, if_neg Wa, Qm, if_neg (Ne.symm hkg), YY (YX h (.inr Wa)), QF]
 ·rw [Qm, if_neg e, Qm, Qm, Qm, Qm]
  split
  ·rfl
  ·split
   ·rfl
   ·rw [ZW]
    cases h2 : lk (fbx ec us) k with
    | some v => rfl
    | none => rw [Qm, if_neg e]; rfl
def zr (v : Vr) (sh : Int) : CR := ⟨v, .int .i64 sh, .fsl [], .fsl []⟩
def Qeo (u : UR) : Prop := u.cs.length <= 4 /\ ∀ z ∈ u.cs, ∃ v sh, z = zr v sh /\ Pl v
theorem Qcp {u : UR} : (dUR u).flatMap D.sid = [u.k] := by simp [dUR, D.sid]
theorem Hb {us : List UR} {e et : Nat} {k : Nat} (h : k ∈ (Box.ids ⟨us.map dUR, e, et, false⟩)) : ∃ u ∈ us, k = u.k := by
 simp only [Box.ids, Qis, if_false, Qir, Qiy] at h
 obtain ⟨r, ⟨u, hu, rfl⟩, hk⟩ := h
 have : k ∈ (dUR u).flatMap D.sid := Qir.2 hk
 rw [Qcp] at this
 exact ⟨u, hu, by simpa using this⟩
theorem Qd6 {us : List UR} (h : Ye us) : ∀ r ∈ us.map dUR, ∀ d ∈ r, 500000 ∉ d.sid := fun r hr d hd hk => by
 obtain ⟨u, hu, rfl⟩ := Qiy.1 hr
 have : 500000 ∈ (dUR u).flatMap D.sid := Qir.2 ⟨d, hd, hk⟩
 rw [Qcp] at this
 have h2 := KV h hu
 simp only [Qit] at this
 omega
theorem Rn {B F : Qih} {j : Nat} (h : (lk F j).isSome = true) : (lk (B ++ F) j).isSome = true := by
 rw [ZW]; split
 ·rfl
 ·exact h
theorem Fs {ec : Nat} {us : List UR} (h : Ye us) {u : UR} (hu : u ∈ us) : (lk (fbx ec us) u.k).isSome = true := by
 obtain ⟨j, hj, rfl⟩ := QiG hu
 rw [h j hj, C8 h hj]; rfl
theorem Ry {ec : Nat} {us : List UR} {u : UR} (h : Ye us) (hu : u.k = 500001 + us.length) : lk (fbx ec (us ++ [u])) (500001 + us.length) = some ⟨u.cs.map dCR, 8, ec, true⟩ := by
 rw [LW, YY (YX h (.inr (Nat.le_refl _))), <- hu, QF]
section
variable {l : List Nat} {fr fr1 fr' : Qii} {B : Qih} {kg eg eu ec : Nat} {L : List Int} {J : Int} {us : List UR}
theorem QgS (hf : Zb l fr = fr1) (ef : fr1 = fr') (hK : Ye us) (hu : lk B 500000 = some ⟨us.map dUR, 3, eu, false⟩) (hg : lk B kg = some (gB L J eg)) (hB : ∀ p ∈ B, 500001 <= p.1 -> p.1 = kg) (hkg : kg ≠ 500000)
  (hfr : ∀ p ∈ fr', ∀ k ∈ p.2.ids, k = 500000 \/ k = kg \/ ∃ u ∈ us, k = u.k) : St.le ⟨fr, B ++ fbx ec us⟩ ⟨fr', [(500000, ⟨us.map dUR, 3, eu, false⟩), (kg, gB L J eg)] ++ fbx ec us⟩ := by
 have s0 : ∀ k, (k = 500000 \/ k = kg \/ ∃ u ∈ us, k = u.k) -> (lk ([(500000, (⟨us.map dUR, 3, eu, false⟩ : Box)), (kg, gB L J eg)] ++ fbx ec us) k).isSome = true := fun k hk => by
  rcases hk with rfl | rfl | ⟨u, hu, rfl⟩
  ·exact Q2
  ·exact QW Q2
  ·exact Rn (Fs hK hu)
 refine Le (N := 500001) hf ef (fun p hp => ?_) rfl (fun p hp j hj => s0 j ?_) (fun p hp h => ?_) (Rx hK) (Mw ec us) (fun p hp k hk => s0 k (hfr p hp k hk))
 ·simp only [Qim, Qil, or_false] at hp
  rcases hp with rfl | rfl
  ·exact hu
  ·exact hg
 ·simp only [Qim, Qil, or_false] at hp
  rcases hp with rfl | rfl
  ·exact .inr (.inr (Hb hj))
  ·simp [Box.ids, gB] at hj
 ·rw [hB p hp h]; exact QW Q2
theorem Qem {cs : List CR} (hf : Zb l fr = fr1) (ef : fr1 = fr') (hK : Ye us) (hc : lk B (500001 + us.length) = some ⟨cs.map dCR, 8, ec, true⟩) (hu : lk B 500000 = some ⟨us.map dUR, 3, eu, false⟩) (hg : lk B kg = some (gB L J eg)) (hB : ∀ p ∈ B, 500001 <= p.1 -> p.1 = kg \/ p.1 = 500001 + us.length)
  (hfr : ∀ p ∈ fr', ∀ k ∈ p.2.ids, k = 500000 \/ k = kg \/ k = 500001 + us.length \/ ∃ u ∈ us, k = u.k) : St.le ⟨fr, B ++ fbx ec us⟩ ⟨fr', [(500001 + us.length, ⟨cs.map dCR, 8, ec, true⟩), (500000, ⟨us.map dUR, 3, eu, false⟩), (kg, gB L J eg)] ++ fbx ec us⟩ := by
 have s0 : ∀ k, (k = 500000 \/ k = kg \/ k = 500001 + us.length \/ ∃ u ∈ us, k = u.k) -> (lk ([(500001 + us.length, (⟨cs.map dCR, 8, ec, true⟩ : Box)), (500000, (⟨us.map dUR, 3, eu, false⟩ : Box)), (kg, gB L J eg)] ++ fbx ec us) k).isSome = true := fun k hk => by
  rcases hk with rfl | rfl | rfl | ⟨u, hu, rfl⟩
  ·exact QW Q2
  ·exact QW (QW Q2)
  ·exact Q2
  ·exact Rn (Fs hK hu)
 refine Le (N := 500001) hf ef (fun p hp => ?_) rfl (fun p hp j hj => s0 j ?_) (fun p hp h => ?_) (Rx hK) (Mw ec us) (fun p hp k hk => s0 k (hfr p hp k hk))
 ·simp only [Qim, Qil, or_false] at hp
  rcases hp with rfl | rfl | rfl
  ·exact hc
  ·exact hu
  ·exact hg
 ·simp only [Qim, Qil, or_false] at hp
  rcases hp with rfl | rfl | rfl
  ·simp [Box.ids] at hj
  ·exact .inr (.inr (.inr (Hb hj)))
  ·simp [Box.ids, gB] at hj
 ·rcases hB p hp h with e | e
  ·rw [e]; exact QW (QW Q2)
  ·rw [e]; exact Q2
theorem Qfm {u : UR} (hf : Zb l fr = fr1) (ef : fr1 = fr') (hK : Ye us) (huk : u.k = 500001 + us.length) (hc : lk B (500001 + us.length) = some ⟨u.cs.map dCR, 8, ec, true⟩) (hu : lk B 500000 = some ⟨(us ++ [u]).map dUR, 3, eu, false⟩) (hg : lk B kg = some (gB L J eg)) (hB : ∀ p ∈ B, 500001 <= p.1 -> p.1 = kg \/ p.1 = 500001 + us.length) (hkg : 1000000 <= kg) (hlen : us.length <= 100)
  (hfr : ∀ p ∈ fr', ∀ k ∈ p.2.ids, k = 500000 \/ k = kg \/ ∃ v ∈ us ++ [u], k = v.k) : St.le ⟨fr, B ++ fbx ec us⟩ ⟨fr', [(500000, ⟨(us ++ [u]).map dUR, 3, eu, false⟩), (kg, gB L J eg)] ++ fbx ec (us ++ [u])⟩ := by
 have hK1 := S1 hK huk
 have mv := fun k => Qa3 (ec := ec) hK (kg := kg) (x := ⟨(us ++ [u]).map dUR, 3, eu, false⟩) (y := gB L J eg) huk Wa k
 have s0 : ∀ k, (k = 500000 \/ k = kg \/ ∃ v ∈ us ++ [u], k = v.k) -> (lk ([(u.k, (⟨u.cs.map dCR, 8, ec, true⟩ : Box)), (500000, (⟨(us ++ [u]).map dUR, 3, eu, false⟩ : Box)), (kg, gB L J eg)] ++ fbx ec us) k).isSome = true := fun k hk => by
  show (lk ((u.k, _) :: (500000, _) :: (kg, _) :: fbx ec us) k).isSome = true
  rw [mv]
  rcases hk with rfl | rfl | ⟨v, hv, rfl⟩
  ·exact Q2
  ·exact QW Q2
  ·exact QW (QW (Fs hK1 hv))
 refine le_trans (Le (N := 500001) (A' := [(u.k, ⟨u.cs.map dCR, 8, ec, true⟩), (500000, ⟨(us ++ [u]).map dUR, 3, eu, false⟩), (kg, gB L J eg)]) hf ef (fun p hp => ?_) rfl (fun p hp j hj => s0 j ?_) (fun p hp h => ?_) (Rx hK) (Mw ec us) (fun p hp k hk => s0 k (hfr p hp k hk))) (Ld ⟨fun _ => rfl, mv⟩)
 ·simp only [Qim, Qil, or_false] at hp
  rcases hp with rfl | rfl | rfl
  ·rw [huk]; exact hc
  ·exact hu
  ·exact hg
 ·simp only [Qim, Qil, or_false] at hp
  rcases hp with rfl | rfl | rfl
  ·simp [Box.ids] at hj
  ·exact .inr (.inr (Hb hj))
  ·simp [Box.ids, gB] at hj
 ·rcases hB p hp h with e | e
  ·rw [e]; exact QW (QW Q2)
  ·rw [e, <- huk]; exact Q2
end
def u0 (v : Vr) : UR := ⟨[], [], 500001, [zr v (-1)]⟩
def v0 : Vr := ⟨0, 0, 0, [], []⟩
theorem QbZ {kg a b : Nat} (h : 1000000 <= kg) (ha : a < 1000000) (hb : b < 1000000) : XO a b kg = kg := by
 unfold XO; rw [if_neg Wa, if_neg Wa]
theorem BD {l : List Nat} {fr fr1 fr' : Qii} {kg eg eu ec : Nat} {L : List Int} {I : Int} (hkg : 1000000 <= kg) (hf : Zb l fr = fr1) (ef : fr1.map (fun p => (p.1, (p.2.ren (XO 18 500000)).ren (XO 16 500001))) = fr') :
  St.le ⟨fr, [(18, ⟨[[.str [], .str [], .osl 16 1]], 3, eu, false⟩), (16, ⟨[dCR (zr v0 (-1))], 8, ec, true⟩), (kg, gB L I eg)]⟩ ⟨fr', [(500000, ⟨[u0 v0].map dUR, 3, eu, false⟩), (kg, gB L I eg)] ++ fbx ec [u0 v0]⟩ := by
 subst hf ef
 have k1 := QbZ (a := 18) (b := 500000) hkg Wg Wg
 have k2 := QbZ (a := 16) (b := 500001) hkg Wg Wg
 refine le_trans (HJ l fr _) (le_trans (MK 18 500000 Wg Wg _) (le_trans (MK 16 500001 Wg Wg _) ?_))
 have hH : ∀ k, lk ([(500000, (⟨[u0 v0].map dUR, 3, eu, false⟩ : Box)), (kg, gB L I eg)] ++ fbx ec [u0 v0]) k = lk (Ho (XO 16 500001) (Ho (XO 18 500000) [(18, ⟨[[.str [], .str [], .osl 16 1]], 3, eu, false⟩), (16, ⟨[dCR (zr v0 (-1))], 8, ec, true⟩), (kg, gB L I eg)])) k := fun k => by
  have e : Ho (XO 16 500001) (Ho (XO 18 500000) [(18, (⟨[[.str [], .str [], .osl 16 1]], 3, eu, false⟩ : Box)), (16, ⟨[dCR (zr v0 (-1))], 8, ec, true⟩), (kg, gB L I eg)]) = [(500000, ⟨[u0 v0].map dUR, 3, eu, false⟩), (500001, ⟨[dCR (zr v0 (-1))], 8, ec, true⟩), (kg, gB L I eg)] := by
   simp only [Ho, List.map_cons, List.map_nil, k1, k2]; rfl
  rw [e]
  show lk ((500000, _) :: (kg, _) :: (500001, _) :: []) k = _
  rw [Qm, Qm, Qm, Qm, Qm, Qm]
  by_cases h1 : 500000 = k
  ·rw [if_pos h1, if_pos h1]
  ·rw [if_neg h1, if_neg h1]
   by_cases h2 : kg = k
   ·rw [if_pos h2, if_neg Wa, if_pos h2]
   ·rw [if_neg h2, if_neg h2]; rfl
 refine KW (by simp only [St.ren, List.map_map]; rfl) fun k => (hH k).symm
def names5 : List (List UInt8) := [[97, 110, 116], [98, 101, 101], [99, 111, 119], [100, 111, 103], [101, 108, 107]]
theorem Zc : names5.length = 5 := rfl
theorem Qd7 : versions.length = 4 := rfl
theorem Qfn {i : Nat} (h : i < versions.length) : Pl versions[i] := by
 have := Lz _ (Qip h)
 exact ⟨QiD this.1 Wa, QiD this.2 Wa⟩
structure UnitsIn (us : List UR) : Prop where
 keys : Ye us
 fresh : ∀ u ∈ us, Qeo u
 first : ∃ z rest, us = ⟨[], [], 500001, [z]⟩ :: rest
theorem UnitsIn.zero : UnitsIn [u0 v0] := by
 refine ⟨fun j hj => ?_, fun u hu => ?_, ⟨zr v0 (-1), [], rfl⟩⟩
 ·have : j = 0 := by simp at hj; exact hj
  subst this; rfl
 ·simp only [Qit] at hu; subst hu
  refine ⟨by simp [u0], fun z hz => ?_⟩
  simp only [u0, Qit] at hz; subst hz
  exact ⟨v0, -1, rfl, ⟨Qiw _, Qiw _⟩⟩
theorem UnitsIn.snoc {us : List UR} (h : UnitsIn us) {n f : List UInt8} {cs : List CR} (hc : cs.length <= 4) (hz : ∀ z ∈ cs, ∃ v sh, z = zr v sh /\ Pl v) : UnitsIn (us ++ [⟨n, f, 500001 + us.length, cs⟩]) := by
 obtain ⟨h1, h2, z, rest, h3⟩ := h
 refine ⟨S1 h1 rfl, fun u hu => ?_, z, rest ++ [⟨n, f, 500001 + us.length, cs⟩], by rw [h3]; rfl⟩
 rcases Qiv.1 hu with hu | hu
 ·exact h2 u hu
 ·simp only [Qit] at hu; subst hu; exact ⟨hc, hz⟩
def CsIn (n : Nat) (cs : List CR) : Prop := cs.length <= n /\ ∀ z ∈ cs, ∃ v sh, z = zr v sh /\ Pl v
theorem CsIn.nil (n : Nat) : CsIn n [] := ⟨Qiw _, by simp⟩
theorem CsIn.keep {n : Nat} {cs : List CR} (h : CsIn n cs) : CsIn (n + 1) cs := ⟨Nat.le_succ_of_le h.1, h.2⟩
theorem CsIn.snoc {n : Nat} {cs : List CR} (h : CsIn n cs) {v : Vr} (hv : Pl v) {sh : Int} : CsIn (n + 1) (cs ++ [zr v sh]) := by
 refine ⟨by simp; exact h.1, fun z hz => ?_⟩
 rcases Qiv.1 hz with hz | hz
 ·exact h.2 z hz
 ·simp only [Qit] at hz; subst hz; exact ⟨v, sh, rfl, hv⟩
theorem CsIn.at {n : Nat} {cs : List CR} (h : CsIn n cs) {i : Nat} (hi : i < cs.length) : Pl cs[i].v := by
 obtain ⟨v, sh, e, hv⟩ := h.2 _ (Qip hi)
 rw [e]; exact hv
theorem Dc {α : Type} {k : Nat} {v v' : α} {l : List (Nat × α)} (h : v = v') : lk ((k, v) :: l) k = some v' := by rw [QF, h]
theorem Ts {us : List UR} {e et : Nat} (h : Ye us) : Box.scrub (500001 + us.length) ⟨us.map dUR, e, et, false⟩ = ⟨us.map dUR, e, et, false⟩ := Tr fun hk => by
 obtain ⟨u, hu, e⟩ := Hb hk
 have := KV h hu
 omega
theorem DL {us : List UR} (h : Ye us) {n f : List UInt8} {k m : Nat} (hk : k ≠ 500000) : ∀ r ∈ us.map dUR ++ [[D.str n, D.str f, D.osl k m]], ∀ d ∈ r, 500000 ∉ d.sid := fun r hr d hd => by
 rcases Qiv.1 hr with hr | hr
 ·exact Qd6 h r hr d hd
 ·simp only [Qit] at hr; subst hr
  simp only [Qim, Qil, or_false] at hd
  rcases hd with rfl | rfl | rfl <;> simp [D.sid]
  exact Ne.symm hk
theorem Qd5 {us : List UR} {u : UR} : (us ++ [u]).map dUR = us.map dUR ++ [dUR u] := by simp
theorem Qdl {cs : List CR} {z : CR} : (cs ++ [z]).map dCR = cs.map dCR ++ [dCR z] := by simp
theorem KG {us : List UR} (h : Ye us) {kg eu ec : Nat} {g1 g2 g3 : Box} (hkg : 1000000 <= kg) (h1 : g1.pr = true) (h2 : g2.pr = true) (hlen : us.length <= 100) :
  (∀ k, 1000000 <= k -> (lk [(kg, g1)] k).isSome = true -> (lk (((500000, (⟨us.map dUR, 3, eu, false⟩ : Box)) :: fbx ec us) ++ [(kg, g2), (kg, g1)]) k).isSome = true) /\
  (∀ k b, lk (((500000, (⟨us.map dUR, 3, eu, false⟩ : Box)) :: fbx ec us) ++ [(kg, g2), (kg, g1)]) k = some b -> 500000 <= k /\ ∀ j ∈ b.ids, (lk (((500000, (⟨us.map dUR, 3, eu, false⟩ : Box)) :: fbx ec us) ++ [(kg, g2), (kg, g1)]) j).isSome = true) /\
  (∀ k b, lk (((500000, (⟨us.map dUR, 3, eu, false⟩ : Box)) :: fbx ec us) ++ [(kg, g2), (kg, g1)]) k = some b -> lk ((kg, g2) :: (500000, ⟨us.map dUR, 3, eu, false⟩) :: (kg, g3) :: fbx ec us) k = some b) := by
 have cs : ∀ k b, lk (((500000, (⟨us.map dUR, 3, eu, false⟩ : Box)) :: fbx ec us) ++ [(kg, g2), (kg, g1)]) k = some b -> (k = 500000 /\ b = ⟨us.map dUR, 3, eu, false⟩) \/ (∃ u ∈ us, k = u.k /\ b = ⟨u.cs.map dCR, 8, ec, true⟩) \/ (k = kg /\ b = g2) := fun k b hk => by
  rw [List.cons_append, Qm] at hk
  split at hk
  ·rename_i e; cases hk; exact .inl ⟨e.symm, rfl⟩
  ·rw [ZW] at hk
   cases hh : lk (fbx ec us) k with
   | some v =>
    rw [hh] at hk; cases hk
    exact .inr (.inl (P2 hh))
   | none =>
    rw [hh] at hk
    simp only at hk
    rw [Qm] at hk
    split at hk
    ·rename_i e; cases hk; exact .inr (.inr ⟨e.symm, rfl⟩)
    ·rename_i e
     rw [Qm, if_neg e] at hk; cases hk
 refine ⟨fun k _ hk => ?_, fun k b hk => ?_, fun k b hk => ?_⟩
 ·obtain ⟨b, hb⟩ := Qiq.1 hk
  obtain ⟨rfl, _⟩ := Jd hb
  exact Rn Q2
 ·rcases cs k b hk with ⟨rfl, rfl⟩ | ⟨u, hu, rfl, rfl⟩ | ⟨rfl, rfl⟩
  ·refine ⟨Nat.le_refl _, fun j hj => ?_⟩
   obtain ⟨u, hu, rfl⟩ := Hb hj
   rw [List.cons_append]
   refine QW ?_
   obtain ⟨b, hb⟩ := Qiq.1 (Fs (ec := ec) h hu)
   rw [Yv hb]; rfl
  ·have := KV h hu
   exact ⟨Wa, fun j hj => by simp [Box.ids] at hj⟩
  ·exact ⟨Wa, fun j hj => by rw [Jj h2] at hj; cases hj⟩
 ·rcases cs k b hk with ⟨rfl, rfl⟩ | ⟨u, hu, rfl, rfl⟩ | ⟨rfl, rfl⟩
  ·exact Qn Wa QF
  ·have hm := KV h hu
   obtain ⟨j, hj, rfl⟩ := QiG hu
   refine Qn Wa (Qn Wa (Qn Wa ?_))
   rw [h j hj]; exact C8 h hj
  ·exact QF
end M25
namespace M25
open Go Go.Abs M3
/-! ### A world under way: one candidate after the other is filled -/
def PureC (z : CR) : Prop := z.x.sid = [] /\ z.y.sid = [] /\ z.z.sid = []
theorem PureC.all {z : CR} (h : PureC z) : ∀ d ∈ dCR z, d.sid = [] := fun d hd => by
 simp only [dCR, Qim, Qil, or_false] at hd
 rcases hd with rfl | rfl | rfl | rfl | rfl | rfl | rfl | rfl
 ·rfl
 ·rfl
 ·rfl
 ·rfl
 ·rfl
 ·exact h.1
 ·exact h.2.1
 ·exact h.2.2
def Nc (u : UR) (k : Nat) (z : CR) : UR := { u with cs := u.cs.set k z }
def Gq (us : List UR) (i k : Nat) (z : CR) : List UR := us.modify i fun u => Nc u k z
theorem ZC (us : List UR) (i k : Nat) (z : CR) : (Gq us i k z).length = us.length := List.length_modify ..
theorem DF (us : List UR) (i k : Nat) (z : CR) : (Gq us i k z).map dUR = us.map dUR := by
 refine List.ext_getElem (by simp [Gq]) fun j h1 h2 => ?_
 simp only [List.getElem_map, Gq, List.getElem_modify]
 split <;> simp [dUR, Nc]
theorem Kr {us : List UR} {i k : Nat} {z : CR} {j : Nat} (h : j < us.length) : (Gq us i k z)[j]'(by rw [ZC]; exact h) = if i = j then Nc us[j] k z else us[j] := by
 simp only [Gq, List.getElem_modify]
theorem FP {us : List UR} {i k : Nat} {z : CR} (h : Ye us) : Ye (Gq us i k z) := fun j hj => by
 rw [ZC] at hj
 rw [Kr hj]
 split
 ·exact h j hj
 ·exact h j hj
def wA (us : List UR) (eu ec eg : Nat) (L : List Int) (J : Int) (b4 : Box) : Qih := [(500000, ⟨us.map dUR, 3, eu, false⟩), (12, gB L J eg), (4, b4)] ++ fbx ec us
theorem Hc {us : List UR} {eu ec eg : Nat} {L : List Int} {J : Int} {b4 : Box} (h : Ye us) {k : Nat} {b : Box} (hk : lk (wA us eu ec eg L J b4) k = some b) : (k = 500000 /\ b = ⟨us.map dUR, 3, eu, false⟩) \/ (k = 12 /\ b = gB L J eg) \/ (k = 4 /\ b = b4) \/ ∃ j, ∃ hj : j < us.length, k = 500001 + j /\ b = ⟨us[j].cs.map dCR, 8, ec, true⟩ := by
 unfold wA at hk
 rcases MP hk with hk | ⟨_, hk⟩
 ·simp only [Qim, Qil, or_false, Prod.mk.injEq] at hk
  rcases hk with h | h | h
  ·exact .inl h
  ·exact .inr (.inl h)
  ·exact .inr (.inr (.inl h))
 ·obtain ⟨u, hu, e1, e2⟩ := P2 hk
  obtain ⟨j, hj, rfl⟩ := QiG hu
  exact .inr (.inr (.inr ⟨j, hj, e1.trans (h j hj), e2⟩))
section
variable {us : List UR} {eu ec eg : Nat} {L : List Int} {J : Int} {b4 : Box}
theorem N5 : lk (wA us eu ec eg L J b4) 500000 = some ⟨us.map dUR, 3, eu, false⟩ := rfl
theorem Nz : lk (wA us eu ec eg L J b4) 12 = some (gB L J eg) := rfl
theorem Pp : lk (wA us eu ec eg L J b4) 4 = some b4 := rfl
theorem G5 (h : Ye us) {j : Nat} (hj : j < us.length) : lk (wA us eu ec eg L J b4) (500001 + j) = some ⟨us[j].cs.map dCR, 8, ec, true⟩ := by
 show lk ((500000, _) :: (12, _) :: (4, _) :: fbx ec us) _ = _
 rw [Qm, if_neg Wa, Qm, if_neg Wa, Qm, if_neg Wa]
 exact C8 h hj
theorem Z2 (h : Ye us) {k : Nat} (h1 : k ≠ 500000) (h2 : k ≠ 12) (h3 : k ≠ 4) (h4 : k < 500001 \/ 500001 + us.length <= k) : lk (wA us eu ec eg L J b4) k = none := by
 show lk ((500000, _) :: (12, _) :: (4, _) :: fbx ec us) _ = _
 rw [Qm, if_neg (Ne.symm h1), Qm, if_neg (Ne.symm h2), Qm, if_neg (Ne.symm h3)]
 exact YX h h4
theorem LA (h : Ye us) {k : Nat} (hk : k = 500000 \/ k = 12 \/ k = 4 \/ ∃ u ∈ us, k = u.k) : (lk (wA us eu ec eg L J b4) k).isSome = true := by
 rcases hk with rfl | rfl | rfl | ⟨u, hu, rfl⟩
 ·rfl
 ·rfl
 ·rfl
 ·obtain ⟨j, hj, rfl⟩ := QiG hu
  rw [h j hj, G5 h hj]; rfl
theorem JF (h : Ye us) (h4 : b4.pr = true) : Closed (wA us eu ec eg L J b4) := fun k b hk j hj => by
 rcases Hc h hk with ⟨rfl, rfl⟩ | ⟨rfl, rfl⟩ | ⟨rfl, rfl⟩ | ⟨i, hi, rfl, rfl⟩
 ·exact LA h (.inr (.inr (.inr (Hb hj))))
 ·simp [Box.ids, gB] at hj
 ·rw [Jj h4] at hj; cases hj
 ·simp [Box.ids] at hj
theorem F6 {α : Type} : ∀ {l : List α} {k : Nat} {a x : α}, x ∈ l.set k a -> x = a \/ x ∈ l
 | [], k, a, x, h => by simp at h
 | b :: l, 0, a, x, h => by
  simp only [List.set_cons_zero, Qim] at h ⊢
  rcases h with h | h
  ·exact .inl h
  ·exact .inr (.inr h)
 | b :: l, k + 1, a, x, h => by
  simp only [List.set_cons_succ, Qim] at h ⊢
  rcases h with h | h
  ·exact .inr (.inl h)
  ·rcases F6 h with h | h
   ·exact .inl h
   ·exact .inr (.inr h)
theorem MJ {l : List Nat} {fr fr1 fr' : Qii} {H : Qih} {i k : Nat} {row : List D} {p : Bool} (kk : Nat) (z' : CR) (hf : Zb l fr = fr1) (ef : fr1 = fr') (hK : Ye us) (hi : i < us.length) (hk : k < us[i].cs.length)
  (hKi : lk H (500001 + i) = some ⟨(us[i].cs.map dCR).set k row, 8, ec, p⟩) (hp : p = true -> row.map (D.fzS H (· == kk)) = row) (hrow : (row.map (D.fzS H (· == kk))).map D.canS = dCR z') (hoth : ∀ z ∈ us[i].cs, PureC z) (hz : PureC z')
  (hF : ∀ j, ∀ hj : j < us.length, j ≠ i -> lk H (500001 + j) = some ⟨us[j].cs.map dCR, 8, ec, true⟩) (hu : lk H 500000 = some ⟨us.map dUR, 3, eu, false⟩) (hg : lk H 12 = some (gB L J eg)) (h4 : lk H 4 = some b4) (hb4 : b4.pr = true) (hkk : kk < 500000 /\ kk ≠ 12 /\ kk ≠ 4) (hsm : ∀ j, 1000000 <= j -> lk H j = none) (hlen : us.length <= 100)
  (hfr : ∀ p ∈ fr', ∀ j ∈ p.2.ids, j = 500000 \/ j = 12 \/ j = 4 \/ ∃ u ∈ us, j = u.k) : St.le ⟨fr, H⟩ ⟨fr', wA (Gq us i k z') eu ec eg L J b4⟩ := by
 subst hf ef
 have nokk : ∀ j, (j = 500000 \/ j = 12 \/ j = 4 \/ ∃ u ∈ us, j = u.k) -> j ≠ kk := fun j hj e => by
  subst e
  rcases hj with rfl | rfl | rfl | ⟨u, hu, rfl⟩
  ·omega
  ·exact hkk.2.1 rfl
  ·exact hkk.2.2 rfl
  ·have := (KV hK hu).1; omega
 have eqkk : ∀ j, j ≠ kk -> (j == kk) = false := fun j hj => by simp [hj]
 have some1 : ∀ b j, (j = 500000 \/ j = 12 \/ j = 4 \/ ∃ u ∈ us, j = u.k) -> (lk ((500001 + i, b) :: wA us eu ec eg L J b4) j).isSome = true := fun b j hj => QW (LA hK hj)
 have rowsz : ∀ r ∈ us[i].cs.map dCR, r.map (D.fzS H (· == kk)) = r := fun r hr => by
  obtain ⟨z, hzm, rfl⟩ := Qiy.1 hr
  exact Yn fun d hd => F0 fun j hj => by rw [(hoth z hzm).all d hd] at hj; cases hj
 have mapz : ((us[i].cs.map dCR).set k row).map (fun r => r.map (D.fzS H (· == kk))) = (us[i].cs.map dCR).set k (row.map (D.fzS H (· == kk))) := by
  refine List.ext_getElem Wd fun j h1 h2 => ?_
  simp only [List.getElem_map, List.getElem_set]
  split
  ·rfl
  ·exact rowsz _ (List.mem_map_of_mem (Qip _))
 refine le_trans (HJ l fr H) (le_trans (Qcs kk (H' := (500001 + i, ⟨(us[i].cs.map dCR).set k (row.map (D.fzS H (· == kk))), 8, ec, p⟩) :: wA us eu ec eg L J b4) Wa (fr' := Zb l fr) (fun t d h => ⟨d, h, SU fun j hj => eqkk j (nokk j (hfr (t, d) (ZN h) j hj))⟩) (fun j b h => ?_) (fun t d h j hj => some1 _ j (hfr (t, d) (ZN h) j hj)) (fun j b h j2 hj2 => ?_) fun j hj hs => ?_) ?_)
 ·rw [Qm] at h
  split at h
  ·rename_i e; cases h; subst e
   refine ⟨Wa, _, hKi, ?_⟩
   cases p with
   | true => rw [hp rfl]; rfl
   | false => show Box.mk _ _ _ _ = _; rw [mapz]
  ·rename_i e
   rcases Hc hK h with ⟨rfl, rfl⟩ | ⟨rfl, rfl⟩ | ⟨rfl, rfl⟩ | ⟨i2, hi2, rfl, rfl⟩
   ·refine ⟨Wa, _, hu, XS (.inr fun j hj => eqkk j (nokk j (.inr (.inr (.inr (Hb hj))))))⟩
   ·exact ⟨Ne.symm hkk.2.1, _, hg, rfl⟩
   ·exact ⟨Ne.symm hkk.2.2, _, h4, XS (.inl hb4)⟩
   ·exact ⟨Wa, _, hF i2 hi2 (fun e2 => e Wa), rfl⟩
 ·rw [Qm] at h
  split at h
  ·cases h
   cases hpp : p with
   | true => rw [Jj hpp] at hj2; cases hj2
   | false =>
   simp only [Box.ids, hpp, Qis, if_false, Qir] at hj2
   obtain ⟨r, hr, d, hd, hj3⟩ := hj2
   rcases F6 hr with rfl | hr
   ·have : (d.canS).sid = [] := hz.all _ (by rw [<- hrow]; exact List.mem_map_of_mem hd)
    rw [H7] at this
    rw [this] at hj3; cases hj3
   ·obtain ⟨z, hzm, rfl⟩ := Qiy.1 hr
    rw [(hoth z hzm).all d hd] at hj3; cases hj3
  ·exact QW (JF hK hb4 j b h j2 hj2)
 ·rw [hsm j hj] at hs; cases hs
 ·refine le_trans (Qbh k QF) (le_trans (Lc QF (fun e => ?_) (fun r hr d hd => ?_)) (KW rfl fun j => ?_))
  ·have := congrArg List.length e
   simp only [List.length_modify, List.length_set, List.length_map, List.length_nil] at this
   omega
  ·rcases KA hr with h | ⟨y, hy, rfl⟩
   ·rcases F6 h with rfl | h
    ·have : (d.canS).sid = [] := hz.all _ (by rw [<- hrow]; exact List.mem_map_of_mem hd)
     rwa [H7] at this
    ·obtain ⟨z, hzm, rfl⟩ := Qiy.1 h
     exact (hoth z hzm).all d hd
   ·obtain ⟨d0, hd0, rfl⟩ := Qiy.1 hd
    rw [H7]
    rcases F6 hy with rfl | h
    ·have : (d0.canS).sid = [] := hz.all _ (by rw [<- hrow]; exact List.mem_map_of_mem hd0)
     rwa [H7] at this
    ·obtain ⟨z, hzm, rfl⟩ := Qiy.1 h
     exact (hoth z hzm).all d0 hd0
  ·have erows : ((us[i].cs.map dCR).set k (row.map (D.fzS H (· == kk)))).modify k (fun r => r.map D.canS) = ((us[i].cs.set k z').map dCR) := by
    refine List.ext_getElem Wd fun m h1 h2 => ?_
    simp only [List.getElem_modify, List.getElem_set, List.getElem_map]
    by_cases e : k = m
    ·subst e
     simp only [if_true]
     exact hrow
    ·simp only [if_neg e]
   have hK' := FP (i := i) (k := k) (z := z') hK
   by_cases e : 500001 + i = j
   ·subst e
    rw [QF, G5 hK' (by rw [ZC]; exact hi)]
    simp only [Kr hi, if_true, erows]; rfl
   ·rw [Qm, if_neg e, Qm, if_neg e, Qm, if_neg e]
    cases h : lk (wA us eu ec eg L J b4) j with
    | none =>
     cases h' : lk (wA (Gq us i k z') eu ec eg L J b4) j with
     | none => rfl
     | some b =>
      have : (lk (wA us eu ec eg L J b4) j).isSome = true := by
       rcases Hc hK' h' with ⟨rfl, _⟩ | ⟨rfl, _⟩ | ⟨rfl, _⟩ | ⟨m, hm, rfl, _⟩
       ·rfl
       ·rfl
       ·rfl
       ·rw [ZC] at hm; rw [G5 hK hm]; rfl
      rw [h] at this; cases this
    | some b =>
     rcases Hc hK h with ⟨rfl, rfl⟩ | ⟨rfl, rfl⟩ | ⟨rfl, rfl⟩ | ⟨m, hm, rfl, rfl⟩
     ·rw [N5, DF]
     ·rfl
     ·rfl
     ·rw [G5 hK' (by rw [ZC]; exact hm)]
      simp only [Kr hm, if_neg (Wa : ¬ i = m)]
end
theorem Fz : ∀ {H : Qih} {j : Nat}, j ∈ H.map Prod.fst -> (lk H j).isSome = true
 | [], _, h => by cases h
 | (k, b) :: H, j, h => by
  by_cases e : k = j
  ·subst e; exact Q2
  ·refine QW (Fz ?_)
   simp only [List.map_cons, Qim] at h
   exact h.resolve_left (Ne.symm e)
theorem Qb3 {us : List UR} (h : Ye us) {i : Nat} (hi : i < us.length) : (us.map dUR)[((i : Nat) : Int).toNat]? = some [.str us[i].n, .str us[i].f, .osl (500001 + i) us[i].cs.length] := by
 rw [Int.toNat_natCast, List.getElem?_map, List.getElem?_eq_getElem hi, Option.map_some, dUR, h i hi]
theorem QfL {cs : List CR} {k : Nat} (hk : k < cs.length) : (cs.map dCR)[((k : Nat) : Int).toNat]? = some (dCR cs[k]) := by
 rw [Int.toNat_natCast, List.getElem?_map, List.getElem?_eq_getElem hk]; rfl
theorem Lw {us : List UR} {eu ec eg : Nat} {L : List Int} {J : Int} {b4 g1 : Box} (h : Ye us) (k : Nat) : lk (((500000, (⟨us.map dUR, 3, eu, false⟩ : Box)) :: fbx ec us) ++ ([(12, gB L J eg)] ++ [(12, g1), (4, b4)])) k = lk (wA us eu ec eg L J b4) k := by
 show lk ((500000, _) :: (fbx ec us ++ [(12, gB L J eg), (12, g1), (4, b4)])) k = lk ((500000, _) :: (12, _) :: (4, _) :: fbx ec us) k
 rw [Qm, Qm]
 split
 ·rfl
 ·rw [ZW]
  cases hh : lk (fbx ec us) k with
  | some v =>
   have := Rx h k v hh
   simp only
   rw [Qm, if_neg Wa, Qm, if_neg Wa, hh]
  | none =>
   simp only [Qm, hh]
   by_cases e : 12 = k
   ·rw [if_pos e, if_pos e]
   ·rw [if_neg e, if_neg e, if_neg e]; rfl
theorem DO {us : List UR} {eu ec eg : Nat} {L : List Int} {J : Int} {b4 : Box} (h : Ye us) (hv : ∀ y ∈ us, y.cs.length <= 16 /\ ∀ z ∈ y.cs, Pl z.v) : Fam (wA us eu ec eg L J b4) 12 500000 eu ec us := by
 refine ⟨by decide, ⟨false, rfl⟩, fun y hy => ?_, hv⟩
 obtain ⟨j, hj, rfl⟩ := QiG hy
 refine ⟨by rw [h j hj]; omega, true, by rw [h j hj]; exact G5 h hj⟩
/-! ### Filled candidates -/
def Qc0 (n : Nat) (x : WantT) : Prop := 0 <= x.u /\ x.u < n /\ SetOk x.s
theorem WantIn.w {n : Nat} {x : WantT} (h : WantIn n x) : Qc0 n x := ⟨by have := h.1; omega, h.2.1, h.2.2⟩
structure JL (n : Nat) (c : CandT) : Prop where
 v : Pl c.v
 nl : c.ns.length <= 10
 nr : ∀ r ∈ c.ns, r.length <= 2 /\ ∀ x ∈ r, Qc0 n x
 bl : c.bs.length <= 1
 bw : ∀ x ∈ c.bs, Qc0 n x
def Sj (c : CandT) : CR := ⟨c.v, .int .i64 c.sh, Q9 c.ns, Q6 c.bs⟩
def DoneC (n : Nat) (z : CR) : Prop := ∃ c, z = Sj c /\ JL n c
def FreshC (z : CR) : Prop := ∃ v sh, z = zr v sh /\ Pl v
theorem DoneC.pure {n : Nat} {z : CR} (h : DoneC n z) : PureC z := by obtain ⟨c, rfl, _⟩ := h; exact ⟨rfl, rfl, rfl⟩
theorem FreshC.pure {z : CR} (h : FreshC z) : PureC z := by obtain ⟨v, sh, rfl, _⟩ := h; exact ⟨rfl, rfl, rfl⟩
theorem DoneC.vr {n : Nat} {z : CR} (h : DoneC n z) : Pl z.v := by obtain ⟨c, rfl, q⟩ := h; exact q.v
theorem FreshC.vr {z : CR} (h : FreshC z) : Pl z.v := by obtain ⟨v, sh, rfl, q⟩ := h; exact q
structure Prog (n : Nat) (us : List UR) (i k : Nat) : Prop where
 keys : Ye us
 len : us.length = n /\ 2 <= n /\ n <= 11
 cl : ∀ u ∈ us, u.cs.length <= 4
 done : ∀ j, ∀ hj : j < us.length, ∀ m, ∀ hm : m < us[j].cs.length, (j < i \/ (j = i /\ m < k)) -> DoneC n us[j].cs[m]
 fresh : ∀ j, ∀ hj : j < us.length, ∀ m, ∀ hm : m < us[j].cs.length, ¬ (j < i \/ (j = i /\ m < k)) -> FreshC us[j].cs[m]
theorem Prog.pure {n : Nat} {us : List UR} {i k : Nat} (h : Prog n us i k) {j : Nat} (hj : j < us.length) : ∀ z ∈ us[j].cs, PureC z /\ Pl z.v := fun z hz => by
 obtain ⟨m, hm, rfl⟩ := QiG hz
 by_cases hd : j < i \/ (j = i /\ m < k)
 ·exact ⟨(h.done j hj m hm hd).pure, (h.done j hj m hm hd).vr⟩
 ·exact ⟨(h.fresh j hj m hm hd).pure, (h.fresh j hj m hm hd).vr⟩
theorem Prog.fam {n : Nat} {us : List UR} {i k : Nat} (h : Prog n us i k) : ∀ y ∈ us, y.cs.length <= 16 /\ ∀ z ∈ y.cs, Pl z.v := fun y hy => by
 obtain ⟨j, hj, rfl⟩ := QiG hy
 exact ⟨QiD (h.cl _ hy) Wa, fun z hz => (h.pure hj z hz).2⟩
theorem Prog.put {n : Nat} {us : List UR} {i k : Nat} (h : Prog n us i k) (hi : i < us.length) (hk : k < us[i].cs.length) {z : CR} (hz : DoneC n z) : Prog n (Gq us i k z) i (k + 1) := by
 have at' := fun (j : Nat) (hj : j < us.length) => Kr (i := i) (k := k) (z := z) hj
 refine ⟨FP h.keys, by rw [ZC]; exact h.len, fun u hu => ?_, fun j hj m hm hd => ?_, fun j hj m hm hd => ?_⟩
 ·obtain ⟨j, hj, rfl⟩ := QiG hu
  rw [ZC] at hj
  rw [at' j hj]
  split
  ·simp only [Nc, List.length_set]; exact h.cl _ (Qip _)
  ·exact h.cl _ (Qip _)
 ·rw [ZC] at hj
  have e := at' j hj
  by_cases hij : i = j
  ·subst hij
   rw [if_pos rfl] at e
   have hm' : m < (Nc us[i] k z).cs.length := by rw [<- e]; exact hm
   have e2 : (Gq us i k z)[i].cs[m] = (Nc us[i] k z).cs[m]'hm' := by congr 1; rw [e]
   rw [e2]
   simp only [Nc, List.getElem_set]
   split
   ·exact hz
   ·simp only [Nc, List.length_set] at hm'
    exact h.done i hi m hm' Wa
  ·rw [if_neg hij] at e
   have hm' : m < us[j].cs.length := by rw [<- e]; exact hm
   have e2 : (Gq us i k z)[j].cs[m] = us[j].cs[m]'hm' := by congr 1; rw [e]
   rw [e2]; exact h.done j hj m hm' Wa
 ·rw [ZC] at hj
  have e := at' j hj
  by_cases hij : i = j
  ·subst hij
   rw [if_pos rfl] at e
   have hm' : m < (Nc us[i] k z).cs.length := by rw [<- e]; exact hm
   have e2 : (Gq us i k z)[i].cs[m] = (Nc us[i] k z).cs[m]'hm' := by congr 1; rw [e]
   rw [e2]
   simp only [Nc, List.length_set] at hm'
   simp only [Nc, List.getElem_set]
   rw [if_neg Wa]
   exact h.fresh i hi m hm' Wa
  ·rw [if_neg hij] at e
   have hm' : m < us[j].cs.length := by rw [<- e]; exact hm
   have e2 : (Gq us i k z)[j].cs[m] = us[j].cs[m]'hm' := by congr 1; rw [e]
   rw [e2]; exact h.fresh j hj m hm' Wa
theorem Prog.next {n : Nat} {us : List UR} {i k : Nat} (h : Prog n us i k) (hi : i < us.length) (hk : us[i].cs.length <= k) : Prog n us (i + 1) 0 := by
 refine ⟨h.keys, h.len, h.cl, fun j hj m hm hd => h.done j hj m hm ?_, fun j hj m hm hd => h.fresh j hj m hm Wa⟩
 by_cases e : j = i
 ·subst e; exact .inr ⟨rfl, Wa⟩
 ·exact .inl Wa
theorem Prog.again {n : Nat} {us : List UR} {i k : Nat} (h : Prog n us i (k + 1)) (hi : i < us.length) (hk : k < us[i].cs.length) {z : CR} (hz : DoneC n z) : Prog n (Gq us i k z) i (k + 1) := by
 have at' := fun (j : Nat) (hj : j < us.length) => Kr (i := i) (k := k) (z := z) hj
 refine ⟨FP h.keys, by rw [ZC]; exact h.len, fun u hu => ?_, fun j hj m hm hd => ?_, fun j hj m hm hd => ?_⟩
 ·obtain ⟨j, hj, rfl⟩ := QiG hu
  rw [ZC] at hj
  rw [at' j hj]
  split
  ·simp only [Nc, List.length_set]; exact h.cl _ (Qip _)
  ·exact h.cl _ (Qip _)
 ·rw [ZC] at hj
  have e := at' j hj
  by_cases hij : i = j
  ·subst hij
   rw [if_pos rfl] at e
   have hm' : m < (Nc us[i] k z).cs.length := by rw [<- e]; exact hm
   have e2 : (Gq us i k z)[i].cs[m] = (Nc us[i] k z).cs[m]'hm' := by congr 1; rw [e]
   rw [e2]
   simp only [Nc, List.getElem_set]
   split
   ·exact hz
   ·simp only [Nc, List.length_set] at hm'
    exact h.done i hi m hm' Wa
  ·rw [if_neg hij] at e
   have hm' : m < us[j].cs.length := by rw [<- e]; exact hm
   have e2 : (Gq us i k z)[j].cs[m] = us[j].cs[m]'hm' := by congr 1; rw [e]
   rw [e2]; exact h.done j hj m hm' Wa
 ·rw [ZC] at hj
  have e := at' j hj
  by_cases hij : i = j
  ·subst hij
   rw [if_pos rfl] at e
   have hm' : m < (Nc us[i] k z).cs.length := by rw [<- e]; exact hm
   have e2 : (Gq us i k z)[i].cs[m] = (Nc us[i] k z).cs[m]'hm' := by congr 1; rw [e]
   rw [e2]
   simp only [Nc, List.length_set] at hm'
   simp only [Nc, List.getElem_set]
   rw [if_neg Wa]
   exact h.fresh i hi m hm' Wa
  ·rw [if_neg hij] at e
   have hm' : m < us[j].cs.length := by rw [<- e]; exact hm
   have e2 : (Gq us i k z)[j].cs[m] = us[j].cs[m]'hm' := by congr 1; rw [e]
   rw [e2]; exact h.fresh j hj m hm' Wa
theorem BC {l : List Nat} {fr fr1 fr' : Qii} {us : List UR} {eu ec eg e1 e3 : Nat} {L : List Int} {J : Int} {b4 bK : Box} {i : Nat} {x : WantT} (hf : Zb l fr = fr1) (ef : fr1 = fr') (hK : Ye us) (hi : i < us.length) (hb4 : b4.pr = true) (hbK : ∀ j ∈ bK.ids, j = 64)
  (hfr : ∀ p ∈ fr', ∀ j ∈ p.2.ids, j = 500000 \/ j = 12 \/ j = 4 \/ ∃ u ∈ us, j = u.k) :
  St.le ⟨fr, (500001 + i, bK) :: (64, ⟨[[.osl 63 1]], 1, e1, false⟩) :: (63, ⟨[Kl x], 3, e3, true⟩) :: wA us eu ec eg L J b4⟩ ⟨fr', (500001 + i, bK) :: (64, ⟨[[Q6 [x]]], 1, e1, true⟩) :: wA us eu ec eg L J b4⟩ := by
 subst hf ef
 have no63 : ∀ j, (j = 500000 \/ j = 12 \/ j = 4 \/ ∃ u ∈ us, j = u.k) -> j ≠ 63 := fun j hj e => by
  subst e
  rcases hj with h | h | h | ⟨u, hu, h⟩
  ·cases h
  ·cases h
  ·cases h
  ·have := (KV hK hu).1; omega
 have eq63 : ∀ j, j ≠ 63 -> (j == 63) = false := fun j hj => by simp [hj]
 have up : ∀ b b' j, (lk (wA us eu ec eg L J b4) j).isSome = true -> (lk ((500001 + i, b) :: (64, b') :: wA us eu ec eg L J b4) j).isSome = true := fun b b' j hj => QW (QW hj)
 refine le_trans (HJ l fr _) (le_trans (Qcs 63 (H' := (500001 + i, bK) :: (64, ⟨[[Q6 [x]]], 1, e1, false⟩) :: wA us eu ec eg L J b4) Wg (fr' := Zb l fr) (fun t d h => ⟨d, h, SU fun j hj => eq63 j (no63 j (hfr (t, d) (ZN h) j hj))⟩) (fun j b h => ?_) (fun t d h j hj => up _ _ j (LA hK (hfr (t, d) (ZN h) j hj))) (fun j b h j2 hj2 => ?_) fun j hj hs => ?_) ?_)
 ·rw [Qm] at h
  split at h
  ·rename_i e; cases h; subst e
   refine ⟨Wa, _, QF, XS (.inr fun j hj => ?_)⟩
   rw [hbK j hj]; rfl
  ·rename_i e
   rw [Qm] at h
   split at h
   ·rename_i e2; cases h; subst e2
    refine ⟨by decide, _, Qn e QF, ?_⟩
    have h63 : lk ((500001 + i, bK) :: (64, (⟨[[.osl 63 1]], 1, e1, false⟩ : Box)) :: (63, ⟨[Kl x], 3, e3, true⟩) :: wA us eu ec eg L J b4) 63 = some ⟨[Kl x], 3, e3, true⟩ := Qn Wa (Qn Wg QF)
    simp only [Box.fz, Qis, if_false, List.map_cons, List.map_nil, D.fzS, beq_self_eq_true, if_true, h63, List.length_singleton, and_self, Q6]
   ·rename_i e2
    have h2 : lk ((500001 + i, bK) :: (64, (⟨[[.osl 63 1]], 1, e1, false⟩ : Box)) :: (63, ⟨[Kl x], 3, e3, true⟩) :: wA us eu ec eg L J b4) j = some b := by
     have hj : j ≠ 63 := by
      rcases Hc hK h with ⟨rfl, _⟩ | ⟨rfl, _⟩ | ⟨rfl, _⟩ | ⟨m, _, rfl, _⟩ <;> omega
     exact Qn e (Qn e2 (Qn (Ne.symm hj) h))
    rcases Hc hK h with ⟨rfl, rfl⟩ | ⟨rfl, rfl⟩ | ⟨rfl, rfl⟩ | ⟨m, hm, rfl, rfl⟩
    ·exact ⟨by decide, _, h2, XS (.inr fun j hj => eq63 j (no63 j (.inr (.inr (.inr (Hb hj))))))⟩
    ·exact ⟨by decide, _, h2, rfl⟩
    ·exact ⟨by decide, _, h2, XS (.inl hb4)⟩
    ·exact ⟨Wa, _, h2, rfl⟩
 ·rw [Qm] at h
  split at h
  ·cases h
   rw [hbK j2 hj2]; exact QW Q2
  ·rw [Qm] at h
   split at h
   ·cases h; simp [Box.ids, D.sid, Q6] at hj2
   ·exact up _ _ j2 (JF hK hb4 j b h j2 hj2)
 ·by_cases e : 500001 + i = j
  ·subst e; exact Q2
  ·rw [Qm, if_neg e, Qm, if_neg Wa, Qm, if_neg Wa] at hs
   exact up _ _ j hs
 ·have h64 : lk ((500001 + i, bK) :: (64, (⟨[[Q6 [x]]], 1, e1, false⟩ : Box)) :: wA us eu ec eg L J b4) 64 = some ⟨[[Q6 [x]]], 1, e1, false⟩ := Qn Wa QF
  refine le_trans (Lc h64 Wd (by intro r hr d hd; simp only [Qit] at hr; subst hr; simp only [Qit] at hd; subst hd; rfl)) (KW rfl fun j => ?_)
  by_cases e : 64 = j
  ·subst e; rw [QF, Qm, if_neg Wa, QF]
  ·by_cases eK : 500001 + i = j
   ·subst eK; rw [Qm, if_neg e, QF, QF]
   ·rw [Qm, if_neg e, Qm, if_neg eK, Qm, if_neg e, Qm, if_neg eK, Qm, if_neg e]
theorem CY {n : Nat} : ∀ {cs : List CR}, (∀ z ∈ cs, DoneC n z) -> ∃ l : List CandT, cs = l.map Sj /\ ∀ c ∈ l, JL n c
 | [], _ => ⟨[], rfl, by simp⟩
 | z :: cs, h => by
  obtain ⟨l, h1, h2⟩ := CY (cs := cs) fun y hy => h y (by simp [hy])
  obtain ⟨c, rfl, hc⟩ := h z Wd
  exact ⟨c :: l, by rw [h1]; rfl, fun y hy => by
   rcases Qim.1 hy with rfl | hy
   ·exact hc
   ·exact h2 y hy⟩
def QeD (n : Nat) (u : UR) (x : Rl) : Prop := x.n = u.n /\ x.f = u.f /\ u.cs = x.cs.map Sj /\ ∀ c ∈ x.cs, JL n c
theorem CZ {n : Nat} : ∀ {us : List UR}, (∀ u ∈ us, ∀ z ∈ u.cs, DoneC n z) -> ∃ w : Qy, w.length = us.length /\ ∀ j, ∀ h : j < us.length, ∀ h' : j < w.length, QeD n us[j] w[j]
 | [], _ => ⟨[], rfl, fun j h => by simp at h⟩
 | u :: us, h => by
  obtain ⟨w, h1, h2⟩ := CZ (us := us) fun y hy => h y (by simp [hy])
  obtain ⟨l, q1, q2⟩ := CY (h u Wd)
  refine ⟨⟨u.n, u.f, l⟩ :: w, by simp [h1], fun j hj hj' => ?_⟩
  cases j with
  | zero => exact ⟨rfl, rfl, q1, q2⟩
  | succ j => simp only [List.getElem_cons_succ]; exact h2 j (by simpa using hj) (by simpa using hj')
structure WMade (w : Qy) : Prop where
 sm : WSm w
 len : 2 <= w.length /\ w.length <= 11
 cs : ∀ u ∈ w, u.cs.length <= 4
 cand : ∀ u ∈ w, ∀ c ∈ u.cs, JL w.length c
theorem QdC {w : Qy} (h2 : 2 <= w.length) (h11 : w.length <= 11) (hc : ∀ u ∈ w, u.cs.length <= 4) (hd : ∀ u ∈ w, ∀ c ∈ u.cs, JL w.length c) : WMade w := by
 refine ⟨⟨Wa, fun u hu => QiD (hc u hu) Wa, fun u hu c hcm => (hd u hu c hcm).v, fun u hu c hcm => ⟨QiD (hd u hu c hcm).nl Wa, QiD (hd u hu c hcm).bl Wa⟩, fun u hu c hcm r hr => QiD ((hd u hu c hcm).nr r hr).1 Wa, fun u hu c hcm r hr x hx => (((hd u hu c hcm).nr r hr).2 x hx).2.2.sm, fun u hu c hcm x hx => ((hd u hu c hcm).bw x hx).2.2.sm⟩, ⟨h2, h11⟩, hc, hd⟩
theorem Qbj {n : Nat} {us : List UR} {eu ec eg : Nat} {L : List Int} {J : Int} {b4 : Box} {k : Nat} (h : Prog n us us.length k) (hb4 : b4.pr = true) :
  ∃ w : Qy, w.length = us.length /\ WMade w /\ ∀ {l : List Nat} {fr fr1 fr' : Qii}, Zb l fr = fr1 -> fr1 = fr' -> (∀ p ∈ fr', ∀ j ∈ p.2.ids, j = 500000 \/ j = 4) -> St.le ⟨fr, wA us eu ec eg L J b4⟩ ⟨fr', [(500000, ⟨w.map Ym, 3, eu, true⟩), (4, b4)]⟩ := by
 obtain ⟨w, hw1, hw2⟩ := CZ (n := n) (us := us) fun u hu z hz => by
  obtain ⟨j, hj, rfl⟩ := QiG hu
  obtain ⟨m, hm, rfl⟩ := QiG hz
  exact h.done j hj m hm (.inl hj)
 have hcs : ∀ u ∈ w, u.cs.length <= 4 /\ ∀ c ∈ u.cs, JL n c := fun u hu => by
  obtain ⟨j, hj, rfl⟩ := QiG hu
  obtain ⟨_, _, q3, q4⟩ := hw2 j Wa hj
  have := h.cl us[j] (Qip _)
  rw [q3, List.length_map] at this
  exact ⟨this, q4⟩
 have hlen := h.len
 refine ⟨w, hw1, QdC Wa Wa (fun u hu => (hcs u hu).1) (fun u hu c hc => by have := (hcs u hu).2 c hc; rwa [show w.length = n by omega]), ?_⟩
 intro l fr fr1 fr' hf ef hfr
 subst hf ef
 have hK := h.keys
 let S : Nat -> Bool := fun k => decide (500001 <= k) && decide (k < 1000000)
 have hS1 : ∀ k, k < 500001 -> S k = false := fun k hk => by
  show (decide (500001 <= k) && decide (k < 1000000)) = false
  rw [decide_eq_false Wa]; rfl
 have hS2 : ∀ k, 500001 <= k -> k < 1000000 -> S k = true := fun k h1 h2 => by
  show (decide (500001 <= k) && decide (k < 1000000)) = true
  rw [decide_eq_true h1, decide_eq_true h2]; rfl
 have hrow : ∀ j, ∀ h1 : j < us.length, ∀ h2 : j < w.length, (dUR us[j]).map (D.fzS (wA us eu ec eg L J b4) S) = Ym w[j] := fun j h1 h2 => by
  obtain ⟨q1, q2, q3, q4⟩ := hw2 j h1 h2
  have hk := hK j h1
  have hc := G5 (eu := eu) (ec := ec) (eg := eg) (L := L) (J := J) (b4 := b4) hK h1
  generalize us[j] = u at q1 q2 q3 hk hc
  generalize w[j] = x at q1 q2 q3 q4
  obtain ⟨un, uf, uk, ucs⟩ := u
  simp only at q1 q2 q3 hk hc
  subst hk q3
  simp only [dUR, Ym, List.map_cons, List.map_nil, D.fzS]
  rw [hS2 _ Wa Wa, hc]
  simp only [if_true, true_and, List.length_map, q1, q2, LN, List.map_map]
  rfl
 have hrows : (us.map dUR).map (fun r => r.map (D.fzS (wA us eu ec eg L J b4) S)) = w.map Ym := by
  refine List.ext_getElem (by simp [hw1]) fun j h1 h2 => ?_
  simp only [List.getElem_map]
  exact hrow j (by simpa using h1) (by simpa using h2)
 refine le_trans (HJ l fr _) (le_trans (Qdz S (fun k hk => by
  simp only [S, Qio, decide_eq_true_eq] at hk; exact hk.2) (fr' := Zb l fr) (H' := [(500000, ⟨w.map Ym, 3, eu, false⟩), (4, b4)]) (fun t d hd => ⟨d, hd, SU fun j hj => ?_⟩) (fun j b hj => ?_) (fun t d hd j hj => ?_) (fun j b hb i hi => ?_) fun j hj hs => ?_) (le_trans (Lc (k := 500000) (b := ⟨w.map Ym, 3, eu, false⟩) rfl (fun e => ?_) (fun r hr d hd => ?_)) (KW rfl fun j => ?_)))
 ·rcases hfr (t, d) (ZN hd) j hj with rfl | rfl
  ·exact hS1 _ Wg
  ·exact hS1 _ Wg
 ·rw [Qm] at hj
  split at hj
  ·rename_i e; cases hj; subst e
   refine ⟨hS1 _ Wg, _, N5, ?_⟩
   simp only [Box.fz, Qis, if_false, hrows]
  ·rw [Qm] at hj
   split at hj
   ·rename_i e; cases hj; subst e
    exact ⟨hS1 _ Wg, _, Pp, XS (.inl hb4)⟩
   ·cases hj
 ·rcases hfr (t, d) (ZN hd) j hj with rfl | rfl
  ·rfl
  ·rfl
 ·rw [Qm] at hb
  split at hb
  ·cases hb
   simp only [Box.ids, Qis, if_false, Qir, Qiy] at hi
   obtain ⟨r, ⟨u, _, rfl⟩, d, hd, hi⟩ := hi
   simp only [Ym, Qim, Qil, or_false] at hd
   rcases hd with rfl | rfl | rfl <;> simp [D.sid, LN] at hi
  ·rw [Qm] at hb
   split at hb
   ·cases hb; rw [Jj hb4] at hi; cases hi
   ·cases hb
 ·obtain ⟨b, hb⟩ := Qiq.1 hs
  rcases Hc hK hb with ⟨rfl, _⟩ | ⟨rfl, _⟩ | ⟨rfl, _⟩ | ⟨m, hm, rfl, _⟩ <;> omega
 ·have := congrArg List.length e
  simp only [List.length_map, List.length_nil] at this
  omega
 ·obtain ⟨u, _, rfl⟩ := Qiy.1 hr
  simp only [Ym, Qim, Qil, or_false] at hd
  rcases hd with rfl | rfl | rfl <;> rfl
 ·by_cases e : 500000 = j
  ·subst e; rfl
  ·rw [Qm, if_neg e, Qm, if_neg e]; rw [Qm (k := 500000), if_neg e]
def TZ (us : List UR) (i : Nat) : Nat := match us[i]? with
 | some u => u.cs.length
 | none => 0
theorem Kk {us : List UR} {i : Nat} (h : i < us.length) : TZ us i = us[i].cs.length := by rw [TZ, List.getElem?_eq_getElem h]
theorem JX (us : List UR) (i k : Nat) (z : CR) : TZ (Gq us i k z) i = TZ us i := by
 by_cases h : i < us.length
 ·rw [Kk h, Kk (by rw [ZC]; exact h), Kr h, if_pos rfl]
  simp [Nc]
 ·have e : (Gq us i k z).length = us.length := ZC ..
  rw [TZ, TZ, List.getElem?_eq_none (Wa : us.length <= i), List.getElem?_eq_none (Wa : (Gq us i k z).length <= i)]
theorem Tt {us : List UR} {i k : Nat} {z : CR} (hi : i < us.length) (hk : k < us[i].cs.length) {us2 : List UR} (e : us2 = Gq us i k z) (hi2 : i < us2.length) (hk2 : k < us2[i].cs.length) : us2[i].cs[k] = z := by
 subst e
 have e1 := Kr (i := i) (k := k) (z := z) hi
 rw [if_pos rfl] at e1
 have e2 : (Gq us i k z)[i].cs[k] = (Nc us[i] k z).cs[k]'(by simpa [Nc] using hk) := by congr 1; rw [e1]
 rw [e2]; simp [Nc]
theorem Qdk {cs : List CR} {k : Nat} {z : CR} (hk : k < cs.length) (hz : cs[k] = z) : (cs.map dCR)[((k : Nat) : Int).toNat]? = some (dCR z) := by rw [QfL hk, hz]
theorem QcH {cs : List CR} {k : Nat} {row : List D} (hk : k < cs.length) : ((cs.map dCR).set ((k : Nat) : Int).toNat row)[((k : Nat) : Int).toNat]? = some row := by
 rw [Int.toNat_natCast, List.getElem?_set_self (by simpa using hk)]
theorem S3 {K k e t : Nat} {L : List (List D)} {r1 r2 : List D} {p : Bool} {H : Qih} : lk ((K, (⟨(L.set k r1).set k r2, e, t, p⟩ : Box)) :: H) K = some ⟨L.set k r2, e, t, p⟩ := by rw [QF, List.set_set]
theorem NM {H : Qih} {kk m e t : Nat} {ys : List (List D)} {v : Vr} {sh : Int} (h : lk H kk = some ⟨ys, e, t, true⟩) (hm : m = ys.length) : ([D.int .i64 v.a, .int .i64 v.b, .int .i64 v.c, .str v.p, .str v.q, .int .i64 sh, .osl kk m, .fsl []].map (D.fzS H (· == kk))).map D.canS = [.int .i64 v.a, .int .i64 v.b, .int .i64 v.c, .str v.p, .str v.q, .int .i64 sh, .sl ys, .sl []] := by
 simp only [List.map_cons, List.map_nil, D.fzS, beq_self_eq_true, if_true, h, hm, and_self, D.canS]
theorem Bl {H : Qih} {kk m e t : Nat} {ys : List (List D)} {v : Vr} {sh : Int} {ns : List (List WantT)} (h : lk H kk = some ⟨ys, e, t, true⟩) (hm : m = ys.length) : ([D.int .i64 v.a, .int .i64 v.b, .int .i64 v.c, .str v.p, .str v.q, .int .i64 sh, Q9 ns, .osl kk m].map (D.fzS H (· == kk))).map D.canS = [.int .i64 v.a, .int .i64 v.b, .int .i64 v.c, .str v.p, .str v.q, .int .i64 sh, Q9 ns, .sl ys] := by
 simp only [Q9, List.map_cons, List.map_nil, D.fzS, beq_self_eq_true, if_true, h, hm, and_self, D.canS]
theorem Qfs {us : List UR} {eu ec eg : Nat} {L : List Int} {J J2 : Int} {b4 : Box} (k : Nat) : lk ((12, gB L J2 eg) :: wA us eu ec eg L J b4) k = lk (wA us eu ec eg L J2 b4) k := by
 show lk ((12, _) :: (500000, _) :: (12, _) :: (4, _) :: fbx ec us) k = lk ((500000, _) :: (12, _) :: (4, _) :: fbx ec us) k
 by_cases e : 12 = k
 ·subst e; rfl
 ·rw [Qm, if_neg e, Qm, Qm (k := 500000)]
  split
  ·rfl
  ·rw [Qm, if_neg e, Qm (k := 12), if_neg e]
theorem Lq {cs : List CR} {k e t : Nat} {row : List D} (h : ∀ z ∈ cs, PureC z) (hr : ∀ d ∈ row, ∀ j ∈ d.sid, j = 64) : ∀ j ∈ Box.ids ⟨(cs.map dCR).set k row, e, t, false⟩, j = 64 := fun j hj => by
 simp only [Box.ids, Qis, if_false, Qir] at hj
 obtain ⟨r, hrm, d, hd, hj⟩ := hj
 rcases F6 hrm with rfl | hrm
 ·exact hr d hd j hj
 ·obtain ⟨z, hz, rfl⟩ := Qiy.1 hrm
  rw [(h z hz).all d hd] at hj; cases hj
theorem QgW {us : List UR} {eu ec eg : Nat} {L : List Int} {J : Int} {b4 b64 : Box} {n i k : Nat} (h : Prog n us i k) (hi : i < us.length) (hk : k < us[i].cs.length) {zx : CR} (hv : Pl zx.v) (hrow : zx.x.sid = [] /\ zx.y.sid = [64] /\ zx.z.sid = []) (hb4 : b4.pr = true) (h64 : b64.pr = true) :
  Fam ((500001 + i, ⟨(us[i].cs.map dCR).set k (dCR zx), 8, ec, false⟩) :: (64, b64) :: wA us eu ec eg L J b4) 12 500000 eu ec (Gq us i k zx) /\ Closed ((500001 + i, ⟨(us[i].cs.map dCR).set k (dCR zx), 8, ec, false⟩) :: (64, b64) :: wA us eu ec eg L J b4) := by
 refine ⟨⟨by decide, ⟨false, ?_⟩, fun y hy => ?_, fun y hy => ?_⟩, ?_⟩
 ·rw [Qm, if_neg Wa, Qm, if_neg Wg, N5, DF]
 ·obtain ⟨j, hj, rfl⟩ := QiG hy
  have hK' := FP (i := i) (k := k) (z := zx) h.keys
  have hj' := hj
  rw [ZC] at hj'
  refine ⟨by rw [hK' j hj]; omega, ?_⟩
  rw [hK' j hj]
  by_cases e : i = j
  ·subst e
   refine ⟨false, ?_⟩
   rw [QF, Kr hj', if_pos rfl, Nc, List.map_set]
  ·refine ⟨true, ?_⟩
   rw [Qm, if_neg Wa, Qm, if_neg Wa, G5 h.keys hj', Kr hj', if_neg e]
 ·obtain ⟨j, hj, rfl⟩ := QiG hy
  have hj' := hj
  rw [ZC] at hj'
  rw [Kr hj']
  have hfam := h.fam us[j] (Qip _)
  split
  ·refine ⟨by simpa [Nc] using hfam.1, fun z hz => ?_⟩
   rcases F6 hz with rfl | hz
   ·exact hv
   ·exact hfam.2 z hz
  ·exact hfam
 ·refine ((JF h.keys hb4).pr h64).cons fun j hj => ?_
  have := Lq (e := 8) (t := ec) (k := k) (row := dCR zx) (fun z hz => (h.pure hi z hz).1) (fun d hd j hj => by
   simp only [dCR, Qim, Qil, or_false] at hd
   rcases hd with rfl | rfl | rfl | rfl | rfl | rfl | rfl | rfl
   ·cases hj
   ·cases hj
   ·cases hj
   ·cases hj
   ·cases hj
   ·rw [hrow.1] at hj; cases hj
   ·rw [hrow.2.1] at hj; simpa using hj
   ·rw [hrow.2.2] at hj; cases hj) j hj
  subst this; exact Q2
theorem Prog.start {us : List UR} (h : UnitsIn us) (h2 : 2 <= us.length) (h11 : us.length <= 11) : Prog us.length us 0 0 := by
 refine ⟨h.keys, ⟨rfl, h2, h11⟩, fun u hu => (h.fresh u hu).1, fun j hj m hm hd => Wa, fun j hj m hm _ => ?_⟩
 obtain ⟨v, sh, e, hv⟩ := (h.fresh _ (Qip hj)).2 _ (Qip hm)
 exact ⟨v, sh, e, hv⟩
theorem FY {n : Nat} {m : Int} {v : Vr} {sh : Int} {ns : List (List WantT)} (hv : Pl v) (h : N9 n m ns) (hm : m <= 3) : JL n ⟨v, sh, ns, []⟩ :=
 ⟨hv, by show ns.length <= 10; have := h.1; omega, fun r hr => ⟨(h.2 r hr).1, fun x hx => ((h.2 r hr).2 x hx).w⟩, Qiw _, fun x hx => by cases hx⟩
theorem SL {n i : Nat} {m : Int} {v : Vr} {sh : Int} {ns : List (List WantT)} (hv : Pl v) (h : N9 n m ns) (hm : m <= 3) (h1 : 1 <= i) (hi : i < n) : JL n ⟨v, sh, [⟨(i : Int) - 1, Xk v.a v.b v.c v.p v.q⟩] :: ns, []⟩ := by
 refine ⟨hv, by show (_ :: ns).length <= 10; have := h.1; simp only [List.length_cons]; omega, fun r hr => ?_, Qiw _, fun x hx => by cases hx⟩
 rcases Qim.1 hr with rfl | hr
 ·refine ⟨by simp, fun x hx => ?_⟩
  simp only [Qit] at hx; subst hx
  have := Ga (a := v.a) (b := v.b) (c := v.c) (q := v.q) hv.1
  exact ⟨by show 0 <= (i : Int) - 1; omega, by show (i : Int) - 1 < n; omega, this.1.up Wa, this.2.up Wa⟩
 ·exact ⟨(h.2 r hr).1, fun x hx => ((h.2 r hr).2 x hx).w⟩
theorem SK {n : Nat} {v : Vr} {sh : Int} {ns : List (List WantT)} (h : JL n ⟨v, sh, ns, []⟩) {x : WantT} (hx : WantIn n x) : JL n ⟨v, sh, ns, [x]⟩ := ⟨h.v, h.nl, h.nr, by simp, by intro y hy; simp only [Qit] at hy; subst hy; exact hx.w⟩
theorem Tu {us : List UR} {i k : Nat} {z : CR} (hi : i < us.length) (hk : k < us[i].cs.length) {us2 : List UR} (e : Gq us i k z = us2) (hi2 : i < us2.length) : k < us2[i].cs.length := by
 rw [<- Kk hi2, <- e, JX, Kk hi]; exact hk
theorem QcD {l : List (List WantT)} : ∀ r ∈ l.map (fun r => [Q6 r]), r.length = 1 := fun r hr => by obtain ⟨x, _, rfl⟩ := Qiy.1 hr; rfl
end M25
namespace M25
open Go Go.Abs M3
/-! ### Trails that may be -/
open Go Go.Abs M3
/-! ### What every program says -/
/-! ### A world's facts, and more -/
open Go Go.Abs M3
/-! ### Powers of two -/
/-! ### Steps that may be: the program's -/
/-! ### Deciding -/
open Go Go.Abs M3
/-! ### Back, Sure, When -/
/-! ### What valid trails are -/
/-! ### Levels -/
open Go Go.Abs M3
def Qbn {α : Type} (p : α -> Bool) (l : List α) : Int := match l.findIdx? p with
 | some i => i
 | none => -1
theorem JZ {α : Type} {p : α -> Bool} {l : List α} {i : Nat} (h : i < l.length) (ha : (l.take i).any p = false) (hp : p l[i] = true) : Qbn p l = i := by
 have e : l.findIdx? p = some i := by
  rw [List.findIdx?_eq_some_iff_getElem]
  refine ⟨h, hp, fun j hj => ?_⟩
  have := List.any_eq_false.1 ha l[j] (by
   rw [List.mem_take_iff_getElem]
   exact ⟨j, Wa, rfl⟩)
  simpa using this
 rw [Qbn, e]
theorem Qcq {α : Type} {p : α -> Bool} {l : List α} {i : Nat} (h : l.length <= i) (ha : (l.take i).any p = false) : Qbn p l = -1 := by
 have e : l.findIdx? p = none := by
  rw [List.findIdx?_eq_none_iff]
  rw [QiA h] at ha
  intro x hx
  simpa using List.any_eq_false.1 ha x hx
 rw [Qbn, e]
theorem Bv {α : Type} (p : α -> Bool) (l : List α) : decide (Qbn p l >= 0) = l.any p := by
 cases e : l.findIdx? p with
 | none =>
  rw [Qbn, e]
  rw [List.findIdx?_eq_none_iff] at e
  have : l.any p = false := List.any_eq_false.2 fun x hx => by simpa using e x hx
  rw [this]; rfl
 | some i =>
  rw [Qbn, e]
  rw [List.findIdx?_eq_some_iff_getElem] at e
  obtain ⟨h, hp, _⟩ := e
  rw [TM h hp]
  simp
/-! ### The first row of lefts -/
open Go Go.Abs M3
/-! ### When, Sk by Sk -/
/-! ### The PG world -/
end M25
namespace M25
open Go Go.Abs M3
/-! ### What a run is: steps, one open after the other -/
inductive Cw (w : Qy) (db : List (List ZL)) : List KJ -> List KJ -> Prop
 | nil (l : List KJ) : Cw w db l l
 | cons {l x : List KJ} (a k : Nat) (ho : Qeq w db l a k) (h : Cw w db (l ++ [QgV w l ((db[a]'ho.ha)[k]'ho.hk) a]) x) : Cw w db l x
section
variable {w : Qy} {db : List (List ZL)}
def Below (w : Qy) (b l : List KJ) : Prop := ∀ u i, tb (PC w b u) i = true -> tb (PC w l u) i = true
theorem Below.refl (l : List KJ) : Below w l l := fun _ _ h => h
/-! ### Sound: a choice stays -/
end
end M25
namespace M25
open Go Go.Abs M3
end M25
namespace M25
open Go Go.Abs M3
/-! ### More of runs -/
open Go Go.Abs M3
/-! ### The facts in another order -/
open Go Go.Abs M3
/-! ### How long a run is -/
structure Good (w : Qy) (l : List KJ) : Prop where
 p : Qes w l
 nz : ∀ u, inW w u = true -> PC w l u ≠ 0
 le : ∀ u i, tb (PC w l u) i = true -> tb (Xw w u) i = true
open Go Go.Abs M3
/-! ### Masks are of values that there are -/
/-! ### Each Sk of a run -/
end M25
namespace M25
open Go Go.Abs M3
open Go Go.Abs M3
/-! ### Derive again -/
/-! ### Sure, and what holds -/
open Go Go.Abs M3
/-! ### The choice that a trail has decided -/
end M25
namespace Go.Proofs
open Go Go.Abs M3 M25
open Go Go.Abs M3 M25
theorem HQ {s : St} {args : List Opd} {kg : Nat} {L : List Int} {I n : Int} {et : Nat} (ha : Zl s args = some [.ref kg 0 0, .int .i64 n]) (hg : lk s.H kg = some (gB L I et)) (hL : ∀ x ∈ L, I64 x) (hn : n <= 9223372036854775807) : Hj Tryz.prog 33 args s [(kg, gB L I et)] [] [(kg, gB L (nxI I) et)] (.int .i64 (nx L I n)) := by
 refine LK (b' := gB L (nxI I) et) (ds' := [.ref (upN kg) 0 0, .int .i64 n]) ha (fun j x h => ?_) (fun k b hk j hj => ?_) (fun x hx j hj => ?_) ?_ Z Z Z Z ?_
 ·obtain ⟨rfl, rfl⟩ := Jd h; exact hg
 ·obtain ⟨rfl, rfl⟩ := Jd hk; simp [Box.ids, gB] at hj
 ·simp only [Qim, Qil, or_false] at hx
  rcases hx with rfl | rfl
  ·simp [D.ids, D.sid] at hj; subst hj; rw [QF]; rfl
  ·simp [D.ids, D.sid] at hj
 ·rw [QF]; rfl
 ·exact XT (by unfold upN; omega) hL hn et
theorem _root_.Wi {p : Prop} (h : p := by first | decide | omega) : p := h
theorem _root_.Ww {p : Prop} (h : p := by simp [Dr.ok, HE]) : p := h
theorem _root_.Wl {p : Prop} (h : p := by repeat (first | exact QF | refine Qn (by first | decide | omega) ?_)) : p := h
theorem Fd {H : Qih} {kg kc : Nat} {L : List Int} {I : Int} {eg ec : Nat} {pr : Bool} {zs : List CR} (hkg : 1000000 <= kg) (hg : lk H kg = some (gB L I eg)) (hc : lk H kc = some ⟨zs.map dCR, 8, ec, pr⟩) (hne : kg ≠ kc) (hB : Big H) (hC : Closed H) (hL : ∀ x ∈ L, I64 x) (hz : ∀ z ∈ zs, Pl z.v) (hn : zs.length <= 16) : ∃ d H2, (∃ s I2, SetOk s /\ d = Mt s /\ H2 = (kg, gB L I2 eg) :: H) /\ OkH Tryz.prog 67 [.ref kg 0 0, .osl kc zs.length] H d H2 := by
 have hkc := hB _ _ hc
 refine OkH.ofX (R := fun d H2 => ∃ s I2, SetOk s /\ d = Mt s /\ H2 = (kg, gB L I2 eg) :: H) ZS Tryz.func67 QhP (Qik Z) ?_
 show TX _ _ tf67.body _ _
 refine Zq fun K hK => ?_
 refine Zv (by repeat (first | exact hB.none Wg | refine Zy Wi ?_)) ?_
 refine hK _ _ (Q4 (kp3 Z Z Z) ?_)
 refine Zq fun K hK => Qa Z (YI (HQ (I := I) Z (Qn Wa hg) hL Wa) (Qa Z (hK _ _ (Q4 (kp4 Z Z Z Z) ?_))))
 refine Zq fun K hK => Qw (Ya) Z Z (.inl Z) ?_
 refine Zv (by repeat (first | exact hB.none Wg | refine Zy Wi ?_)) ?_
 refine QZ Z Z Z Z Z Z Z Z (hK _ _ (Q4 (kp5 Z Z Z Z Z) ?_))
 refine JH ?_ -- 0
 refine Zq fun K hK => Qa Z (hK _ _ (Q4 (kp6 Z Z Z Z Z Z) ?_))
 refine Xe ?_
 refine Mc (ι := Nat × Nj) (fun ⟨i, s⟩ => ⟨[(0, .ref kg 0 0), (1, .osl kc zs.length), (4, .ref 4 0 0), (5, .int .i64 (nx L I 8)), (6, .ref 6 0 0), (7, .int .i64 i)], [(4, ⟨[[.fsl [], .fsl []]], 2, 66, true⟩), (6, ⟨[[Zi s.1, Zi s.2]], 2, 66, true⟩), (kg, gB L (nxI I) eg)] ++ H⟩) (fun ⟨i, s⟩ => i <= zs.length /\ DV (bnd i - 4) s) (fun ⟨i, s⟩ => zs.length - i) (0, ([], [])) ?_ ?_ ?_
 ·exact ML (l := [0, 1, 4, 5, 6, 7]) (B := [_, _, _, _]) (kp6 rfl rfl rfl rfl rfl rfl) rfl (by intro p hp; simp only [Qim, Qil, or_false] at hp; rcases hp with rfl | rfl | rfl <;> exact ⟨by repeat (first | exact QF | refine Qn Wi ?_), rfl⟩) rfl (by intro p hp h; simp only [Qim, Qil, or_false] at hp; rcases hp with rfl | rfl | rfl | rfl <;> first | (simp only at h; omega) | (repeat (first | exact Q2 | refine QW ?_))) hB hC (by intro p hp k hk; simp only [Qim, Qil, or_false] at hp; rcases hp with rfl | rfl | rfl | rfl | rfl | rfl <;> first | (simp [D.ids, D.sid, Q6, Q9, QP] at hk; done) | (simp [D.ids, D.sid, Q6, Q9, QP] at hk; subst hk; repeat (first | exact Q2 | exact Zw hg | exact Zw hc | refine QW ?_)))
 ·exact ⟨Qiw _, SmN.nil _, SmN.nil _⟩
 intro ⟨i, s⟩ hI
 dsimp only at hI
 have hb16 := Qcf (i := i) Wa
 dsimp only
 refine JH ?_ -- 1
 refine Zq fun K hK => mv2 Z Z (Zh Z Z (ZT Z Z (hK _ _ (Q4 (kp7 Z Z Z Z Z Z Z) ?_))))
 refine Xz Z (fun h1 => ?_) (fun h1 => ?_)
 ·rw [h1]
  simp only [qA] at h1
  refine XQ (Zd (kp6 Z Z Z Z Z Z) ?_)
  refine JH ?_ -- 2
  refine Xe (Zq fun K hK => mv2 Z Z (Mb Z (N7 Wa Wa) (QcX Z Z Wa (FV Z Z (Yr Z Z (hK _ _ (Q4 (kp7 Z Z Z Z Z Z Z) ?_)))))))
  refine Xz Z (fun h2 => ?_) (fun h2 => ?_)
  ·rw [h2]
   simp only [qA] at h2
   have hvp := (hz _ (Qip (Wa : i < zs.length))).1
   refine Z6 fun K hK => QN (ds0 := [1, 0]) (cs := [_, _]) Z Z Z Z Ww Z (mv2 Z Z (G6 (ds0 := [4, 3, 2, 1, 0]) Z Z (Qn Wa (Qn Wa (Qn Wa hc))) Wd Wa Wa Z Ww Z (Qf Z (Zw (Qn Wa (Qn Wa (Qn Wa hc)))) (QN (ds0 := [2, 1, 0]) (cs := [_, _, _, _, _]) Z (Yj (Qn Wa (Qn Wa (Qn Wa hc))) (Q1 Wa)) Z Z Ww Z (Q7 (ds0 := [1, 0]) (X8 (hz _ (Qip Wa)).1 (hz _ (Qip Wa)).2) Z Z (.inl Z) Ww Z (Q7 (ds0 := [0]) (FW (a := s) (b := (Xk (zs[i]'Wa).v.a (zs[i]'Wa).v.b (zs[i]'Wa).v.c (zs[i]'Wa).v.p (zs[i]'Wa).v.q)) (hI.2.1.sm Wa) (hI.2.2.sm Wa) ((Ga hvp).1.sm Wa) ((Ga hvp).2.sm Wa) (by have := hI.2.1.1; have := (Ga (a := (zs[i]'Wa).v.a) (b := (zs[i]'Wa).v.b) (c := (zs[i]'Wa).v.c) (q := (zs[i]'Wa).v.q) hvp).1.1; omega) (by have := hI.2.2.1; have := (Ga (a := (zs[i]'Wa).v.a) (b := (zs[i]'Wa).v.b) (c := (zs[i]'Wa).v.c) (q := (zs[i]'Wa).v.q) hvp).2.1; omega)) Z Z (.inl Z) Ww Z (Yt (ds0 := []) Z Z Z Z Z Z Z Z Ww Z (hK _ ?_))))))))
   refine Qg (Zd (kp6 Z Z Z Z Z Z) (Z6 fun K hK => Qa Z (QU Z Z Wb (Qa Z (hK _ ?_)))))
   refine Qi (i + 1, Qcw s (Xk (zs[i]'Wa).v.a (zs[i]'Wa).v.b (zs[i]'Wa).v.c (zs[i]'Wa).v.p (zs[i]'Wa).v.q)) ?_ ?_ ?_
   ·exact ML (l := [0, 1, 4, 5, 6, 7]) (B := [_, _, _, _]) (kp6 rfl rfl rfl rfl rfl rfl) rfl (by intro p hp; simp only [Qim, Qil, or_false] at hp; rcases hp with rfl | rfl | rfl <;> exact ⟨by repeat (first | exact QF | refine Qn Wi ?_), rfl⟩) rfl (by intro p hp h; simp only [Qim, Qil, or_false] at hp; rcases hp with rfl | rfl | rfl | rfl <;> first | (simp only at h; omega) | (repeat (first | exact Q2 | refine QW ?_))) hB hC (by intro p hp k hk; simp only [Qim, Qil, or_false] at hp; rcases hp with rfl | rfl | rfl | rfl | rfl | rfl <;> first | (simp [D.ids, D.sid, Q6, Q9, QP] at hk; done) | (simp [D.ids, D.sid, Q6, Q9, QP] at hk; subst hk; repeat (first | exact Q2 | exact Zw hg | exact Zw hc | refine QW ?_)))
   ·exact ⟨by show i + 1 <= _; omega, Qfg hI.2 (hz _ (Qip Wa)).1 Wa⟩
   ·show zs.length - (i + 1) < zs.length - i; omega
  ·rw [h2]
   simp only [qA] at h2
   have hvp := (hz _ (Qip (Wa : i < zs.length))).1
   refine XQ (Qg (Zd (kp6 Z Z Z Z Z Z) (Z6 fun K hK => Qa Z (QU Z Z Wb (Qa Z (hK _ ?_))))))
   refine Qi (i + 1, s) ?_ ?_ ?_
   ·exact ML (l := [0, 1, 4, 5, 6, 7]) (B := [_, _, _]) (kp6 rfl rfl rfl rfl rfl rfl) rfl (by intro p hp; simp only [Qim, Qil, or_false] at hp; rcases hp with rfl | rfl | rfl <;> exact ⟨by repeat (first | exact QF | refine Qn Wi ?_), rfl⟩) rfl (by intro p hp h; simp only [Qim, Qil, or_false] at hp; rcases hp with rfl | rfl | rfl <;> first | (simp only at h; omega) | (repeat (first | exact Q2 | refine QW ?_))) hB hC (by intro p hp k hk; simp only [Qim, Qil, or_false] at hp; rcases hp with rfl | rfl | rfl | rfl | rfl | rfl <;> first | (simp [D.ids, D.sid, Q6, Q9, QP] at hk; done) | (simp [D.ids, D.sid, Q6, Q9, QP] at hk; subst hk; repeat (first | exact Q2 | exact Zw hg | exact Zw hc | refine QW ?_)))
   ·exact ⟨by show i + 1 <= _; omega, QbV hI.2⟩
   ·show zs.length - (i + 1) < zs.length - i; omega
 ·rw [h1]
  simp only [qA] at h1
  refine Nl (XY (Qs (QB (Zd (kp3 Z Z Z) ?_))))
  refine JH ?_ -- 3
  refine Zq fun K hK => Qa Z (YI (HQ (I := nxI I) Z (Qn Wa (Qn Wa QF)) hL Wa) (hK _ _ (Q4 (kp3 Z Z Z) ?_)))
  refine Xe (Zq fun K hK => Yr Z Z (Qa Z (hK _ _ (Q4 (kp4 Z Z Z Z) ?_))))
  refine Xz Z (fun h3 => ?_) (fun h3 => ?_)
  ·rw [h3]
   simp only [qA] at h3
   refine Zq fun K hK => Qw (JV) Z Z (.inl Z) (QZ Z (Qn Wa Z) Z Z Z Z Z Z (hK _ _ (Q4 (kp1 Z) ?_)))
   refine Sx (Qr (DD ?_))
   refine ⟨Mt Pq, (kg, gB L (nxI (nxI I)) eg) :: H, ⟨Pq, _, ⟨LJ.1.up Wa, LJ.2.up Wa⟩, rfl, rfl⟩, (XN hB hC hkg rfl).1, (XN hB hC hkg rfl).2, ?_⟩
   refine Gm (cs := [Zi Pq.1, Zi Pq.2]) Z (Yj Wl Z) Z Z Z ?_
   exact J5 (B := [_, _, _, _, _]) hB Wl (by intro p hp h; simp only [Qim, Qil, or_false] at hp; rcases hp with rfl | rfl | rfl | rfl | rfl <;> first | rfl | (simp only at h; omega))
  ·rw [h3]
   simp only [qA] at h3
   refine Zq fun K hK => Yr Z Z (Qa Z (hK _ _ (Q4 (kp3 Z Z Z) ?_)))
   refine Xz Z (fun h4 => ?_) (fun h4 => ?_)
   ·rw [h4]
    simp only [qA] at h4
    refine Zq fun K hK => QA (cs := [_, _]) Z (Yj (Qn Wa Z) Z) Z Z (Qw (Fh (a := s) (hI.2.1.sm Wa) (hI.2.2.sm Wa)) Z Z (.inl Z) (QZ Z (Qn Wa Z) Z Z Z Z Z Z (hK _ _ (Q4 (kp1 Z) ?_))))
    refine Sx (Qr (DD ?_))
    refine ⟨Mt (RQ s), (kg, gB L (nxI (nxI I)) eg) :: H, ⟨(RQ s), _, ⟨(BN hI.2 Wa).1.up Wa, (BN hI.2 Wa).2.up Wa⟩, rfl, rfl⟩, (XN hB hC hkg rfl).1, (XN hB hC hkg rfl).2, ?_⟩
    refine Gm (cs := [Zi (RQ s).1, Zi (RQ s).2]) Z (Yj Wl Z) Z Z Z ?_
    exact J5 (B := [_, _, _, _, _]) hB Wl (by intro p hp h; simp only [Qim, Qil, or_false] at hp; rcases hp with rfl | rfl | rfl | rfl | rfl <;> first | rfl | (simp only at h; omega))
   ·rw [h4]
    simp only [qA] at h4
    refine XQ (Qg (Zd (kp2 Z Z) (Zq fun K hK => QA (cs := [_, _]) Z (Yj (Qn Wa Z) Z) Z Z (QZ Z (Qn Wa Z) Z Z Z Z Z Z (hK _ _ (Q4 (kp1 Z) ?_))))))
    refine Sx ?_
    refine ⟨Mt s, (kg, gB L (nxI (nxI I)) eg) :: H, ⟨s, _, ⟨hI.2.1.up Wa, hI.2.2.up Wa⟩, rfl, rfl⟩, (XN hB hC hkg rfl).1, (XN hB hC hkg rfl).2, ?_⟩
    refine Gm (cs := [Zi s.1, Zi s.2]) Z (Yj Wl Z) Z Z Z ?_
    exact J5 (B := [_, _, _, _, _]) hB Wl (by intro p hp h; simp only [Qim, Qil, or_false] at hp; rcases hp with rfl | rfl | rfl | rfl | rfl <;> first | rfl | (simp only at h; omega))
open Go Go.Abs M3 M25
/-- The call of 'set', over boxes that are lent. -/
theorem QfW {H : Qih} {kg kc : Nat} {L : List Int} {I : Int} {eg ec : Nat} {pr : Bool} {zs : List CR} (hg : lk H kg = some (gB L I eg)) (hc : lk H kc = some ⟨zs.map dCR, 8, ec, pr⟩) (hne : kg ≠ kc) (hC : Closed H) (hL : ∀ x ∈ L, I64 x) (hz : ∀ z ∈ zs, Pl z.v) (hn : zs.length <= 16) :
  ∃ s I2, SetOk s /\ ∀ (st : St) (args : List Opd), Zl st args = some [.ref kg 0 0, .osl kc zs.length] -> (∀ j x, lk H j = some x -> lk st.H j = some x) -> Hj Tryz.prog 67 args st H [] [(kg, gB L I2 eg)] (Mt s) := by
 obtain ⟨d, H2, ⟨s, I2, hs, rfl, rfl⟩, hok⟩ := Fd (H := upH H) (kg := upN kg) (kc := upN kc) (L := L) (I := I) (eg := eg) (ec := ec) (pr := pr) (zs := zs.map CR.ren) (by unfold upN; omega) (by rw [J6, hg]; rfl) (by rw [J6, hc, Option.map_some, Box.ren, CX]) (fun e => hne (Sd e)) Lx (Nf hC) hL
  (fun z hz' => by obtain ⟨z0, h0, rfl⟩ := Qiy.1 hz'; exact hz z0 h0) (by simpa using hn)
 refine ⟨s, I2, hs, fun st args ha hF => LK (b' := gB L I2 eg) (ds' := [.ref (upN kg) 0 0, .osl (upN kc) zs.length]) ha hF hC (fun x hx j hj => ?_) (Zw hg) Z Z Z Z ?_⟩
 ·simp only [Qim, Qil, or_false] at hx
  rcases hx with rfl | rfl
  ·simp [D.ids, D.sid] at hj; subst hj; exact Zw hg
  ·simp [D.ids, D.sid] at hj; subst hj; exact Zw hc
 ·rw [List.length_map] at hok; exact hok
theorem GQ {H : Qih} {kg ku : Nat} {L : List Int} {I : Int} {eg eu ec : Nat} {us : List UR} (hkg : 1000000 <= kg) (hg : lk H kg = some (gB L I eg)) (hU : Fam H kg ku eu ec us) (hB : Big H) (hC : Closed H) (hL : ∀ x ∈ L, I64 x) (h2n : 2 <= us.length) (hn : us.length <= 48) : ∃ d H2, (∃ x I2, WantIn us.length x /\ d = .agg (Kl x) /\ H2 = (kg, gB L I2 eg) :: H) /\ OkH Tryz.prog 34 [.ref kg 0 0, .osl ku us.length] H d H2 := by
 obtain ⟨pu, hu⟩ := hU.u
 have hku := hB _ _ hu
 have hne := hU.ne
 have hx0 := P7 (v := JG L (IntKind.i64.wrap (nxI I - 1))) (n := (us.length : Int) - 1)
 have hx1 := P6 (v := JG L (IntKind.i64.wrap (nxI I - 1))) (n := (us.length : Int) - 1) Wa
 change 0 <= nx L I ((us.length : Int) - 1) at hx0
 change nx L I ((us.length : Int) - 1) < _ at hx1
 obtain ⟨hyk, pr, hy⟩ := hU.c (us[(1 + nx L I ((us.length : Int) - 1)).toNat]'Wa) (Qip _)
 obtain ⟨hv1, hv2⟩ := hU.v (us[(1 + nx L I ((us.length : Int) - 1)).toNat]'Wa) (Qip _)
 obtain ⟨s, I2, hs, hcall⟩ := QfW (H := (kg, gB L (nxI I) eg) :: H) QF (Qn (Ne.symm hyk) hy) (Ne.symm hyk) (hC.pr rfl) hL hv2 hv1
 refine OkH.ofX (R := fun d H2 => ∃ x I2, WantIn us.length x /\ d = .agg (Kl x) /\ H2 = (kg, gB L I2 eg) :: H) ZS Tryz.func34 Qhn (Qik Z) ?_
 show TX _ _ tf34.body _ _
 refine Zq fun K hK => ?_
 refine Zv (by repeat (first | exact hB.none Wg | refine Zy Wi ?_)) ?_
 refine hK _ _ (Q4 (kp3 Z Z Z) ?_)
 refine Zq fun K hK => mv2 Z Z (Zh Z Z (GP Z Z Wb (YI (HQ (I := I) Z (Qn Wa hg) hL Wa) (QU Z Z Wb (Qa Z (hK _ _ (Q4 (kp4 Z Z Z Z) ?_)))))))
 refine Zq fun K hK => Qa rfl (Qa rfl (Qa rfl (Qa rfl (JM rfl rfl (Qn Wa (Qn Wa hu)) Wd Wa Wa rfl (Qf rfl (Zw (Qn Wa (Qn Wa hu))) (Qz rfl (Yj (Qn Wa (Qn Wa hu)) (Zt Wa Wa)) rfl (YI (hcall _ _ rfl (J5 (B := [_, _]) hB QF (by intro p hp h; simp only [Qim, Qil, or_false] at hp; rcases hp with rfl | rfl <;> first | rfl | (simp only at h; omega)))) (QY rfl rfl (QZ rfl (Qn Wa (Qn Wa rfl)) rfl rfl rfl rfl rfl rfl (hK _ _ (Q4 (kp1 rfl) ?_)))))))))))
 refine Sx ?_
 refine ⟨.agg (Kl ⟨1 + nx L I ((us.length : Int) - 1), s⟩), (kg, gB L I2 eg) :: H, ⟨⟨1 + nx L I ((us.length : Int) - 1), s⟩, _, ⟨by show 1 <= 1 + _; omega, by show 1 + _ < (us.length : Int); omega, hs⟩, rfl, rfl⟩, (XN hB hC hkg rfl).1, (XN hB hC hkg rfl).2, ?_⟩
 refine Gm (cs := Kl ⟨1 + nx L I ((us.length : Int) - 1), s⟩) Z (Yj Wl Z) Z Z Z ?_
 exact J5 (B := [_, _, _, _]) hB Wl (by intro p hp h; simp only [Qim, Qil, or_false] at hp; rcases hp with rfl | rfl | rfl | rfl <;> first | rfl | (simp only at h; omega))
/-- The call of 'want'. -/
theorem Dt {H : Qih} {kg ku : Nat} {L : List Int} {I : Int} {eg eu ec : Nat} {us : List UR} (hg : lk H kg = some (gB L I eg)) (hU : Fam H kg ku eu ec us) (hC : Closed H) (hL : ∀ x ∈ L, I64 x) (h2 : 2 <= us.length) (hn : us.length <= 48) :
  ∃ x I2, WantIn us.length x /\ ∀ (st : St) (args : List Opd), Zl st args = some [.ref kg 0 0, .osl ku us.length] -> (∀ j x, lk H j = some x -> lk st.H j = some x) -> Hj Tryz.prog 34 args st H [] [(kg, gB L I2 eg)] (.agg (Kl x)) := by
 obtain ⟨d, H2, ⟨x, I2, hx, rfl, rfl⟩, hok⟩ := GQ (H := upH H) (kg := upN kg) (ku := upN ku) (L := L) (I := I) (eg := eg) (eu := eu) (ec := ec) (us := us.map UR.ren) (by unfold upN; omega) (by rw [J6, hg]; rfl) hU.up Lx (Nf hC) hL (by simpa using h2) (by simpa using hn)
 obtain ⟨pu, hu⟩ := hU.u
 rw [List.length_map] at hx hok
 refine ⟨x, I2, hx, fun st args ha hF => LK (b' := gB L I2 eg) (ds' := [.ref (upN kg) 0 0, .osl (upN ku) us.length]) ha hF hC (fun x hx j hj => ?_) (Zw hg) Z Z Z Z hok⟩
 simp only [Qim, Qil, or_false] at hx
 rcases hx with rfl | rfl
 ·simp [D.ids, D.sid] at hj; subst hj; exact Zw hg
 ·simp [D.ids, D.sid] at hj; subst hj; exact Zw hu
open Go Go.Abs M3 M25
theorem _root_.Wq {p : Prop} (h : p := by first | (simp; done) | (simp; omega)) : p := h
theorem Gy {H : Qih} {kg ku : Nat} {L : List Int} {I most : Int} {eg eu ec : Nat} {us : List UR} (hkg : 1000000 <= kg) (hg : lk H kg = some (gB L I eg)) (hU : Fam H kg ku eu ec us) (hB : Big H) (hC : Closed H) (hL : ∀ x ∈ L, I64 x) (h2n : 2 <= us.length) (hn : us.length <= 48) (hm0 : 0 <= most) (hm1 : most <= 10) : ∃ d H2, (∃ ns I2, N9 us.length most ns /\ d = Q9 ns /\ H2 = (kg, gB L I2 eg) :: H) /\ OkH Tryz.prog 31 [.ref kg 0 0, .osl ku us.length, .int .i64 most] H d H2 := by
 obtain ⟨pu, hu⟩ := hU.u
 have hku := hB _ _ hu
 have hne := hU.ne
 have hk0 : 0 <= nx L I (most + 1) := P7
 have hk1 : nx L I (most + 1) < most + 1 := P6 Wa
 refine OkH.ofX (R := fun d H2 => ∃ ns I2, N9 us.length most ns /\ d = Q9 ns /\ H2 = (kg, gB L I2 eg) :: H) ZS Tryz.func31 Qhk (Qik Z) ?_
 show TX _ _ tf31.body _ _
 refine Zq fun K hK => Qa Z (hK _ _ (Q4 (kp3 Z Z Z) ?_))
 refine Zq fun K hK => Qa Z (hK _ _ (Q4 (kp4 Z Z Z Z) ?_))
 refine JH ?_ -- 0
 refine Zq fun K hK => mv2 Z Z (QU Z Z Wb (YI (HQ (I := I) Z hg hL Wa) (Qa Z (hK _ _ (Q4 (kp4 Z Z Z Z) ?_)))))
 refine Xe ?_
 refine Mc (ι := Nat × List (List WantT) × Int) (fun ⟨k, ns, J⟩ => ⟨[(0, .ref kg 0 0), (1, .osl ku us.length), (7, .osl 7 ns.length), (8, .int .i64 k)], [(7, ⟨(ns).map (fun r => [Q6 r]), 1, 61, true⟩), (kg, gB L J eg)] ++ H⟩) (fun ⟨k, ns, J⟩ => (ns.length : Int) + k <= most /\ ∀ r ∈ ns, Sw us.length r) (fun ⟨k, ns, J⟩ => k) ((nx L I (most + 1)).toNat, [], nxI I) ?_ ?_ ?_
 ·exact le_trans (ZV 7 7 1 61 rfl (by repeat (first | exact hB.none Wg | refine Zy Wi ?_))) (ML (l := [0, 1, 7, 8]) (B := [_, _]) (kp4 rfl rfl rfl rfl) (by simp only [Int.toNat_of_nonneg hk0] <;> rfl) (by intro p hp; simp only [Qim, Qil, or_false] at hp; rcases hp with rfl | rfl <;> exact ⟨by repeat (first | exact QF | refine Qn Wi ?_), rfl⟩) rfl (by intro p hp h; simp only [Qim, Qil, or_false] at hp; rcases hp with rfl | rfl <;> first | (simp only at h; omega) | (repeat (first | exact Q2 | refine QW ?_))) hB hC (by intro p hp k hk; simp only [Qim, Qil, or_false] at hp; rcases hp with rfl | rfl | rfl | rfl <;> first | (simp [D.ids, D.sid, Q6, Q9, QP] at hk; done) | (simp [D.ids, D.sid, Q6, Q9, QP] at hk; subst hk; repeat (first | exact Q2 | exact Zw hg | exact Zw hu | refine QW ?_))))
 ·exact ⟨by simp only [List.length_nil]; omega, by simp⟩
 intro ⟨k, ns, J⟩ hI
 dsimp only at hI
 dsimp only
 refine JH ?_ -- 1
 refine Zq fun K hK => Qa Z (Gt Z Z (hK _ _ (Q4 (kp5 Z Z Z Z Z) ?_)))
 refine Xz Z (fun h1 => ?_) (fun h1 => ?_)
 ·rw [h1]
  simp only [qA] at h1
  refine XQ (Zd (kp4 Z Z Z Z) ?_)
  refine JH ?_ -- 2
  refine Xe (Zq fun K hK => mv2 Z Z ?_)
  obtain ⟨x1, J1, hx1, hc1⟩ := Dt (I := J) (H := (kg, gB L (J) eg) :: H) QF hU.cons (hC.pr rfl) hL h2n hn
  refine YI (hc1 _ _ rfl (J5 (B := [_, _]) hB Wl (by intro p hp h; simp only [Qim, Qil, or_false] at hp; rcases hp with rfl | rfl <;> first | rfl | (simp only at h; omega)))) ?_
  refine QJ Z (by repeat (first | exact hB.none Wg | refine Zy Wi ?_)) ?_
  refine Qa Z (hK _ _ (Q4 (kp5 Z Z Z Z Z) ?_))
  refine QeE (ι := List WantT × Int) (fun ⟨r, J4⟩ => ⟨[(0, .ref kg 0 0), (1, .osl ku us.length), (7, .osl 7 ns.length), (8, .int .i64 k), (9, Q6 r)], [(7, ⟨(ns).map (fun r => [Q6 r]), 1, 61, true⟩), (kg, gB L J4 eg)] ++ H⟩) (fun ⟨r, J4⟩ => Sw us.length r) ?_ ?_
  ·skip
   refine Zq fun K hK => Qa Z (YI (HQ (I := J1) Z (Qn Wa QF) hL Wa) (Yr Z Z (hK _ _ (Q4 (kp6 Z Z Z Z Z Z) ?_))))
   refine Xz Z (fun h2 => ?_) (fun h2 => ?_)
   ·rw [h2]
    simp only [qA] at h2
    refine Z6 fun K hK => mv2 Z Z (Qa Z ?_)
    obtain ⟨x2, J2, hx2, hc2⟩ := Dt (I := nxI J1) (H := (kg, gB L (nxI J1) eg) :: H) QF hU.cons (hC.pr rfl) hL h2n hn
    refine YI (hc2 _ _ rfl (J5 (B := [_, _, _, _, _]) hB Wl (by intro p hp h; simp only [Qim, Qil, or_false] at hp; rcases hp with rfl | rfl | rfl | rfl | rfl <;> first | rfl | (simp only at h; omega)))) ?_
    refine QJ Z (by repeat (first | exact hB.none Wg | refine Zy Wi ?_)) ?_
    refine QcT Z Z Wn ⟨_, rfl, rfl, rfl, rfl, rfl⟩ (by repeat (first | exact hB.none Wg | refine Zy Wi ?_)) (Qn Wg (Qn Wa (Qn Wa Z))) Z Z Z Wd Wd ?_
    refine Qa Z (hK _ ?_)
    refine Zs ([x1, x2], J2) ?_ ?_
    ·exact le_trans (Lb (l := [0, 1, 7, 8]) (B := [_, _, _, _, _, _, _, _, _]) (A := [(7, ⟨(ns).map (fun r => [Q6 r]), 1, 61, true⟩), (kg, gB L J2 eg)]) 30 9 (kp4 rfl rfl rfl rfl) rfl rfl rfl Wq (by intro p hp hk; simp only [Qim, Qil, or_false] at hp; rcases hp with rfl | rfl | rfl | rfl <;> first | (simp [D.ids, D.sid, Q6, Q9, QP] at hk; done) | (simp [D.ids, D.sid, Q6, Q9, QP] at hk; omega)) (by intro p hp; simp only [Qim, Qil, or_false] at hp; rcases hp with rfl | rfl <;> exact ⟨by first | decide | (simp only; omega), by repeat (first | exact QF | refine Qn Wi ?_), rfl⟩) (by intro p hp h; simp only [Qim, Qil, or_false] at hp; rcases hp with rfl | rfl | rfl | rfl | rfl | rfl | rfl | rfl | rfl <;> first | (simp only at h; omega) | (repeat (first | exact Q2 | refine QW ?_))) hB hC (by intro p hp k hk; simp only [Qim, Qil, or_false] at hp; rcases hp with rfl | rfl | rfl | rfl <;> first | (simp [D.ids, D.sid, Q6, Q9, QP] at hk; done) | (simp [D.ids, D.sid, Q6, Q9, QP] at hk; subst hk; repeat (first | exact Q2 | exact Zw hg | exact Zw hu | refine QW ?_)))) (ML (l := [0, 1, 7, 8, 9]) (B := [_, _]) (kp5 rfl rfl rfl rfl rfl) rfl (by intro p hp; simp only [Qim, Qil, or_false] at hp; rcases hp with rfl | rfl <;> exact ⟨by repeat (first | exact QF | refine Qn Wi ?_), rfl⟩) rfl (by intro p hp h; simp only [Qim, Qil, or_false] at hp; rcases hp with rfl | rfl <;> first | (simp only at h; omega) | (repeat (first | exact Q2 | refine QW ?_))) hB hC (by intro p hp k hk; simp only [Qim, Qil, or_false] at hp; rcases hp with rfl | rfl | rfl | rfl | rfl <;> first | (simp [D.ids, D.sid, Q6, Q9, QP] at hk; done) | (simp [D.ids, D.sid, Q6, Q9, QP] at hk; subst hk; repeat (first | exact Q2 | exact Zw hg | exact Zw hu | refine QW ?_))))
    ·exact QdU hx1 hx2
   ·rw [h2]
    simp only [qA] at h2
    refine XQ ?_
    refine Zs ([x1], nxI J1) ?_ ?_
    ·exact le_trans (Lb (l := [0, 1, 7, 8]) (B := [_, _, _, _, _]) (A := [(7, ⟨(ns).map (fun r => [Q6 r]), 1, 61, true⟩), (kg, gB L (nxI J1) eg)]) 21 9 (kp4 rfl rfl rfl rfl) rfl (Qn Wa rfl) rfl Wq (by intro p hp hk; simp only [Qim, Qil, or_false] at hp; rcases hp with rfl | rfl | rfl | rfl <;> first | (simp [D.ids, D.sid, Q6, Q9, QP] at hk; done) | (simp [D.ids, D.sid, Q6, Q9, QP] at hk; omega)) (by intro p hp; simp only [Qim, Qil, or_false] at hp; rcases hp with rfl | rfl <;> exact ⟨by first | decide | (simp only; omega), by repeat (first | exact QF | refine Qn Wi ?_), rfl⟩) (by intro p hp h; simp only [Qim, Qil, or_false] at hp; rcases hp with rfl | rfl | rfl | rfl | rfl <;> first | (simp only at h; omega) | (repeat (first | exact Q2 | refine QW ?_))) hB hC (by intro p hp k hk; simp only [Qim, Qil, or_false] at hp; rcases hp with rfl | rfl | rfl | rfl <;> first | (simp [D.ids, D.sid, Q6, Q9, QP] at hk; done) | (simp [D.ids, D.sid, Q6, Q9, QP] at hk; subst hk; repeat (first | exact Q2 | exact Zw hg | exact Zw hu | refine QW ?_)))) (ML (l := [0, 1, 7, 8, 9]) (B := [_, _]) (kp5 rfl rfl rfl rfl rfl) rfl (by intro p hp; simp only [Qim, Qil, or_false] at hp; rcases hp with rfl | rfl <;> exact ⟨by repeat (first | exact QF | refine Qn Wi ?_), rfl⟩) rfl (by intro p hp h; simp only [Qim, Qil, or_false] at hp; rcases hp with rfl | rfl <;> first | (simp only at h; omega) | (repeat (first | exact Q2 | refine QW ?_))) hB hC (by intro p hp k hk; simp only [Qim, Qil, or_false] at hp; rcases hp with rfl | rfl | rfl | rfl | rfl <;> first | (simp [D.ids, D.sid, Q6, Q9, QP] at hk; done) | (simp [D.ids, D.sid, Q6, Q9, QP] at hk; subst hk; repeat (first | exact Q2 | exact Zw hg | exact Zw hu | refine QW ?_))))
    ·exact QdT hx1
  intro ⟨r, J4⟩ hJ
  dsimp only at hJ
  dsimp only
  refine Z6 fun K hK => mv2 Z Z ?_
  refine QJ Z (by repeat (first | exact hB.none Wg | refine Zy Wi ?_)) ?_
  refine Xy Z Z (fun _ h => Xn Z Z Z h) Z Wd Z Z Z Wf Wf (Qa Z (hK _ ?_))
  refine Qg (Zd (kp4 Z Z Z Z) (Z6 fun K hK => Qa Z (GP Z Z Wb (Qa Z (hK _ ?_)))))
  refine Qi (k - 1, ns ++ [r], J4) ?_ ?_ ?_
  ·exact le_trans (Qe0 (B := [_, _, _, _]) 7 hB hC) (ML (l := [0, 1, 7, 8]) (A := [(7, ⟨ns.map (fun r => [Q6 r]) ++ [[Q6 r]], 1, 61, true⟩), (kg, gB L J4 eg)]) (B := [_, _, _, _]) (kp4 rfl rfl rfl rfl) (by simp [D.scrub, show ¬ kg = 7 by omega, show ¬ ku = 7 by omega] <;> omega) (by intro p hp; simp only [Qim, Qil, or_false] at hp; rcases hp with rfl | rfl <;> exact ⟨by repeat (first | exact QF | refine Qn Wi ?_), rfl⟩) Wd (by intro p hp h; simp only [Qim, Qil, or_false] at hp; rcases hp with rfl | rfl | rfl | rfl <;> first | (simp only at h; omega) | (repeat (first | exact Q2 | refine QW ?_))) hB hC (by intro p hp k hk; simp only [Qim, Qil, or_false] at hp; rcases hp with rfl | rfl | rfl | rfl <;> first | (simp [D.ids, D.sid, Q6, Q9, QP] at hk; done) | (simp [D.ids, D.sid, Q6, Q9, QP] at hk; subst hk; repeat (first | exact Q2 | exact Zw hg | exact Zw hu | refine QW ?_))))
  ·exact ⟨by simp only [List.length_append, List.length_singleton]; omega, Qaf hI.2 hJ⟩
  ·show k - 1 < k; omega
 ·rw [h1]
  simp only [qA] at h1
  refine Nl (XY (Qs (QB (Zd (kp1 Z) (Zq fun K hK => mv2 Z Z (hK _ _ (Q4 (kp1 Z) ?_)))))))
  refine Sx ?_
  refine ⟨Q9 ns, (kg, gB L J eg) :: H, ⟨ns, _, ⟨Wa, hI.2⟩, rfl, rfl⟩, (XN hB hC hkg rfl).1, (XN hB hC hkg rfl).2, ?_⟩
  refine JE Z (by simp [QaD, D.fz, D.fzS, PG, lk, D.can, D.canS, Q9]) ?_
  exact J5 (B := [_, _]) hB Wl (by intro p hp h; simp only [Qim, Qil, or_false] at hp; rcases hp with rfl | rfl <;> first | rfl | (simp only at h; omega))
open Go Go.Abs M3 M25
theorem _root_.We {p : Prop} (h : p := by repeat (first | exact QF | refine Qn (by omega) ?_)) : p := h
theorem Gz {kg : Nat} {L : List Int} {I most : Int} {eg eu ec : Nat} (heu : eu = 56) (hec : ec = 63) (hkg : 1000000 <= kg) (hL : ∀ x ∈ L, I64 x) (hm0 : 1 <= most) (hm1 : most <= 5) : ∃ d H2, (∃ us I2, (UnitsIn us /\ 2 <= us.length /\ us.length <= 11) /\ d = .osl 500000 us.length /\ H2 = ((500000, ⟨us.map dUR, 3, eu, false⟩) :: fbx ec us) ++ [(kg, gB L I2 eg), (kg, gB L I eg)]) /\ OkH Tryz.prog 30 [.ref kg 0 0, .int .i64 most] [(kg, gB L I eg)] d H2 := by
 subst heu hec
 have e3 : ¬ kg = 500000 := Wa
 have k1 := QbZ (a := 18) (b := 500000) hkg Wg Wg
 have k2 := QbZ (a := 16) (b := 500001) hkg Wg Wg
 refine OkH.ofX (R := fun d H2 => ∃ us I2, (UnitsIn us /\ 2 <= us.length /\ us.length <= 11) /\ d = .osl 500000 us.length /\ H2 = ((500000, ⟨us.map dUR, 3, 56, false⟩) :: fbx 63 us) ++ [(kg, gB L I2 eg), (kg, gB L I eg)]) ZS Tryz.func30 Qhj (Qik Z) ?_
 show TX _ _ tf30.body _ _
 refine Zq fun K hK => Qa Z (hK _ _ (Q4 (kp2 Z Z) ?_))
 refine Zq fun K hK => ?_
 refine QJ Z (by repeat (first | exact Z | refine Zy Wi ?_)) ?_
 refine Qa Z (hK _ _ (Q4 (kp3 Z Z Z) ?_))
 refine Cy (Lb (l := [0, 1]) (B := [_]) (A := []) (H0 := [(kg, gB L I eg)]) 14 5 (kp2 rfl rfl) rfl rfl rfl rfl (by intro p hp hk; simp only [Qim, Qil, or_false] at hp; rcases hp with rfl | rfl <;> first | (simp [D.ids, D.sid, Q6, Q9, QP] at hk; done) | (simp [D.ids, D.sid, Q6, Q9, QP] at hk; omega)) (by intro p hp; cases hp) (by intro p hp h; simp only [Qit] at hp; subst hp; simp only at h; omega) (fun k b h => by obtain ⟨rfl, rfl⟩ := Jd h; exact hkg) (fun k b h j hj => by obtain ⟨rfl, rfl⟩ := Jd h; simp [Box.ids, gB] at hj) (by intro p hp k hk; simp only [Qim, Qil, or_false] at hp; rcases hp with rfl | rfl <;> first | (simp [D.ids, D.sid, Q6, Q9, QP] at hk; done) | (simp [D.ids, D.sid, Q6, Q9, QP] at hk; subst hk; repeat (first | exact Q2 | refine QW ?_)))) ?_
 refine Zq fun K hK => QY Z Z ?_
 refine QJ Z (by repeat (first | exact Z | refine Zy Wi ?_)) ?_
 refine QY Z Z ?_
 refine QJ Z (by repeat (first | exact Z | refine Zy Wi ?_)) ?_
 refine Qa Z (hK _ _ (Q4 (kp4 Z Z Z Z) ?_))
 refine Zq fun K hK => Qw (Xr) Z Z (.inl Z) (Qa Z (hK _ _ (Q4 (kp5 Z Z Z Z Z) ?_)))
 refine JH ?_ -- 0
 refine Zq fun K hK => Qa Z (hK _ _ (Q4 (kp6 Z Z Z Z Z Z) ?_))
 refine Xe ?_
 refine Mc (ι := List UR × Int × Nat) (fun ⟨us, J, n⟩ => ⟨[(0, .ref kg 0 0), (1, .int .i64 most), (5, .sl (YW names5)), (6, .osl 500000 us.length), (7, .sl (versions.map dVr)), (8, .int .i64 n)], [(500000, ⟨(us).map dUR, 3, 56, false⟩), (kg, gB L (J) eg)] ++ fbx 63 (us)⟩) (fun ⟨us, J, n⟩ => UnitsIn us /\ us.length <= 1 + 2 * n /\ n <= 5 /\ 1 + n <= us.length) (fun ⟨us, J, n⟩ => 5 - n) ([u0 v0], I, 0) ?_ ?_ ?_
 ·refine BD (l := [0, 1, 5, 6, 7, 8]) hkg (kp6 Z Z Z Z Z Z) ?_; simp only [List.map_cons, List.map_nil, D.ren, D.renS, k1, k2]; rfl
 ·exact ⟨UnitsIn.zero, by simp, Wa, by simp⟩
 intro ⟨us, J, n⟩ hI
 dsimp only at hI
 have e1 : ¬ kg = 500001 + us.length := Wa
 have e2 : ¬ 500000 = 500001 + us.length := Wa
 have e4 : ¬ 500001 + us.length = 500000 := Wa
 have hx0 : 0 <= nx L J most := P7
 have hx1 : nx L J most < most := P6 Wa
 have hn5 := Zc
 have hv4 := Qd7
 dsimp only
 refine JH ?_ -- 1
 refine Zq fun K hK => mv2 Z Z (Qa Z ?_)
 refine YI (HQ (I := J) Z We hL Wa) ?_
 refine QU Z Z Wb (ZT Z Z (Qa Z ?_))
 refine Qv (g := 26) Z (fun h1 => ?_) (fun h1 => ?_)
 ·rw [h1]
  simp only [qA] at h1
  refine Qe Z (Qa Z (Qe Z (Qa Z (Qe Z (Zh Z Q5 (Qe Z (ZT Z Z (Qh Z Z (hK _ _ (Q4 (kp7 Z Z Z Z Z Z Z) ?_))))))))))
  refine Xz Z (fun h2 => ?_) (fun h2 => ?_)
  ·rw [h2]
   simp only [qA] at h2
   refine XQ (Zd (kp6 Z Z Z Z Z Z) ?_)
   refine JH ?_ -- 2
   refine Xe (Zq fun K hK => Qa Z (hK _ _ (Q4 (kp7 Z Z Z Z Z Z Z) ?_)))
   refine Zq fun K hK => Qa Z ?_
   refine YI (HQ (I := nxI J) Z We hL Wa) ?_
   refine Qa Z (hK _ _ (Q4 (kp8 Z Z Z Z Z Z Z Z) ?_))
   refine JH ?_ -- 3
   refine Zq fun K hK => Qa Z (hK _ _ (Q4 (kp9 Z Z Z Z Z Z Z Z Z) ?_))
   refine Xe ?_
   refine Mc (ι := List CR × Nat) (fun ⟨cs, i⟩ => ⟨[(0, .ref kg 0 0), (1, .int .i64 most), (5, .sl (YW names5)), (6, .osl 500000 us.length), (7, .sl (versions.map dVr)), (8, .int .i64 n), (9, .osl (500001 + us.length) cs.length), (10, .int .i64 (nx L (nxI J) 16)), (11, .int .i64 i)], [(500001 + (us).length, ⟨(cs).map dCR, 8, 63, true⟩), (500000, ⟨(us).map dUR, 3, 56, false⟩), (kg, gB L (nxI (nxI J)) eg)] ++ fbx 63 (us)⟩) (fun ⟨cs, i⟩ => i <= 4 /\ CsIn i cs) (fun ⟨cs, i⟩ => 4 - i) ([], 0) ?_ ?_ ?_
   ·exact le_trans (ZV 9 (500001 + us.length) 8 63 rfl (by repeat (first | exact YX hI.1.keys (.inr Wa) | refine Zy Wa ?_))) (Qem (l := [0, 1, 5, 6, 7, 8, 9, 10, 11]) (B := [_, _, _, _, _]) (kp9 rfl rfl rfl rfl rfl rfl rfl rfl rfl) rfl hI.1.keys We We We (by intro p hp h; simp only [Qim, Qil, or_false] at hp; rcases hp with rfl | rfl | rfl | rfl | rfl <;> first | (simp only at h; omega) | exact .inl rfl | exact .inr rfl) (by intro p hp k hk; simp only [Qim, Qil, or_false] at hp; rcases hp with rfl | rfl | rfl | rfl | rfl | rfl | rfl | rfl | rfl <;> first | (simp [D.ids, D.sid, Q6, Q9, QP] at hk; done) | (simp [D.ids, D.sid, Q6, Q9, QP] at hk; subst hk; first | exact .inl rfl | exact .inr (.inl rfl) | exact .inr (.inr (.inl rfl)) | (refine .inr (.inr (.inl ?_)); simp; done) | (first | exact .inr (.inr ⟨_, Qiz _ (Qit.2 rfl), rfl⟩) | exact .inr (.inr (.inr ⟨_, Qiz _ (Qit.2 rfl), rfl⟩))))))
   ·exact ⟨Wa, CsIn.nil _⟩
   intro ⟨cs, i⟩ hC
   dsimp only at hC
   have hcl := hC.2.1
   dsimp only
   refine JH ?_ -- 4
   refine Zq fun K hK => mv2 Z Z (Zh Z Q5 (ZT Z Z (hK _ _ (Q4 (MF Z Z Z Z Z Z Z Z Z Z) ?_))))
   refine Xz Z (fun h3 => ?_) (fun h3 => ?_)
   ·rw [h3]
    simp only [qA] at h3
    refine XQ (Zd (kp9 Z Z Z Z Z Z Z Z Z) ?_)
    refine JH ?_ -- 5
    refine Xe (Zq fun K hK => mv2 Z Z (Mb Z (N7 Wa Wa) (QcX Z Z Wa (FV Z Z (Yr Z Z (hK _ _ (Q4 (MF Z Z Z Z Z Z Z Z Z Z) ?_)))))))
    refine Xz Z (fun h4 => ?_) (fun h4 => ?_)
    ·rw [h4]
     simp only [qA] at h4
     refine Z6 fun K hK => mv2 Z Z (Qa Z (QI Z Z Z Wa (Q1 Wa) Z (QA (cs := [_, _, _, _, _]) Z Z Z Z (QY Z Z ?_))))
     refine QJ Z (by repeat (first | exact YX hI.1.keys (.inl Wa) | exact YX hK1.keys (.inl Wa) | refine Zy Wi ?_)) ?_
     refine Xy (hk0 := Wa) Z Z (fun _ h => Xn Z Z Z h) (Qn Wa QF) Wd Z Z Z Wf Wf (Qa Z (hK _ ?_))
     refine Qg (Zd (kp9 Z Z Z Z Z Z Z Z Z) (Z6 fun K hK => Qa Z (QU Z Z Wb (Qa Z (hK _ ?_)))))
     refine Qi (cs ++ [zr (versions[i]'Wa) 0], i + 1) ?_ ?_ ?_
     ·exact le_trans (RL (B := [_, _, _, _, _]) (500001 + us.length) (Mw _ _)) (Qem (l := [0, 1, 5, 6, 7, 8, 9, 10, 11]) (B := [_, _, _, _, _]) (kp9 rfl rfl rfl rfl rfl rfl rfl rfl rfl) (by simp [D.scrub, e1, e2, e3, e4] <;> omega) hI.1.keys (by rw [List.map_append]; exact QF) (by repeat (first | exact QF | exact Dc (Ts hI.1.keys) | refine Qn Wa ?_)) We (by intro p hp h; simp only [Qim, Qil, or_false] at hp; rcases hp with rfl | rfl | rfl | rfl | rfl <;> first | (simp only at h; omega) | exact .inl rfl | exact .inr rfl) (by intro p hp k hk; simp only [Qim, Qil, or_false] at hp; rcases hp with rfl | rfl | rfl | rfl | rfl | rfl | rfl | rfl | rfl <;> first | (simp [D.ids, D.sid, Q6, Q9, QP] at hk; done) | (simp [D.ids, D.sid, Q6, Q9, QP] at hk; subst hk; first | exact .inl rfl | exact .inr (.inl rfl) | exact .inr (.inr (.inl rfl)) | (refine .inr (.inr (.inl ?_)); simp; done) | (first | exact .inr (.inr ⟨_, Qiz _ (Qit.2 rfl), rfl⟩) | exact .inr (.inr (.inr ⟨_, Qiz _ (Qit.2 rfl), rfl⟩))))))
     ·dsimp only
      exact ⟨Wa, hC.2.snoc (Qfn Wa)⟩
     ·show 4 - (i + 1) < 4 - i; omega
    ·rw [h4]
     simp only [qA] at h4
     refine XQ (Qg (Zd (kp9 Z Z Z Z Z Z Z Z Z) (Z6 fun K hK => Qa Z (QU Z Z Wb (Qa Z (hK _ ?_))))))
     refine Qi (cs, i + 1) ?_ ?_ ?_
     ·exact Qem (l := [0, 1, 5, 6, 7, 8, 9, 10, 11]) (B := [_, _, _]) (kp9 rfl rfl rfl rfl rfl rfl rfl rfl rfl) rfl hI.1.keys We We We (by intro p hp h; simp only [Qim, Qil, or_false] at hp; rcases hp with rfl | rfl | rfl <;> first | (simp only at h; omega) | exact .inl rfl | exact .inr rfl) (by intro p hp k hk; simp only [Qim, Qil, or_false] at hp; rcases hp with rfl | rfl | rfl | rfl | rfl | rfl | rfl | rfl | rfl <;> first | (simp [D.ids, D.sid, Q6, Q9, QP] at hk; done) | (simp [D.ids, D.sid, Q6, Q9, QP] at hk; subst hk; first | exact .inl rfl | exact .inr (.inl rfl) | exact .inr (.inr (.inl rfl)) | (refine .inr (.inr (.inl ?_)); simp; done) | (first | exact .inr (.inr ⟨_, Qiz _ (Qit.2 rfl), rfl⟩) | exact .inr (.inr (.inr ⟨_, Qiz _ (Qit.2 rfl), rfl⟩)))))
     ·dsimp only
      exact ⟨Wa, hC.2.keep⟩
     ·show 4 - (i + 1) < 4 - i; omega
   ·rw [h3]
    simp only [qA] at h3
    refine Nl (XY (Qs (QB (Zd (kp7 Z Z Z Z Z Z Z) (Zq fun K hK => mv2 Z Z (Qa Z (QI Z Z Z Wa (Q1 Wa) Z (Qz Z Z Z (Qa Z ?_)))))))))
    refine QY Z Z ?_
    refine QJ Z (by repeat (first | exact YX hI.1.keys (.inl Wa) | exact YX hK1.keys (.inl Wa) | refine Zy Wi ?_)) ?_
    refine TI (hk0 := by decide) Z Z (fun _ h => Xn Z Z Z h) (Qn Wa (Qn Wa QF)) Wd Z Z (.inr (DL hI.1.keys Wa)) Wf Wf (Qa Z (hK _ _ (Q4 (kp7 Z Z Z Z Z Z Z) ?_)))
    have hc4 : CsIn 4 cs := ⟨Wa, hC.2.2⟩
    refine Cy (le_trans (RL (B := [_, _, _, _, _]) 500000 (Mw _ _)) (Qfm (u := (UR.mk (names5[n]'(by have := Zc; omega)) [] (500001 + us.length) cs)) (l := [0, 1, 5, 6, 7, 8, 9]) (fr' := [(0, .ref kg 0 0), (1, .int .i64 most), (5, .sl (YW names5)), (6, .osl 500000 (us ++ [(UR.mk (names5[n]'(by have := Zc; omega)) [] (500001 + us.length) cs)]).length), (7, .sl (versions.map dVr)), (8, .int .i64 n), (9, .osl (500001 + us.length) cs.length)]) (B := [_, _, _, _, _]) (kp7 rfl rfl rfl rfl rfl rfl rfl) (by simp [D.scrub, e1, e2, e3, e4]) hI.1.keys rfl We (by rw [List.map_append]; exact QF) We (by intro p hp h; simp only [Qim, Qil, or_false] at hp; rcases hp with rfl | rfl | rfl | rfl | rfl <;> first | (simp only at h; omega) | exact .inl rfl | exact .inr rfl) hkg Wa (by intro p hp k hk; simp only [Qim, Qil, or_false] at hp; rcases hp with rfl | rfl | rfl | rfl | rfl | rfl | rfl <;> first | (simp [D.ids, D.sid, Q6, Q9, QP] at hk; done) | (simp [D.ids, D.sid, Q6, Q9, QP] at hk; subst hk; first | exact .inl rfl | exact .inr (.inl rfl) | (first | exact .inr (.inr ⟨_, Qiz _ (Qit.2 rfl), rfl⟩) | exact .inr (.inr (.inr ⟨_, Qiz _ (Qit.2 rfl), rfl⟩))))))) ?_
    have hK1 := hI.1.snoc (n := (names5[n]'(by have := Zc; omega))) (f := []) hc4.1 hc4.2
    have hl1 : (us ++ [(UR.mk (names5[n]'(by have := Zc; omega)) [] (500001 + us.length) cs)]).length = us.length + 1 := by simp
    have f1 : ¬ kg = 500001 + (us ++ [(UR.mk (names5[n]'(by have := Zc; omega)) [] (500001 + us.length) cs)]).length := Wa
    have f2 : ¬ 500000 = 500001 + (us ++ [(UR.mk (names5[n]'(by have := Zc; omega)) [] (500001 + us.length) cs)]).length := Wa
    have f4 : ¬ 500001 + (us ++ [(UR.mk (names5[n]'(by have := Zc; omega)) [] (500001 + us.length) cs)]).length = 500000 := Wa
    have f5 : ¬ 500001 + us.length = 500001 + (us ++ [(UR.mk (names5[n]'(by have := Zc; omega)) [] (500001 + us.length) cs)]).length := Wa
    refine Zq fun K hK => Qa Z (ZT Z Z (Qa Z ?_))
    refine Qv (g := 67) Z (fun h5 => ?_) (fun h5 => ?_)
    ·rw [h5]
     simp only [qA] at h5
     refine Qe Z (Qa Z (Qe Z ?_))
     refine YI (HQ (I := nxI (nxI J)) Z We hL Wa) ?_
     refine Qe Z (Yr Z Z (Qh Z Z (hK _ _ (Q4 (kp8 Z Z Z Z Z Z Z Z) ?_))))
     refine Xz Z (fun h6 => ?_) (fun h6 => ?_)
     ·rw [h6]
      simp only [qA] at h6
      refine Zq fun K hK => Qa Z (hK _ _ (Q4 (kp8 Z Z Z Z Z Z Z Z) ?_))
      refine JH ?_ -- 6
      refine Zq fun K hK => Qa Z (hK _ _ (Q4 (kp9 Z Z Z Z Z Z Z Z Z) ?_))
      refine Xe ?_
      refine Mc (ι := List CR × Nat × Int) (fun ⟨c2, m, J3⟩ => ⟨[(0, .ref kg 0 0), (1, .int .i64 most), (5, .sl (YW names5)), (6, .osl 500000 (us ++ [(UR.mk (names5[n]'(by have := Zc; omega)) [] (500001 + us.length) cs)]).length), (7, .sl (versions.map dVr)), (8, .int .i64 n), (9, .osl (500001 + us.length) cs.length), (12, .osl (500001 + (us ++ [(UR.mk (names5[n]'(by have := Zc; omega)) [] (500001 + us.length) cs)]).length) c2.length), (13, .int .i64 m)], [(500001 + (us ++ [(UR.mk (names5[n]'(by have := Zc; omega)) [] (500001 + us.length) cs)]).length, ⟨(c2).map dCR, 8, 63, true⟩), (500000, ⟨(us ++ [(UR.mk (names5[n]'(by have := Zc; omega)) [] (500001 + us.length) cs)]).map dUR, 3, 56, false⟩), (kg, gB L (J3) eg)] ++ fbx 63 (us ++ [(UR.mk (names5[n]'(by have := Zc; omega)) [] (500001 + us.length) cs)])⟩) (fun ⟨c2, m, J3⟩ => m <= cs.length /\ CsIn m c2) (fun ⟨c2, m, J3⟩ => cs.length - m) ([], 0, nxI (nxI (nxI J))) ?_ ?_ ?_
      ·exact le_trans (ZV 12 (500001 + (us ++ [(UR.mk (names5[n]'(by have := Zc; omega)) [] (500001 + us.length) cs)]).length) 8 63 rfl (by repeat (first | exact YX hK1.keys (.inr Wa) | refine Zy Wa ?_))) (Qem (l := [0, 1, 5, 6, 7, 8, 9, 12, 13]) (B := [_, _, _, _]) (kp9 rfl rfl rfl rfl rfl rfl rfl rfl rfl) rfl hK1.keys We We We (by intro p hp h; simp only [Qim, Qil, or_false] at hp; rcases hp with rfl | rfl | rfl | rfl <;> first | (simp only at h; omega) | exact .inl rfl | exact .inr rfl) (by intro p hp k hk; simp only [Qim, Qil, or_false] at hp; rcases hp with rfl | rfl | rfl | rfl | rfl | rfl | rfl | rfl | rfl <;> first | (simp [D.ids, D.sid, Q6, Q9, QP] at hk; done) | (simp [D.ids, D.sid, Q6, Q9, QP] at hk; subst hk; first | exact .inl rfl | exact .inr (.inl rfl) | exact .inr (.inr (.inl rfl)) | (refine .inr (.inr (.inl ?_)); simp; done) | (first | exact .inr (.inr ⟨_, Qiz _ (Qit.2 rfl), rfl⟩) | exact .inr (.inr (.inr ⟨_, Qiz _ (Qit.2 rfl), rfl⟩))))))
      ·exact ⟨Wa, CsIn.nil _⟩
      intro ⟨c2, m, J3⟩ hM
      dsimp only at hM
      have hcl2 := hM.2.1
      dsimp only
      refine JH ?_ -- 7
      refine Zq fun K hK => mv2 Z Z (Zh Z Z (ZT Z Z (hK _ _ (Q4 (MF Z Z Z Z Z Z Z Z Z Z) ?_))))
      refine Xz Z (fun h7 => ?_) (fun h7 => ?_)
      ·rw [h7]
       simp only [qA] at h7
       refine XQ (Zd (kp9 Z Z Z Z Z Z Z Z Z) ?_)
       refine JH ?_ -- 8
       refine Xe (Zq fun K hK => Qa Z ?_)
       refine YI (HQ (I := J3) Z We hL Wa) ?_
       refine Gt Z Z (hK _ _ (Q4 (MF Z Z Z Z Z Z Z Z Z Z) ?_))
       refine Xz Z (fun h8 => ?_) (fun h8 => ?_)
       ·rw [h8]
        simp only [qA] at h8
        refine Z6 fun K hK => mv2 Z Z (Qa Z (JM Z Z (Qn Wa (Qn Wa (Qn Wa (Qn Wa (Ry (u := (UR.mk (names5[n]'(by have := Zc; omega)) [] (500001 + us.length) cs)) hI.1.keys Z))))) Wd Wa Wa Z (Qf Z (Zw (Qn Wa (Qn Wa (Qn Wa (Qn Wa (Ry (u := (UR.mk (names5[n]'(by have := Zc; omega)) [] (500001 + us.length) cs)) hI.1.keys Z)))))) (QA (cs := [_, _, _, _, _]) Z (Yj (Qn Wa (Qn Wa (Qn Wa (Qn Wa (Ry (u := (UR.mk (names5[n]'(by have := Zc; omega)) [] (500001 + us.length) cs)) hI.1.keys Z))))) (Q1 (l := cs) Wa)) Z Z (QY Z Z ?_)))))
        refine QJ Z (by repeat (first | exact YX hI.1.keys (.inl Wa) | exact YX hK1.keys (.inl Wa) | refine Zy Wi ?_)) ?_
        refine Xy (hk0 := Wa) Z Z (fun _ h => Xn Z Z Z h) (Qn Wa (Qn Wa QF)) Wd Z Z Z Wf Wf (Qa Z (hK _ ?_))
        refine Qg (Zd (kp9 Z Z Z Z Z Z Z Z Z) (Z6 fun K hK => Qa Z (QU Z Z Wb (Qa Z (hK _ ?_)))))
        refine Qi (c2 ++ [zr (cs[m]'Wa).v 0], m + 1, nxI J3) ?_ ?_ ?_
        ·exact le_trans (RL (B := [_, _, _, _, _, _]) (500001 + (us ++ [(UR.mk (names5[n]'(by have := Zc; omega)) [] (500001 + us.length) cs)]).length) (Mw _ _)) (Qem (l := [0, 1, 5, 6, 7, 8, 9, 12, 13]) (B := [_, _, _, _, _, _]) (kp9 rfl rfl rfl rfl rfl rfl rfl rfl rfl) (by simp [D.scrub, f1, f2, f4, f5] <;> omega) hK1.keys (by rw [Qdl (cs := c2)]; exact QF) (by repeat (first | exact QF | exact Dc (Ts hK1.keys) | refine Qn Wa ?_)) We (by intro p hp h; simp only [Qim, Qil, or_false] at hp; rcases hp with rfl | rfl | rfl | rfl | rfl | rfl <;> first | (simp only at h; omega) | exact .inl rfl | exact .inr rfl) (by intro p hp k hk; simp only [Qim, Qil, or_false] at hp; rcases hp with rfl | rfl | rfl | rfl | rfl | rfl | rfl | rfl | rfl <;> first | (simp [D.ids, D.sid, Q6, Q9, QP] at hk; done) | (simp [D.ids, D.sid, Q6, Q9, QP] at hk; subst hk; first | exact .inl rfl | exact .inr (.inl rfl) | exact .inr (.inr (.inl rfl)) | (refine .inr (.inr (.inl ?_)); simp; done) | (first | exact .inr (.inr ⟨_, Qiz _ (Qit.2 rfl), rfl⟩) | exact .inr (.inr (.inr ⟨_, Qiz _ (Qit.2 rfl), rfl⟩))))))
        ·dsimp only
         exact ⟨Wa, hM.2.snoc (hC.2.at Wa)⟩
        ·show cs.length - (m + 1) < cs.length - m; omega
       ·rw [h8]
        simp only [qA] at h8
        refine XQ (Qg (Zd (kp9 Z Z Z Z Z Z Z Z Z) (Z6 fun K hK => Qa Z (QU Z Z Wb (Qa Z (hK _ ?_))))))
        refine Qi (c2, m + 1, nxI J3) ?_ ?_ ?_
        ·exact Qem (l := [0, 1, 5, 6, 7, 8, 9, 12, 13]) (B := [_, _, _, _]) (kp9 rfl rfl rfl rfl rfl rfl rfl rfl rfl) rfl hK1.keys We We We (by intro p hp h; simp only [Qim, Qil, or_false] at hp; rcases hp with rfl | rfl | rfl | rfl <;> first | (simp only at h; omega) | exact .inl rfl | exact .inr rfl) (by intro p hp k hk; simp only [Qim, Qil, or_false] at hp; rcases hp with rfl | rfl | rfl | rfl | rfl | rfl | rfl | rfl | rfl <;> first | (simp [D.ids, D.sid, Q6, Q9, QP] at hk; done) | (simp [D.ids, D.sid, Q6, Q9, QP] at hk; subst hk; first | exact .inl rfl | exact .inr (.inl rfl) | exact .inr (.inr (.inl rfl)) | (refine .inr (.inr (.inl ?_)); simp; done) | (first | exact .inr (.inr ⟨_, Qiz _ (Qit.2 rfl), rfl⟩) | exact .inr (.inr (.inr ⟨_, Qiz _ (Qit.2 rfl), rfl⟩)))))
        ·dsimp only
         exact ⟨Wa, hM.2.keep⟩
        ·show cs.length - (m + 1) < cs.length - m; omega
      ·rw [h7]
       simp only [qA] at h7
       refine Nl (XY (Qs (QB (Zd (kp7 Z Z Z Z Z Z Z) (Z6 fun K hK => mv2 Z Z (Qa Z (QI Z Z Z Wa (Q1 Wa) Z (Qz Z Z Z (Qa Z ?_)))))))))
       refine QY Z Z ?_
       refine QJ Z (by repeat (first | exact YX hI.1.keys (.inl Wa) | exact YX hK1.keys (.inl Wa) | refine Zy Wi ?_)) ?_
       refine TI (hk0 := by decide) Z Z (fun _ h => Xn Z Z Z h) (Qn Wa (Qn Wa QF)) Wd Z Z (.inr (DL hK1.keys Wa)) Wf Wf (Qa Z (hK _ ?_))
       refine Qg (Zd (kp6 Z Z Z Z Z Z) (Z6 fun K hK => Qa Z (QU Z Z Wb (Qa Z (hK _ ?_)))))
       refine Qi (us ++ [(UR.mk (names5[n]'(by have := Zc; omega)) [] (500001 + us.length) cs)] ++ [(UR.mk (names5[n]'(by have := Zc; omega)) [102] (500001 + (us ++ [(UR.mk (names5[n]'(by have := Zc; omega)) [] (500001 + us.length) cs)]).length) c2)], J3, n + 1) ?_ ?_ ?_
       ·exact le_trans (RL (B := [_, _, _, _, _]) 500000 (Mw _ _)) (Qfm (u := (UR.mk (names5[n]'(by have := Zc; omega)) [102] (500001 + (us ++ [(UR.mk (names5[n]'(by have := Zc; omega)) [] (500001 + us.length) cs)]).length) c2)) (l := [0, 1, 5, 6, 7, 8]) (B := [_, _, _, _, _]) (kp6 rfl rfl rfl rfl rfl rfl) (by simp [D.scrub, f1, f2, e3, f4, e4] <;> omega) hK1.keys rfl We (by rw [Qd5 (u := (UR.mk (names5[n]'(by have := Zc; omega)) [102] (500001 + (us ++ [(UR.mk (names5[n]'(by have := Zc; omega)) [] (500001 + us.length) cs)]).length) c2))]; exact QF) We (by intro p hp h; simp only [Qim, Qil, or_false] at hp; rcases hp with rfl | rfl | rfl | rfl | rfl <;> first | (simp only at h; omega) | exact .inl rfl | exact .inr rfl) hkg Wa (by intro p hp k hk; simp only [Qim, Qil, or_false] at hp; rcases hp with rfl | rfl | rfl | rfl | rfl | rfl <;> first | (simp [D.ids, D.sid, Q6, Q9, QP] at hk; done) | (simp [D.ids, D.sid, Q6, Q9, QP] at hk; subst hk; first | exact .inl rfl | exact .inr (.inl rfl) | (first | exact .inr (.inr ⟨_, Qiz _ (Qit.2 rfl), rfl⟩) | exact .inr (.inr (.inr ⟨_, Qiz _ (Qit.2 rfl), rfl⟩))))))
       ·dsimp only
        exact ⟨hK1.snoc Wa hM.2.2, by simp; omega, Wa, by simp; omega⟩
       ·show 5 - (n + 1) < 5 - n; omega
     ·rw [h6]
      simp only [qA] at h6
      refine XQ (Qg (Zd (kp6 Z Z Z Z Z Z) (Z6 fun K hK => Qa Z (QU Z Z Wb (Qa Z (hK _ ?_))))))
      refine Qi (us ++ [(UR.mk (names5[n]'(by have := Zc; omega)) [] (500001 + us.length) cs)], nxI (nxI (nxI J)), n + 1) ?_ ?_ ?_
      ·exact QgS (l := [0, 1, 5, 6, 7, 8]) (B := [_, _, _]) (kp6 rfl rfl rfl rfl rfl rfl) rfl hK1.keys We We (by intro p hp h; simp only [Qim, Qil, or_false] at hp; rcases hp with rfl | rfl | rfl <;> first | (simp only at h; omega) | rfl) Wa (by intro p hp k hk; simp only [Qim, Qil, or_false] at hp; rcases hp with rfl | rfl | rfl | rfl | rfl | rfl <;> first | (simp [D.ids, D.sid, Q6, Q9, QP] at hk; done) | (simp [D.ids, D.sid, Q6, Q9, QP] at hk; subst hk; first | exact .inl rfl | exact .inr (.inl rfl) | (first | exact .inr (.inr ⟨_, Qiz _ (Qit.2 rfl), rfl⟩) | exact .inr (.inr (.inr ⟨_, Qiz _ (Qit.2 rfl), rfl⟩)))))
      ·dsimp only
       exact ⟨hK1, by simp; omega, Wa, by simp; omega⟩
      ·show 5 - (n + 1) < 5 - n; omega
    ·rw [h5]
     simp only [qA] at h5
     refine gn3 Z Z Z (Qh Z Z (hK _ _ (Q4 (kp8 Z Z Z Z Z Z Z Z) ?_)))
     refine Cx Z (XQ (Qg (Zd (kp6 Z Z Z Z Z Z) (Z6 fun K hK => Qa Z (QU Z Z Wb (Qa Z (hK _ ?_)))))))
     refine Qi (us ++ [(UR.mk (names5[n]'(by have := Zc; omega)) [] (500001 + us.length) cs)], nxI (nxI J), n + 1) ?_ ?_ ?_
     ·exact QgS (l := [0, 1, 5, 6, 7, 8]) (B := [_, _]) (kp6 rfl rfl rfl rfl rfl rfl) rfl hK1.keys We We (by intro p hp h; simp only [Qim, Qil, or_false] at hp; rcases hp with rfl | rfl <;> first | (simp only at h; omega) | rfl) Wa (by intro p hp k hk; simp only [Qim, Qil, or_false] at hp; rcases hp with rfl | rfl | rfl | rfl | rfl | rfl <;> first | (simp [D.ids, D.sid, Q6, Q9, QP] at hk; done) | (simp [D.ids, D.sid, Q6, Q9, QP] at hk; subst hk; first | exact .inl rfl | exact .inr (.inl rfl) | (first | exact .inr (.inr ⟨_, Qiz _ (Qit.2 rfl), rfl⟩) | exact .inr (.inr (.inr ⟨_, Qiz _ (Qit.2 rfl), rfl⟩)))))
     ·dsimp only
      exact ⟨hK1, by simp; omega, Wa, by simp; omega⟩
     ·show 5 - (n + 1) < 5 - n; omega
  ·rw [h2]
   simp only [qA] at h2
   refine Nl (XY (Qs (QB (Zd (kp1 Z) (Zq fun K hK => mv2 Z Z (hK _ _ (Q4 (kp1 Z) ?_)))))))
   refine Sx ?_
   refine ⟨.osl 500000 us.length, ((500000, ⟨us.map dUR, 3, 56, false⟩) :: fbx 63 us) ++ [(kg, gB L (nxI J) eg), (kg, gB L I eg)], ⟨us, _, ⟨hI.1, Wa, Wa⟩, rfl, rfl⟩, (KG (g3 := gB L J eg) hI.1.keys hkg Z Z Wa).1, (KG (g3 := gB L J eg) hI.1.keys hkg Z Z Wa).2.1, JE Z Z (KG (g3 := gB L J eg) hI.1.keys hkg Z Z Wa).2.2⟩
 ·rw [h1]
  simp only [qA] at h1
  refine gn4 Z Z Z Z (Qh Z Z (hK _ _ (Q4 (kp7 Z Z Z Z Z Z Z) ?_)))
  refine Cx Z (Nl (XY (Qs (QB (Zd (kp1 Z) (Zq fun K hK => mv2 Z Z (hK _ _ (Q4 (kp1 Z) ?_))))))))
  refine Sx ?_
  refine ⟨.osl 500000 us.length, ((500000, ⟨us.map dUR, 3, 56, false⟩) :: fbx 63 us) ++ [(kg, gB L (nxI J) eg), (kg, gB L I eg)], ⟨us, _, ⟨hI.1, Wa, Wa⟩, rfl, rfl⟩, (KG (g3 := gB L J eg) hI.1.keys hkg Z Z Wa).1, (KG (g3 := gB L J eg) hI.1.keys hkg Z Z Wa).2.1, JE Z Z (KG (g3 := gB L J eg) hI.1.keys hkg Z Z Wa).2.2⟩
open Go Go.Abs M3 M25
theorem QdL {kg : Nat} {L : List Int} {I most : Int} {eg eu ec : Nat} (heu : eu = 56) (hec : ec = 63) (hL : ∀ x ∈ L, I64 x) (hm0 : 1 <= most) (hm1 : most <= 5) :
  ∃ us I2, (UnitsIn us /\ 2 <= us.length /\ us.length <= 11) /\ ∀ (st : St) (args : List Opd), Zl st args = some [.ref kg 0 0, .int .i64 most] -> lk st.H kg = some (gB L I eg) -> (∀ j, 500000 <= j -> lk st.H j = none) -> Hj Tryz.prog 30 args st [(kg, gB L I eg)] ((500000, ⟨us.map dUR, 3, eu, false⟩) :: fbx ec us) [(kg, gB L I2 eg)] (.osl 500000 us.length) := by
 obtain ⟨d, H2, ⟨us, I2, hus, rfl, rfl⟩, hok⟩ := Gz (kg := upN kg) (I := I) (eg := eg) heu hec (by unfold upN; omega) hL hm0 hm1
 refine ⟨us, I2, hus, fun st args ha hg hs => ⟨_, ha, fun k b h => ?_, fun k b h j hj => ?_, fun x hx j hj => ?_, fun k b h => ?_, fun k b h => ?_, fun k hk => ?_, hok⟩⟩
 ·obtain ⟨rfl, rfl⟩ := Jd h; exact hg
 ·obtain ⟨rfl, rfl⟩ := Jd h; simp [Box.ids, gB] at hj
 ·simp only [Qim, Qil, or_false] at hx
  rcases hx with rfl | rfl
  ·simp [D.ids, D.sid] at hj; subst hj; exact Q2
  ·simp [D.ids, D.sid] at hj
 ·obtain ⟨rfl, rfl⟩ := Jd h
  exact ⟨Q2, fun j hj => by simp [Box.ids, gB] at hj⟩
 ·have hK := hus.1.keys
  rw [Qm] at h
  split at h
  ·rename_i e; cases h; subst e
   refine ⟨by decide, hs _ (Nat.le_refl _), fun j hj => ?_⟩
   obtain ⟨u, hu, rfl⟩ := Hb hj
   exact QW (Fs hK hu)
  ·obtain ⟨u, hu, rfl, rfl⟩ := P2 h
   have := KV hK hu
   exact ⟨Wa, hs _ Wa, fun j hj => by simp [Box.ids] at hj⟩
 ·simp [D.ids, D.sid] at hk; subst hk; exact Q2
theorem Lk {H : Qih} {kg ku : Nat} {L : List Int} {I most : Int} {eg eu ec : Nat} {us : List UR} (hg : lk H kg = some (gB L I eg)) (hU : Fam H kg ku eu ec us) (hC : Closed H) (hL : ∀ x ∈ L, I64 x) (h2 : 2 <= us.length) (hn : us.length <= 48) (hm0 : 0 <= most) (hm1 : most <= 10) :
  ∃ ns I2, N9 us.length most ns /\ ∀ (st : St) (args : List Opd), Zl st args = some [.ref kg 0 0, .osl ku us.length, .int .i64 most] -> (∀ j x, lk H j = some x -> lk st.H j = some x) -> Hj Tryz.prog 31 args st H [] [(kg, gB L I2 eg)] (Q9 ns) := by
 obtain ⟨d, H2, ⟨ns, I2, hx, rfl, rfl⟩, hok⟩ := Gy (H := upH H) (kg := upN kg) (ku := upN ku) (L := L) (I := I) (most := most) (eg := eg) (eu := eu) (ec := ec) (us := us.map UR.ren) (by unfold upN; omega) (by rw [J6, hg]; rfl) hU.up Lx (Nf hC) hL (by simpa using h2) (by simpa using hn) hm0 hm1
 obtain ⟨pu, hu⟩ := hU.u
 rw [List.length_map] at hx hok
 refine ⟨ns, I2, hx, fun st args ha hF => LK (b' := gB L I2 eg) (ds' := [.ref (upN kg) 0 0, .osl (upN ku) us.length, .int .i64 most]) ha hF hC (fun x hx j hj => ?_) (Zw hg) Z Z Z Z hok⟩
 simp only [Qim, Qil, or_false] at hx
 rcases hx with rfl | rfl | rfl
 ·simp [D.ids, D.sid] at hj; subst hj; exact Zw hg
 ·simp [D.ids, D.sid] at hj; subst hj; exact Zw hu
 ·simp [D.ids, D.sid] at hj
theorem _root_.Wk {p : Prop} (h : p := by ((try simp only [Q9, D.ids, D.sid]); simp only [Dr.ok, Y7, Y8, Y9, List.all_append, List.all_cons, List.all_nil, Bool.and_true, Bool.true_and]; (try rw [XK (by rfl)]); simp [D.ids, D.sid]; done)) : p := h
theorem _root_.Wc {p : Prop} (h : p := by repeat (first | exact QF | exact N5 | exact Nz | exact Pp | refine Qn (by omega) ?_)) : p := h
theorem _root_.Wp {p : Prop} (h : p := by ((try simp only [Q9, D.ids, D.sid]); simp only [Dr.ok, Y7, Y8, Y9, List.all_append, List.all_cons, List.all_nil, Bool.and_true, Bool.true_and]; (try rw [XK (by rfl)]); simp [D.ids, D.sid]; omega)) : p := h
theorem _root_.Wj {p : Prop} (h : p := by first | rfl | ((try simp only [Q9, D.ids, D.sid]); simp only [Dr.ok, Y7, Y8, Y9, List.all_append, List.all_cons, List.all_nil, Bool.and_true, Bool.true_and]; (try rw [XK (by rfl)]); simp [D.ids, D.sid]; done) | ((try simp only [Q9, D.ids, D.sid]); simp only [Dr.ok, Y7, Y8, Y9, List.all_append, List.all_cons, List.all_nil, Bool.and_true, Bool.true_and]; (try rw [XK (by rfl)]); simp [D.ids, D.sid]; omega)) : p := h
theorem Gx {ws : List Int} (hL : ∀ x ∈ ws, I64 x) {most : Int} (hm0 : 1 <= most) (hm1 : most <= 5) : ∃ d, (∃ w, WMade w /\ d = Yq w) /\ Ok Tryz.prog 9 [QP ws, .int .i64 most] d := by
 refine Ok.ofX (R := fun d => (∃ w, WMade w /\ d = Yq w)) ZS Tryz.func9 tp9 (Qik Z) ?_
 show TX _ _ tf9.body _ _
 obtain ⟨us0, J0, ⟨hU, hu2, hu11⟩, hc0⟩ := QdL (kg := 12) (L := ws) (I := 0) (most := most) (eg := 73) rfl rfl hL hm0 hm1
 have hU0 := Prog.start hU hu2 hu11
 obtain ⟨z0, rest0, hfirst⟩ := hU.first
 have hi0 : 0 < us0.length := Wa
 have hcl0 : us0[0].cs = [z0] := by subst hfirst; rfl
 have hk0 : 0 < us0[0].cs.length := by rw [hcl0]; exact Nat.zero_lt_one
 obtain ⟨va, sha, hza, hva⟩ := hU0.fresh 0 hi0 0 hk0 Wa
 obtain ⟨ns0, J00, hns0, hc00⟩ := Lk (H := wA (us0) 56 63 73 ws (J0) ⟨[[.fsl []]], 1, 26, true⟩) (most := 3) Nz (DO hU.keys hU0.fam) (JF hU.keys rfl) hL hu2 Wa Wg Wg
 refine Zq fun K hK => Zv Z (hK _ _ (Q4 (kp3 Z Z Z) ?_))
 refine Zq fun K hK => Qa Z (QY Z Z (Zo Z Z Z (Qa Z (hK _ _ (Q4 (kp3 Z Z Z) ?_)))))
 refine Zq fun K hK => Qa rfl (Qa rfl (YI (hc0 _ _ rfl rfl (by intro j hj; rw [Qm, if_neg Wa, Qm, if_neg Wa]; rfl)) (Qa rfl (hK _ _ (Q4 (kp3 rfl rfl rfl) ?_)))))
 refine Cy (KW Z (Lw hU.keys)) (Zq fun K hK => Qa Z (G6 (ds0 := [7, 6, 2, 1, 0]) Z Z Z Wd Wa Wa Z Z Z (Qf Z Z (QQ (ds0 := [2, 1, 0]) Z (Yj Z (Qb3 (i := 0) hU.keys hi0)) Z Z Z (mv2 Z Z (TJ (ds0 := [0]) (hc00 _ _ Z (fun _ _ h => h)) (fun j hj => Fz hj) Wk Z (G6 (ds0 := [1, 0]) Z Z (Qn Wa (G5 (j := 0) hU.keys hi0)) Wd Wa Wa Z Z Z (Qf Z (Zw (Qn Wa (G5 (j := 0) hU.keys hi0))) (Yt (ds0 := []) Z (Qn Wa (G5 (j := 0) hU.keys hi0)) (Qdk (k := 0) hk0 hza) Z Z Z Z Z Wk Z ?_)))))))))
 refine hK _ _ (Q4 (kp3 Z Z Z) ?_)
 refine JH ?_ -- 0
 refine Zq fun K hK => Qa Z (hK _ _ (Q4 (kp4 Z Z Z Z) ?_))
 refine Xe ?_
 have hPs : Prog us0.length (Gq us0 0 0 (Sj (CandT.mk va sha ns0 []))) 1 0 := (hU0.put hi0 hk0 ⟨_, rfl, FY hva hns0 Wg⟩).next (by rw [ZC]; exact hi0) (by rw [<- Kk (by rw [ZC]; exact hi0), JX, Kk hi0, hcl0]; exact Nat.le_refl 1)
 refine Mc (ι := List UR × Int × Nat) (fun ⟨usA, JA, i⟩ => ⟨[(4, .ref 4 0 0), (5, .ref 12 0 0), (6, .osl 500000 usA.length), (7, .int .i64 i)], wA (usA) 56 63 73 ws (JA) ⟨[[.fsl []]], 1, 26, true⟩⟩) (fun ⟨usA, JA, i⟩ => Prog us0.length usA i 0 /\ 1 <= i /\ i <= us0.length) (fun ⟨usA, JA, i⟩ => us0.length - i) (Gq us0 0 0 (Sj (CandT.mk va sha ns0 [])), J00, 1) ?_ ?_ ?_
 ·exact MJ (l := [4, 5, 6, 7]) (i := 0) (k := 0) (row := [.int .i64 va.a, .int .i64 va.b, .int .i64 va.c, .str va.p, .str va.q, .int .i64 sha, Q9 ns0, .fsl []]) (p := true) 13 (Sj (CandT.mk va sha ns0 [])) (kp4 rfl rfl rfl rfl) (by rw [ZC] <;> rfl) hU.keys hi0 hk0 QF (fun _ => rfl) rfl (fun z hz => (hU0.pure hi0 z hz).1) ⟨rfl, rfl, rfl⟩ (fun j hj hne => (Qn Wa (Qn Wa (G5 hU.keys hj)))) Wc Wc Wc rfl Wg (by intro j hj; repeat (first | exact Z2 hU.keys Wa Wa Wa (.inr Wa) | refine Zy Wa ?_)) Wa (by intro p hp j hj; simp only [Qim, Qil, or_false] at hp; rcases hp with rfl | rfl | rfl | rfl <;> first | (simp [D.ids, D.sid] at hj; done) | (simp [D.ids, D.sid] at hj; subst hj; first | exact .inl rfl | exact .inr (.inl rfl) | exact .inr (.inr (.inl rfl)) | exact .inr (.inr (.inr ⟨us0[0], Qip hi0, rfl⟩))))
 ·exact ⟨hPs, Nat.le_refl _, Wa⟩
 intro ⟨usA, JA, i⟩ hPA
 dsimp only at hPA
 have hlA := hPA.1.len.1
 dsimp only
 refine JH ?_ -- 1
 refine Zq fun K hK => mv2 Z Z (Zh Z Z (ZT Z Z (hK _ _ (Q4 (kp5 Z Z Z Z Z) ?_))))
 refine Xz Z (fun h1 => ?_) (fun h1 => ?_)
 ·rw [h1]
  simp only [qA] at h1
  refine XQ (Zd (kp4 Z Z Z Z) ?_)
  refine JH ?_ -- 2
  refine Xe (Zq fun K hK => Qa Z (hK _ _ (Q4 (kp5 Z Z Z Z Z) ?_)))
  refine Xe ?_
  refine Mc (ι := List UR × Int × Nat) (fun ⟨us, J, k⟩ => ⟨[(4, .ref 4 0 0), (5, .ref 12 0 0), (6, .osl 500000 us.length), (7, .int .i64 i), (8, .int .i64 k)], wA (us) 56 63 73 ws (J) ⟨[[.fsl []]], 1, 26, true⟩⟩) (fun ⟨us, J, k⟩ => Prog us0.length us i k) (fun ⟨us, J, k⟩ => TZ us i - k) (usA, JA, 0) ?_ ?_ ?_
  ·exact QV (l := [4, 5, 6, 7, 8]) (kp5 rfl rfl rfl rfl rfl)
  ·exact hPA.1
  intro ⟨us, J, k⟩ hP
  dsimp only at hP
  have hl := hP.len.1
  have hi : i < us.length := Wa
  have h1i := hPA.2.1
  have hcl4 := hP.cl us[i] (Qip hi)
  dsimp only
  refine JH ?_ -- 3
  refine Zq fun K hK => mv2 Z Z (Qa Z (JM Z Z Z Wd Wa Wa Z (Qf Z Z (Qz Z (Yj Z (Qb3 hP.keys hi)) Z (Zh Z Z (ZT Z Z (hK _ _ (Q4 (kp6 Z Z Z Z Z Z) ?_))))))))
  refine Xz Z (fun h2 => ?_) (fun h2 => ?_)
  ·rw [h2]
   simp only [qA] at h2
   try (have hk : k < us[i].cs.length := Wa; obtain ⟨v, sh, hz, hv⟩ := hP.fresh i hi k hk Wa)
   refine XQ (Zd (kp5 Z Z Z Z Z) ?_)
   refine JH ?_ -- 4
   refine Xe (Zq fun K hK => mv2 Z Z (JM Z Z Z Wd Wa Wa Z (Qf Z Z (Qz Z (Yj Z (Qb3 hP.keys hi)) Z (Qa Z (JM Z Z (G5 hP.keys hi) Wd Wa Wa Z (Qa Z (hK _ _ (Q4 (kp6 Z Z Z Z Z Z) ?_)))))))))
   refine JH ?_ -- 5
   refine Zq fun K hK => mv2 Z Z (JM Z Z Z Wd Wa Wa Z (Qf Z Z (Qz Z (Yj Z (Qb3 hP.keys hi)) Z (Cs Z Z (hK _ _ (Q4 (kp7 Z Z Z Z Z Z Z) ?_))))))
   refine Xz Z (fun h3 => ?_) (fun h3 => ?_)
   ·rw [h3]
    simp only [qA] at h3
    refine Z6 fun K hK => mv2 Z Z (GP Z Z Wb (Qa Z (Yf Z Z (Qf Z (Zw (G5 hP.keys hi)) (QA (cs := [_, _, _, _, _]) Z (Yj (G5 hP.keys hi) (Qdk hk hz)) Z Z (Qw (X8 hv.1 hv.2) Z Z (.inl Z) (QY Z Z ?_)))))))
    refine QJ Z (by repeat (first | exact Z2 hU.keys Wa Wa Wa (.inl Wa) | exact Z2 hP.keys Wa Wa Wa (.inl Wa) | exact Z2 hP2.keys Wa Wa Wa (.inl Wa) | refine Zy Wa ?_)) ?_
    refine QJ Z (by repeat (first | exact Z2 hU.keys Wa Wa Wa (.inl Wa) | exact Z2 hP.keys Wa Wa Wa (.inl Wa) | exact Z2 hP2.keys Wa Wa Wa (.inl Wa) | refine Zy Wa ?_)) ?_
    refine Yf Z Z (Qf Z (Zw (Qn Wa (Qn Wa (G5 hP.keys hi)))) (QZ Z (Qn Wa (Qn Wa (G5 hP.keys hi))) (Qdk hk hz) Z Z Z Z Z (hK _ ?_)))
    refine Zd (kp6 Z Z Z Z Z Z) ?_
    first | (refine Cy (BC (l := [4, 5, 6, 7, 8, 9]) (fr' := [(4, .ref 4 0 0), (5, .ref 12 0 0), (6, .osl 500000 us.length), (7, .int .i64 i), (8, .int .i64 k), (9, .ref (500001 + i) k 0)]) (x := (WantT.mk ((i : Int) - 1) (Xk v.a v.b v.c v.p v.q))) (kp6 rfl rfl rfl rfl rfl rfl) rfl hP.keys hi rfl (Lq (fun z hz => (hP.pure hi z hz).1) (by intro d hd j hj; simp [dCR, setRow, zr] at hd; rcases hd with rfl | rfl | rfl | rfl | rfl | rfl | rfl | rfl <;> simp [D.sid] at hj <;> exact hj)) (by intro p hp j hj; simp only [Qim, Qil, or_false] at hp; rcases hp with rfl | rfl | rfl | rfl | rfl | rfl <;> first | (simp [D.ids, D.sid] at hj; done) | (simp [D.ids, D.sid] at hj; subst hj; first | exact .inl rfl | exact .inr (.inl rfl) | exact .inr (.inr (.inl rfl)) | exact .inr (.inr (.inr ⟨us[i], Qip hi, (hP.keys i hi).symm⟩))))) ?_) | skip
    refine Zq fun K hK => mv2 Z Z (Yf Z Z (Qf Z Q2 (QQ (ds0 := [3, 0]) Z (Yj QF (QcH hk)) Z Z Z (mv2 Z Z ?_))))
    have hfx := QgW (eu := 56) (ec := 63) (eg := 73) (L := ws) (J := J) (b4 := ⟨[[.fsl []]], 1, 26, true⟩) (b64 := ⟨[[Q6 [(WantT.mk ((i : Int) - 1) (Xk v.a v.b v.c v.p v.q))]]], 1, 61, true⟩) (zx := (CR.mk v (.int .i64 sh) (.osl 64 1) (.fsl []))) hP hi hk hv ⟨rfl, rfl, rfl⟩ rfl rfl
    obtain ⟨ns, J1, hns, hc1⟩ := Lk (H := (500001 + i, ⟨(us[i].cs.map dCR).set k (dCR (CR.mk v (.int .i64 sh) (.osl 64 1) (.fsl []))), 8, 63, false⟩) :: (64, ⟨[[Q6 [(WantT.mk ((i : Int) - 1) (Xk v.a v.b v.c v.p v.q))]]], 1, 61, true⟩) :: wA (us) 56 63 73 ws (J) ⟨[[.fsl []]], 1, 26, true⟩) (most := 2) (Qn Wa (Qn Wa Nz)) hfx.1 hfx.2 hL (by (rw [ZC]; omega)) (by (rw [ZC]; omega)) Wg Wg
    rw [ZC] at hns
    refine TJ (ds0 := [3, 0]) (hc1 _ _ (by rw [ZC]; rfl) (fun _ _ h => h)) (fun j hj => Fz hj) Wp Z ?_
    refine XC (ds0 := [0]) Z Z (by simp [D.ids, D.sid, Q9]) ⟨rfl, QcD, rfl⟩ (by repeat (first | exact Z2 hU.keys Wa Wa Wa (.inl Wa) | exact Z2 hP.keys Wa Wa Wa (.inl Wa) | exact Z2 hP2.keys Wa Wa Wa (.inl Wa) | refine Zy Wa ?_)) (Qn Wa (Qn Wa QF)) Z Z Z (by have := hns.1; simp; omega) (by have := hns.1; simp; omega) Wj Z ?_
    refine Yf Z Z (Qf Z (Zw (Qn Wa (Qn Wa (Qn Wa QF)))) (Yt (ds0 := []) Z (Qn Wa (Qn Wa (Qn Wa QF))) (QcH hk) Z Z Z Z Z Wk Z (hK _ _ (Q4 (kp6 Z Z Z Z Z Z) ?_))))
    first | (refine Cy (MJ (l := [4, 5, 6, 7, 8, 9]) (eu := 56) (ec := 63) (eg := 73) (L := ws) (J := J1) (b4 := ⟨[[.fsl []]], 1, 26, true⟩) (fr' := [(4, .ref 4 0 0), (5, .ref 12 0 0), (6, .osl 500000 us.length), (7, .int .i64 i), (8, .int .i64 k), (9, .ref (500001 + i) k 0)]) (row := [.int .i64 v.a, .int .i64 v.b, .int .i64 v.c, .str v.p, .str v.q, .int .i64 sh, .osl 75 (1 + (ns.map (fun r => [Q6 r])).length), .fsl []]) (p := false) 75 (Sj (CandT.mk v sh ([(WantT.mk ((i : Int) - 1) (Xk v.a v.b v.c v.p v.q))] :: ns) [])) (kp6 rfl rfl rfl rfl rfl rfl) rfl hP.keys hi hk S3 (fun h => by cases h) (NM (Qn Wa QF) Wq) (fun z hz => (hP.pure hi z hz).1) ⟨rfl, rfl, rfl⟩ (fun j hj hne => (Qn Wa (Qn Wa (Qn Wa (Qn Wa (Qn Wa (Qn Wa (G5 hP.keys hj)))))))) Wc Wc Wc rfl Wg (by intro j hj; repeat (first | exact Z2 hP.keys Wa Wa Wa (.inr Wa) | refine Zy Wa ?_)) Wa (by intro p hp j hj; simp only [Qim, Qil, or_false] at hp; rcases hp with rfl | rfl | rfl | rfl | rfl | rfl <;> first | (simp [D.ids, D.sid] at hj; done) | (simp [D.ids, D.sid] at hj; subst hj; first | exact .inl rfl | exact .inr (.inl rfl) | exact .inr (.inr (.inl rfl)) | exact .inr (.inr (.inr ⟨us[i], Qip hi, (hP.keys i hi).symm⟩))))) ?_; have hc2 : JL us0.length (CandT.mk v sh ([(WantT.mk ((i : Int) - 1) (Xk v.a v.b v.c v.p v.q))] :: ns) []) := (by rw [<- hl]; exact SL hv hns Wg h1i hi); generalize hns2 : ([(WantT.mk ((i : Int) - 1) (Xk v.a v.b v.c v.p v.q))] :: ns) = ns2 at hc2 ⊢) | (refine Cy (MJ (l := [4, 5, 6, 7, 8, 9]) (eu := 56) (ec := 63) (eg := 73) (L := ws) (J := J1) (b4 := ⟨[[.fsl []]], 1, 26, true⟩) (fr' := [(4, .ref 4 0 0), (5, .ref 12 0 0), (6, .osl 500000 us.length), (7, .int .i64 i), (8, .int .i64 k), (9, .ref (500001 + i) k 0)]) (row := [.int .i64 v.a, .int .i64 v.b, .int .i64 v.c, .str v.p, .str v.q, .int .i64 sh, .osl 75 (0 + (ns.map (fun r => [Q6 r])).length), .fsl []]) (p := false) 75 (Sj (CandT.mk v sh ns [])) (kp6 rfl rfl rfl rfl rfl rfl) rfl hP.keys hi hk QF (fun h => by cases h) (NM (Qn Wa QF) Wq) (fun z hz => (hP.pure hi z hz).1) ⟨rfl, rfl, rfl⟩ (fun j hj hne => (Qn Wa (Qn Wa (Qn Wa (G5 hP.keys hj))))) Wc Wc Wc rfl Wg (by intro j hj; repeat (first | exact Z2 hP.keys Wa Wa Wa (.inr Wa) | refine Zy Wa ?_)) Wa (by intro p hp j hj; simp only [Qim, Qil, or_false] at hp; rcases hp with rfl | rfl | rfl | rfl | rfl | rfl <;> first | (simp [D.ids, D.sid] at hj; done) | (simp [D.ids, D.sid] at hj; subst hj; first | exact .inl rfl | exact .inr (.inl rfl) | exact .inr (.inr (.inl rfl)) | exact .inr (.inr (.inr ⟨us[i], Qip hi, (hP.keys i hi).symm⟩))))) ?_; have hc2 : JL us0.length (CandT.mk v sh ns []) := (by rw [<- hl]; exact FY hv hns Wg); generalize hns2 : ns = ns2 at hc2 ⊢)
    generalize hus2 : Gq us i k (Sj (CandT.mk v sh ns2 [])) = us2
    have hP2 : Prog us0.length us2 i (k + 1) := hus2 ▸ hP.put hi hk ⟨_, rfl, hc2⟩
    have hl2 : us2.length = us.length := by rw [<- hus2, ZC]
    have hi2 : i < us2.length := Wa
    have hk2 : k < us2[i].cs.length := Tu hi hk hus2 hi2
    have hz2 : us2[i].cs[k] = Sj (CandT.mk v sh ns2 []) := Tt hi hk hus2.symm hi2 hk2
    refine Zq fun K hK => Qa Z (YI (HQ (I := J1) Z Nz hL Wa) (Yr Z Z (hK _ _ (Q4 (kp7 Z Z Z Z Z Z Z) ?_))))
    refine Xz Z (fun h4 => ?_) (fun h4 => ?_)
    ·rw [h4]
     simp only [qA] at h4
     refine Z6 fun K hK => mv2 Z Z (Qa Z ?_)
     obtain ⟨xb, J3, hxb, hcb⟩ := Dt (H := (12, gB ws (nxI J1) 73) :: wA (us2) 56 63 73 ws (J1) ⟨[[.fsl []]], 1, 26, true⟩) QF (DO hP2.keys hP2.fam).cons ((JF hP2.keys rfl).pr rfl) hL Wa Wa
     refine YI (hcb _ _ (by rw [hl2]; rfl) (fun _ _ h => h)) ?_
     refine QJ Z (by repeat (first | exact Z2 hU.keys Wa Wa Wa (.inl Wa) | exact Z2 hP.keys Wa Wa Wa (.inl Wa) | exact Z2 hP2.keys Wa Wa Wa (.inl Wa) | refine Zy Wa ?_)) ?_
     refine Yf Z Z (Qf Z (Zw (Qn Wa (Qn Wa (Qn Wa (G5 hP2.keys hi2))))) (QZ Z (Qn Wa (Qn Wa (Qn Wa (G5 hP2.keys hi2)))) (Qdk hk2 hz2) Z Z Z Z Z (hK _ ?_)))
     refine Qg (Zd (kp5 Z Z Z Z Z) (Z6 fun K hK => Qa Z (QU Z Z Wb (Qa Z (hK _ ?_)))))
     refine Qi (Gq us2 i k (Sj (CandT.mk v sh ns2 [xb])), J3, k + 1) ?_ ?_ ?_
     ·exact MJ (l := [4, 5, 6, 7, 8]) (row := [.int .i64 v.a, .int .i64 v.b, .int .i64 v.c, .str v.p, .str v.q, .int .i64 sh, Q9 ns2, .osl 85 1]) (p := false) 85 (Sj (CandT.mk v sh ns2 [xb])) (kp5 rfl rfl rfl rfl rfl) (by rw [ZC, hl2] <;> rfl) hP2.keys hi2 hk2 QF (fun h => by cases h) (Bl (Qn Wa QF) rfl) (fun z hz => (hP2.pure hi2 z hz).1) ⟨rfl, rfl, rfl⟩ (fun j hj hne => (Qn Wa (Qn Wa (Qn Wa (Qn Wa (G5 hP2.keys hj)))))) Wc Wc Wc rfl Wg (by intro j hj; repeat (first | exact Z2 hP2.keys Wa Wa Wa (.inr Wa) | refine Zy Wa ?_)) Wa (by intro p hp j hj; simp only [Qim, Qil, or_false] at hp; rcases hp with rfl | rfl | rfl | rfl | rfl <;> first | (simp [D.ids, D.sid] at hj; done) | (simp [D.ids, D.sid] at hj; subst hj; first | exact .inl rfl | exact .inr (.inl rfl) | exact .inr (.inr (.inl rfl)) | exact .inr (.inr (.inr ⟨us2[i], Qip hi2, (hP2.keys i hi2).symm⟩))))
     ·exact hP2.again hi2 hk2 ⟨_, rfl, SK hc2 (by have := hxb; rwa [hl2, hl] at this)⟩
     ·show TZ (Gq us2 i k _) i - (k + 1) < TZ us i - k; rw [JX, <- hus2, JX, Kk hi]; omega
    ·rw [h4]
     simp only [qA] at h4
     refine XQ (Qg (Zd (kp5 Z Z Z Z Z) (Z6 fun K hK => Qa Z (QU Z Z Wb (Qa Z (hK _ ?_))))))
     refine Qi (us2, nxI J1, k + 1) ?_ ?_ ?_
     ·exact le_trans (QV (l := [4, 5, 6, 7, 8]) (kp5 rfl rfl rfl rfl rfl)) (KW (by rw [hl2] <;> rfl) Qfs)
     ·exact hP2
     ·show TZ us2 i - (k + 1) < TZ us i - k; rw [<- hus2, JX, Kk hi]; omega
   ·rw [h3]
    simp only [qA] at h3
    refine XQ (Zd (kp6 Z Z Z Z Z Z) ?_)
    first | (refine Cy (BC (l := [4, 5, 6, 7, 8, 9]) (fr' := [(4, .ref 4 0 0), (5, .ref 12 0 0), (6, .osl 500000 us.length), (7, .int .i64 i), (8, .int .i64 k), (9, .ref (500001 + i) k 0)]) (x := (WantT.mk ((i : Int) - 1) (Xk v.a v.b v.c v.p v.q))) (kp6 rfl rfl rfl rfl rfl rfl) rfl hP.keys hi rfl (Lq (fun z hz => (hP.pure hi z hz).1) (by intro d hd j hj; simp [dCR, setRow, zr] at hd; rcases hd with rfl | rfl | rfl | rfl | rfl | rfl | rfl | rfl <;> simp [D.sid] at hj <;> exact hj)) (by intro p hp j hj; simp only [Qim, Qil, or_false] at hp; rcases hp with rfl | rfl | rfl | rfl | rfl | rfl <;> first | (simp [D.ids, D.sid] at hj; done) | (simp [D.ids, D.sid] at hj; subst hj; first | exact .inl rfl | exact .inr (.inl rfl) | exact .inr (.inr (.inl rfl)) | exact .inr (.inr (.inr ⟨us[i], Qip hi, (hP.keys i hi).symm⟩))))) ?_) | skip
    refine Zq fun K hK => mv2 Z Z (Yf Z Z (Qf Z (Zw (G5 hP.keys hi)) (QQ (ds0 := [3, 0]) Z (Yj (G5 hP.keys hi) (Qdk hk hz)) Z Z Z (mv2 Z Z ?_))))
    obtain ⟨ns, J1, hns, hc1⟩ := Lk (H := wA (us) 56 63 73 ws (J) ⟨[[.fsl []]], 1, 26, true⟩) (most := 2) Nz (DO hP.keys hP.fam) (JF hP.keys rfl) hL Wa Wa Wg Wg
    refine TJ (ds0 := [3, 0]) (hc1 _ _ Z (fun _ _ h => h)) (fun j hj => Fz hj) Wp Z ?_
    refine TH (ds0 := [0]) Z Z (fun _ h => ⟨QcD, h⟩) (by repeat (first | exact Z2 hU.keys Wa Wa Wa (.inl Wa) | exact Z2 hP.keys Wa Wa Wa (.inl Wa) | exact Z2 hP2.keys Wa Wa Wa (.inl Wa) | refine Zy Wa ?_)) (.inl Z) Wd (by have := hns.1; simp; omega) (by have := hns.1; simp; omega) Wj Z ?_
    refine Yf Z Z (Qf Z (Zw (Qn Wa (Qn Wa (G5 hP.keys hi)))) (Yt (ds0 := []) Z (Qn Wa (Qn Wa (G5 hP.keys hi))) (Qdk hk hz) Z Z Z Z Z Wk Z (hK _ _ (Q4 (kp6 Z Z Z Z Z Z) ?_))))
    first | (refine Cy (MJ (l := [4, 5, 6, 7, 8, 9]) (eu := 56) (ec := 63) (eg := 73) (L := ws) (J := J1) (b4 := ⟨[[.fsl []]], 1, 26, true⟩) (fr' := [(4, .ref 4 0 0), (5, .ref 12 0 0), (6, .osl 500000 us.length), (7, .int .i64 i), (8, .int .i64 k), (9, .ref (500001 + i) k 0)]) (row := [.int .i64 v.a, .int .i64 v.b, .int .i64 v.c, .str v.p, .str v.q, .int .i64 sh, .osl 75 (1 + (ns.map (fun r => [Q6 r])).length), .fsl []]) (p := false) 75 (Sj (CandT.mk v sh ([(WantT.mk ((i : Int) - 1) (Xk v.a v.b v.c v.p v.q))] :: ns) [])) (kp6 rfl rfl rfl rfl rfl rfl) rfl hP.keys hi hk S3 (fun h => by cases h) (NM (Qn Wa QF) Wq) (fun z hz => (hP.pure hi z hz).1) ⟨rfl, rfl, rfl⟩ (fun j hj hne => (Qn Wa (Qn Wa (Qn Wa (Qn Wa (Qn Wa (Qn Wa (G5 hP.keys hj)))))))) Wc Wc Wc rfl Wg (by intro j hj; repeat (first | exact Z2 hP.keys Wa Wa Wa (.inr Wa) | refine Zy Wa ?_)) Wa (by intro p hp j hj; simp only [Qim, Qil, or_false] at hp; rcases hp with rfl | rfl | rfl | rfl | rfl | rfl <;> first | (simp [D.ids, D.sid] at hj; done) | (simp [D.ids, D.sid] at hj; subst hj; first | exact .inl rfl | exact .inr (.inl rfl) | exact .inr (.inr (.inl rfl)) | exact .inr (.inr (.inr ⟨us[i], Qip hi, (hP.keys i hi).symm⟩))))) ?_; have hc2 : JL us0.length (CandT.mk v sh ([(WantT.mk ((i : Int) - 1) (Xk v.a v.b v.c v.p v.q))] :: ns) []) := (by rw [<- hl]; exact SL hv hns Wg h1i hi); generalize hns2 : ([(WantT.mk ((i : Int) - 1) (Xk v.a v.b v.c v.p v.q))] :: ns) = ns2 at hc2 ⊢) | (refine Cy (MJ (l := [4, 5, 6, 7, 8, 9]) (eu := 56) (ec := 63) (eg := 73) (L := ws) (J := J1) (b4 := ⟨[[.fsl []]], 1, 26, true⟩) (fr' := [(4, .ref 4 0 0), (5, .ref 12 0 0), (6, .osl 500000 us.length), (7, .int .i64 i), (8, .int .i64 k), (9, .ref (500001 + i) k 0)]) (row := [.int .i64 v.a, .int .i64 v.b, .int .i64 v.c, .str v.p, .str v.q, .int .i64 sh, .osl 75 (0 + (ns.map (fun r => [Q6 r])).length), .fsl []]) (p := false) 75 (Sj (CandT.mk v sh ns [])) (kp6 rfl rfl rfl rfl rfl rfl) rfl hP.keys hi hk QF (fun h => by cases h) (NM (Qn Wa QF) Wq) (fun z hz => (hP.pure hi z hz).1) ⟨rfl, rfl, rfl⟩ (fun j hj hne => (Qn Wa (Qn Wa (Qn Wa (G5 hP.keys hj))))) Wc Wc Wc rfl Wg (by intro j hj; repeat (first | exact Z2 hP.keys Wa Wa Wa (.inr Wa) | refine Zy Wa ?_)) Wa (by intro p hp j hj; simp only [Qim, Qil, or_false] at hp; rcases hp with rfl | rfl | rfl | rfl | rfl | rfl <;> first | (simp [D.ids, D.sid] at hj; done) | (simp [D.ids, D.sid] at hj; subst hj; first | exact .inl rfl | exact .inr (.inl rfl) | exact .inr (.inr (.inl rfl)) | exact .inr (.inr (.inr ⟨us[i], Qip hi, (hP.keys i hi).symm⟩))))) ?_; have hc2 : JL us0.length (CandT.mk v sh ns []) := (by rw [<- hl]; exact FY hv hns Wg); generalize hns2 : ns = ns2 at hc2 ⊢)
    generalize hus2 : Gq us i k (Sj (CandT.mk v sh ns2 [])) = us2
    have hP2 : Prog us0.length us2 i (k + 1) := hus2 ▸ hP.put hi hk ⟨_, rfl, hc2⟩
    have hl2 : us2.length = us.length := by rw [<- hus2, ZC]
    have hi2 : i < us2.length := Wa
    have hk2 : k < us2[i].cs.length := Tu hi hk hus2 hi2
    have hz2 : us2[i].cs[k] = Sj (CandT.mk v sh ns2 []) := Tt hi hk hus2.symm hi2 hk2
    refine Zq fun K hK => Qa Z (YI (HQ (I := J1) Z Nz hL Wa) (Yr Z Z (hK _ _ (Q4 (kp7 Z Z Z Z Z Z Z) ?_))))
    refine Xz Z (fun h5 => ?_) (fun h5 => ?_)
    ·rw [h5]
     simp only [qA] at h5
     refine Z6 fun K hK => mv2 Z Z (Qa Z ?_)
     obtain ⟨xb, J3, hxb, hcb⟩ := Dt (H := (12, gB ws (nxI J1) 73) :: wA (us2) 56 63 73 ws (J1) ⟨[[.fsl []]], 1, 26, true⟩) QF (DO hP2.keys hP2.fam).cons ((JF hP2.keys rfl).pr rfl) hL Wa Wa
     refine YI (hcb _ _ (by rw [hl2]; rfl) (fun _ _ h => h)) ?_
     refine QJ Z (by repeat (first | exact Z2 hU.keys Wa Wa Wa (.inl Wa) | exact Z2 hP.keys Wa Wa Wa (.inl Wa) | exact Z2 hP2.keys Wa Wa Wa (.inl Wa) | refine Zy Wa ?_)) ?_
     refine Yf Z Z (Qf Z (Zw (Qn Wa (Qn Wa (Qn Wa (G5 hP2.keys hi2))))) (QZ Z (Qn Wa (Qn Wa (Qn Wa (G5 hP2.keys hi2)))) (Qdk hk2 hz2) Z Z Z Z Z (hK _ ?_)))
     refine Qg (Zd (kp5 Z Z Z Z Z) (Z6 fun K hK => Qa Z (QU Z Z Wb (Qa Z (hK _ ?_)))))
     refine Qi (Gq us2 i k (Sj (CandT.mk v sh ns2 [xb])), J3, k + 1) ?_ ?_ ?_
     ·exact MJ (l := [4, 5, 6, 7, 8]) (row := [.int .i64 v.a, .int .i64 v.b, .int .i64 v.c, .str v.p, .str v.q, .int .i64 sh, Q9 ns2, .osl 85 1]) (p := false) 85 (Sj (CandT.mk v sh ns2 [xb])) (kp5 rfl rfl rfl rfl rfl) (by rw [ZC, hl2] <;> rfl) hP2.keys hi2 hk2 QF (fun h => by cases h) (Bl (Qn Wa QF) rfl) (fun z hz => (hP2.pure hi2 z hz).1) ⟨rfl, rfl, rfl⟩ (fun j hj hne => (Qn Wa (Qn Wa (Qn Wa (Qn Wa (G5 hP2.keys hj)))))) Wc Wc Wc rfl Wg (by intro j hj; repeat (first | exact Z2 hP2.keys Wa Wa Wa (.inr Wa) | refine Zy Wa ?_)) Wa (by intro p hp j hj; simp only [Qim, Qil, or_false] at hp; rcases hp with rfl | rfl | rfl | rfl | rfl <;> first | (simp [D.ids, D.sid] at hj; done) | (simp [D.ids, D.sid] at hj; subst hj; first | exact .inl rfl | exact .inr (.inl rfl) | exact .inr (.inr (.inl rfl)) | exact .inr (.inr (.inr ⟨us2[i], Qip hi2, (hP2.keys i hi2).symm⟩))))
     ·exact hP2.again hi2 hk2 ⟨_, rfl, SK hc2 (by have := hxb; rwa [hl2, hl] at this)⟩
     ·show TZ (Gq us2 i k _) i - (k + 1) < TZ us i - k; rw [JX, <- hus2, JX, Kk hi]; omega
    ·rw [h5]
     simp only [qA] at h5
     refine XQ (Qg (Zd (kp5 Z Z Z Z Z) (Z6 fun K hK => Qa Z (QU Z Z Wb (Qa Z (hK _ ?_))))))
     refine Qi (us2, nxI J1, k + 1) ?_ ?_ ?_
     ·exact le_trans (QV (l := [4, 5, 6, 7, 8]) (kp5 rfl rfl rfl rfl rfl)) (KW (by rw [hl2] <;> rfl) Qfs)
     ·exact hP2
     ·show TZ us2 i - (k + 1) < TZ us i - k; rw [<- hus2, JX, Kk hi]; omega
  ·rw [h2]
   simp only [qA] at h2
   try (have hk : k < us[i].cs.length := Wa; obtain ⟨v, sh, hz, hv⟩ := hP.fresh i hi k hk Wa)
   refine Nl (XY (Qs (QB (Qg (Zd (kp4 Z Z Z Z) (Z6 fun K hK => Qa Z (QU Z Z Wb (Qa Z (hK _ ?_)))))))))
   refine Qi (us, J, i + 1) ?_ ?_ ?_
   ·exact QV (l := [4, 5, 6, 7]) (kp4 rfl rfl rfl rfl)
   ·dsimp only
    exact ⟨hP.next hi Wa, Wa, Wa⟩
   ·show us0.length - (i + 1) < us0.length - i; omega
 ·rw [h1]
  simp only [qA] at h1
  refine Nl (XY (Qs (QB (Zd (kp2 Z Z) ?_))))
  have hend : i = usA.length := by have := hPA.1.len.1; omega
  obtain ⟨w, hwl, hwm, hle⟩ := Qbj (eu := 56) (ec := 63) (eg := 73) (L := ws) (J := JA) (b4 := ⟨[[.fsl []]], 1, 26, true⟩) (hend ▸ hPA.1) rfl
  refine Cy (hle (fr' := [(4, .ref 4 0 0), (6, .osl 500000 usA.length)]) (l := [4, 6]) (kp2 rfl rfl) rfl (by intro p hp j hj; simp only [Qim, Qil, or_false] at hp; rcases hp with rfl | rfl <;> (simp [D.ids, D.sid] at hj; subst hj; first | exact .inl rfl | exact .inr rfl))) (Zq fun K hK => Qa rfl (QY rfl rfl (QZ rfl rfl rfl rfl rfl rfl rfl rfl (hK _ _ (Q4 (kp1 rfl) ?_)))))
  refine Sx ?_
  refine ⟨_, ⟨w, hwm, rfl⟩, ?_⟩
  exact ZE (cs := [.osl 500000 usA.length]) (ds := [.sl (w.map Ym)]) rfl rfl rfl rfl (by simp [XR, D.fz, D.fzS, GF, lk, D.can, D.canS, hwl])
end Go.Proofs
namespace M25
open Go Go.Abs M3
/-! ### One without terms -/
open M3
def J7 (e a b c : Int) (p q : List UInt8) (f : Bool) : Bool := !decide (e = 0) || (!f && decide (p = []) && !(decide (a = 0) && (decide (b = 0) && (decide (c = 0) && (decide (p = []) && (decide (q = []) && true))))))
def Xd (x : Cu) : Bool := J7 x.e x.a x.b x.c x.p x.q x.f
theorem Qci {e a b c : Int} {p q : List UInt8} {f : Bool} (h : X1 e a b c p q f = true) : q = [] := by
 unfold X1 at h
 split at h
 ·simp at h; exact h.2
 ·simp at h; exact h.1.2.2.2.2.2
theorem FQ {x : Cu} (h : x.q = []) : Xd x = Xm x := by
 rw [Xd, Xm, J7, Nv, Nt, h]
 cases decide (x.e = 0) <;> cases x.f <;> cases hp : decide (x.p = []) <;> cases decide (x.a = 0) <;> cases decide (x.b = 0) <;> cases decide (x.c = 0) <;> simp_all
theorem FN {x : Cu} (h : Xm x = true) : Xd x = true := by
 rw [Xm, Nv, Nt] at h
 rw [Xd, J7]
 revert h
 cases decide (x.e = 0) <;> cases x.f <;> cases hp : decide (x.p = []) <;> cases decide (x.a = 0) <;> cases decide (x.b = 0) <;> cases decide (x.c = 0) <;> simp
theorem Qe4 {l : List (Cu × Cu)} (h : Hm l = true) {s : Cu × Cu} (hs : s ∈ l) : s.1.q = [] /\ s.2.q = [] := by
 obtain ⟨i, hi, rfl⟩ := List.mem_iff_getElem.1 hs
 have := Qiu.1 h i (QiH.2 hi)
 rw [Li hi, Qio] at this
 have h1 := this.1
 simp only [GM, MX, Qio] at h1
 exact ⟨Qci h1.1.1, Qci h1.1.2⟩
theorem NY {s : List (Cu × Cu) × List (Cu × Cu)} {i : Nat} (hi : s.1.length <= i) (h : (s.1.take i).all (fun x => Xd x.1 && Xd x.2) = true) : GZ s = (Hm s.1 && Hm s.2) := by
 rw [QiA hi] at h
 rw [GZ]
 cases h1 : Hm s.1 with
 | false => rfl
 | true =>
  have : (s.1.all fun x => Xm x.1 && Xm x.2) = true := by
   rw [Qiu] at h ⊢
   intro x hx
   obtain ⟨q1, q2⟩ := Qe4 h1 hx
   rw [<- FQ q1, <- FQ q2]
   exact h x hx
  rw [this, Bool.true_and, Bool.and_true]
theorem J8 {s : List (Cu × Cu) × List (Cu × Cu)} {i : Nat} (hi : i < s.1.length) (h : Xd s.1[i].1 = false \/ Xd s.1[i].2 = false) : GZ s = false :=
 JD hi (h.imp (fun h => by cases e : Xm s.1[i].1 with
  | false => rfl
  | true => rw [FN e] at h; cases h) (fun h => by cases e : Xm s.1[i].2 with
  | false => rfl
  | true => rw [FN e] at h; cases h))
end M25
namespace Go.Abs
open Go
/-! ### Cells told otherwise -/
theorem CellsC.setW {g : Gh} {c : Array Value} {d d' : D} (hd : d'.isCell = true) (himp : ∀ v, RepS g d v -> RepS g d' v) : ∀ {off : Nat} {row : List D} {j : Nat}, CellsC g c off row -> row[j]? = some d -> CellsC g c off (row.set j d')
 | _, [], j, _, h => by simp at h
 | off, x :: row, 0, hc, h => by
  simp at h; subst h
  simp only [List.set_cons_zero, CellsC] at hc ⊢
  obtain ⟨⟨h1, y, h2, h3⟩, h4⟩ := hc
  exact ⟨⟨hd, y, h2, himp y h3⟩, h4⟩
 | off, x :: row, j + 1, hc, h => by
  simp only [List.set_cons_succ, CellsC] at hc ⊢
  exact ⟨hc.1, CellsC.setW hd himp hc.2 (by simpa using h)⟩
theorem RowsC.setW {g : Gh} {c : Array Value} {d d' : D} (hd : d'.isCell = true) (himp : ∀ v, RepS g d v -> RepS g d' v) : ∀ {off : Nat} {rows : List (List D)} {i j : Nat} {row : List D}, RowsC g c off rows -> rows[i]? = some row -> row[j]? = some d -> RowsC g c off (rows.set i (row.set j d'))
 | _, [], i, _, _, _, h, _ => by simp at h
 | off, r :: rows, 0, j, row, hc, h, hj => by
  simp at h; subst h
  simp only [List.set_cons_zero, RowsC, List.length_set] at hc ⊢
  exact ⟨CellsC.setW hd himp hc.1 hj, hc.2⟩
 | off, r :: rows, i + 1, j, row, hc, h, hj => by
  simp only [List.set_cons_succ, RowsC] at hc ⊢
  exact ⟨hc.1, RowsC.setW hd himp hc.2 (by simpa using h) hj⟩
section
variable {fr : Qii} {H : Qih}
theorem QdA (k esz et : Nat) (hk : lk H k = none) : St.le ⟨fr, H⟩ ⟨fr, (k, ⟨[], esz, et, true⟩) :: H⟩ := fun E g a w r =>
 let ⟨g', _, _, r'⟩ := r.allocEmpty (esz := esz) (et := et) (t := k) hk
 ⟨g', r'⟩
theorem Qbp {rows : List (List D)} {row : List D} {d' : D} {i j : Nat} (hrow : rows[i]? = some row) {r : List D} (hr : r ∈ rows.set i (row.set j d')) {x : D} (hx : x ∈ r) : x = d' \/ ∃ r0 ∈ rows, x ∈ r0 := by
 rcases List.mem_or_eq_of_mem_set hr with h | rfl
 ·exact .inr ⟨r, h, hx⟩
 ·rcases List.mem_or_eq_of_mem_set hx with h | rfl
  ·exact .inr ⟨row, List.mem_of_getElem? hrow, h⟩
  ·exact .inl rfl
theorem Qbi {kk i j : Nat} {b : Box} {row : List D} {d : D} (d' : D) (pr' : Bool) (hb : lk H kk = some b) (hrow : b.rows[i]? = some row) (hj : row[j]? = some d) (hd : d'.isCell = true) (himp : ∀ (g : Gh) v, RepS g d v -> RepS g d' v)
  (hs : ∀ x ∈ d'.sid, (lk H x).isSome = true) (hpr : pr' = true -> ∀ r ∈ b.rows.set i (row.set j d'), ∀ x ∈ r, x.sid = []) :
  St.le ⟨fr, H⟩ ⟨fr, (kk, { b with rows := b.rows.set i (row.set j d'), pr := pr' }) :: H⟩ := fun E g a w r => by
 have hsome : ∀ k, (lk ((kk, ({ b with rows := b.rows.set i (row.set j d'), pr := pr' } : Box)) :: H) k).isSome = (lk H k).isSome := fun k => by
  rw [Qm]; split
  ·rename_i e; subst e; rw [hb]; rfl
  ·rfl
 refine ⟨g, r.nt, r.df, r.fr, fun t x h k hk => (hsome k).trans (r.wfF t x h k hk), fun k b' h x hx => (hsome x).trans ?_, fun k b' h => ?_, fun k k' b1 b2 B e e' h1 h2 => ?_, r.kr, r.ext, r.kx, fun k hk => let ⟨h1, h2, h3, h4⟩ := r.kp k hk; ⟨h1, h2, h3, (hsome k).trans h4⟩⟩
 ·rw [Qm] at h
  split at h
  ·cases h
   simp only [Box.ids] at hx
   split at hx
   ·cases hx
   ·obtain ⟨r0, hr0, hx⟩ := Qir.1 hx
    obtain ⟨y, hy, hxy⟩ := Qir.1 hx
    rcases Qbp hrow hr0 hy with e | ⟨r1, h1, h2⟩
    ·rw [e] at hxy; exact hs x hxy
    ·exact r.wfB kk b hb r1 h1 y h2 x hxy
  ·exact r.wfH k b' h x hx
 ·rw [Qm] at h
  split at h
  ·rename_i e; subst e; cases h
   obtain ⟨h1, h2, h3⟩ := r.bx kk b hb
   refine ⟨fun r0 hr0 => ?_, hpr, ?_⟩
   ·rcases List.mem_or_eq_of_mem_set hr0 with h | rfl
    ·exact h1 r0 h
    ·rw [List.length_set]; exact h1 row (List.mem_of_getElem? hrow)
   ·rcases h3 with ⟨h3, _⟩ | ⟨h3, B, c, q1, q2, q3, q4, q5⟩
    ·rw [h3] at hrow; simp at hrow
    ·exact .inr ⟨fun h => h3 (by simpa using congrArg List.length h), B, c, q1, q2, q3, RowsC.setW hd (himp g) q4 hrow hj, q5⟩
  ·exact r.bx k b' h
 ·have hx : ∀ k b', lk ((kk, ({ b with rows := b.rows.set i (row.set j d'), pr := pr' } : Box)) :: H) k = some b' -> ∃ b0, lk H k = some b0 := fun k b' h => by
   have := hsome k
   rw [h] at this
   exact Qiq.1 this.symm
  obtain ⟨_, h1⟩ := hx k b1 h1
  obtain ⟨_, h2⟩ := hx k' b2 h2
  exact r.inj k k' _ _ B e e' h1 h2
theorem QdD {k : Nat} (g : Gh) (v : Value) (h : RepS g (.fsl []) v) : RepS g (.osl k 0) v := by
 simp only [RepS, RepP] at h
 obtain ⟨a, rfl, _⟩ := h
 exact ⟨a, 0, rfl, Nat.le_refl _, .inl ⟨rfl, rfl⟩⟩
end
end Go.Abs
namespace Go.Abs
abbrev gD : D := .ptr [.int .i64 0, .int .i64 0, .int .i64 0, .str [], .str []]
end Go.Abs
