/- Part 4 of the means of the proof: a verified abstract evaluator, the prepared functions, and contracts of functions. It states nothing of the claim by itself. -/
import Derived.Test.YtoajjnegidhknaaGreatDoorB3
set_option maxRecDepth 4000
set_option linter.unusedSimpArgs false
set_option linter.unusedVariables false
namespace Go.Proofs
open Go Go.Abs M3
theorem Rr {a b : List UInt8} (ha : a.length <= 1000000) (hb : b.length <= 1000000) : Ok Tryz.prog 148 [.str a, .str b] (.int .i64 (TD a b)) := by
 refine Ok.ofT ZL Tryz.func148 Qhb (QiM Z) ?_
 show TW _ _ tf148.body _ _
 refine Qb fun K hK => Qa Z (kc2 hK Z Z ?_)
 refine Qb fun K hK => Qa Z (Qv (Xx Wa) Z Z (.inr Z) (Qa Z (Qv (Xx Wa) Z Z (.inr Z) (mv2 Z Z (kc4 hK Z Z Z Z ?_)))))
 refine QB ?_ -- 0
 refine Qb fun K hK => mv2 Z Z ?_
 refine Qp (g := 16) Z (fun h1 => ?_) (fun h1 => ?_)
 ·rw [h1]
  refine Qd Z (Qa Z (Qg Z Z (kc5 hK Z Z Z Z Z ?_)))
  refine Qs Z (fun h2 => ?_) (fun h2 => ?_)
  ·rw [h2]
   refine Qb fun K hK => Qa Z (Qv (Kg Wa) Z Z (.inr Z) (Qa Z (Q0 Z Z (Q0 Z Z (mv2 Z Z (kc2 hK Z Z ?_))))))
   refine Qb fun K hK => Qa Z (Qv (Kg Wa) Z Z (.inr Z) (Qa Z (Q0 Z Z (Q0 Z Z (mv2 Z Z (kc2 hK Z Z ?_))))))
   refine Qb fun K hK => mv2 Z Z (Qv (ZM) Z Z (.inr Z) (Qa Z (kc1 hK Z ?_)))
   refine Qo (Qj (Qx Z ?_))
   (simp [TD, h1, h2]; done)
  ·rw [h2]
   refine Qq (ks4 Z Z Z Z ?_)
   refine QB ?_ -- 1
   refine Qb fun K hK => mv2 Z Z (QeN Z Z (kc4 hK Z Z Z Z ?_))
   refine Qs Z (fun h3 => ?_) (fun h3 => ?_)
   ·rw [h3]
    simp only [qB] at h3
    refine QB ?_ -- 2
    refine Qb fun K hK => Qa Z (kc1 hK Z ?_)
    refine Zl Z (Qb fun K hK => Qa Z (kc1 hK Z ?_))
    refine Qo (Qj (Qj (Qx Z ?_)))
    (simp [TD, h1, h2, h3]; done)
   ·rw [h3]
    simp only [qB] at h3
    refine Qq (ks2 Z Z (Qb fun K hK => mv2 Z Z (Qv (X3) Z Z (.inr Z) (Qa Z (kc1 hK Z ?_)))))
    refine Qo (Qx Z ?_)
    (repeat clear hK K); (simp_all [TD]; done)
 ·rw [h1]
  refine Xd Z (Qg Z Z (kc5 hK Z Z Z Z Z ?_))
  refine Zk Z (Qq (ks4 Z Z Z Z ?_))
  refine QB ?_ -- 1
  refine Qb fun K hK => mv2 Z Z (QeN Z Z (kc4 hK Z Z Z Z ?_))
  refine Qs Z (fun h4 => ?_) (fun h4 => ?_)
  ·rw [h4]
   simp only [qB] at h4
   refine QB ?_ -- 2
   refine Qb fun K hK => Qa Z (kc1 hK Z ?_)
   refine Zk Z (Qq (QX (Zg) (Qb fun K hK => Qa Z (kc1 hK Z ?_))))
   refine Qo (Qj (Qx Z ?_))
   (repeat clear hK K); (simp_all [TD]; done)
  ·rw [h4]
   simp only [qB] at h4
   refine Qq (ks2 Z Z (Qb fun K hK => mv2 Z Z (Qv (X3) Z Z (.inr Z) (Qa Z (kc1 hK Z ?_)))))
   refine Qo (Qx Z ?_)
   (repeat clear hK K); (simp_all [TD]; done)
theorem Rq {s : List UInt8} (hl : s.length <= 1000000) : Ok Tryz.prog 115 [.str s] (.bool (S4 s)) := by
 refine Ok.ofT ZL Tryz.func115 QgE (QiM Z) ?_
 show TW _ _ tf115.body _ _
 refine Qb fun K hK => Qa Z (kc1 hK Z ?_)
 refine QB ?_ -- 0
 refine Qb fun K hK => Qa Z (Qv (Kj Wa) Z Z (.inr Z) (ZB Z (kc2 hK Z Z ?_)))
 refine Qs Z (fun h1 => ?_) (fun h1 => ?_)
 ·rw [h1]
  simp only [qB, Qy] at h1
  refine Qb fun K hK => Qa Z (kc1 hK Z ?_)
  refine Qo (Qj (Qi Z ?_))
  (simp [S4, h1]; done)
 ·rw [h1]
  simp only [qB, Qy] at h1
  refine Qq (ks1 Z ?_)
  refine QB ?_ -- 1
  refine Qb fun K hK => Qa Z (Qv (Je Wa) Z Z (.inl Z) (Zd Z Z (Qa Z (kc3 hK Z Z Z ?_))))
  refine QC ?_
  refine Zs (ι := Nat) (fun i => ⟨[(11, .sl (YU (Za s 46))), (12, .int .i64 (Za s 46).length), (13, .int .i64 i)], []⟩) (fun i => i <= (Za s 46).length /\ ((Za s 46).take i).all PA = true) (fun i => (Za s 46).length - i) 0 ?_ ?_ ?_
  ·exact QW (l := [11, 12, 13]) (kp3 rfl rfl rfl) Qn (by simp [Qy]) rfl rfl
  ·exact ⟨QiY _, rfl⟩
  intro i hI
  have sl := FW (s := s) (c := 46)
  refine Qb fun K hK => ZT Z Z (kc4 hK Z Z Z Z ?_)
  refine QB ?_ -- 2
  refine Qs Z (fun h2 => ?_) (fun h2 => ?_)
  ·rw [h2]
   simp only [qB, Qy] at h2
   refine Qq (ks3 Z Z Z ?_)
   refine QB ?_ -- 3
   refine QC (Qb fun K hK => QJ Z Z Z Wa (Jg Wa) Z (QA Z Z Z (Qa Z (kc4 hK Z Z Z Z ?_))))
   refine Qb fun K hK => Qa Z (Qv (Kg (Ji Wa hl)) Z Z (.inr Z) (Qa Z (Q0 Z Z (Q0 Z Z (mv2 Z Z (kc5 hK Z Z Z Z Z ?_))))))
   refine Qb fun K hK => Qa Z (Qv (Xx (Ji Wa hl)) Z Z (.inr Z) (Qa Z ?_))
   refine Qp (g := 24) Z (fun h3 => ?_) (fun h3 => ?_)
   ·rw [h3]
    refine Qd Z (Qa Z (Qd Z (ZB Z (Qg Z Z (kc4 hK Z Z Z Z ?_)))))
    refine Qs Z (fun h4 => ?_) (fun h4 => ?_)
    ·rw [h4]
     simp only [qB, Qy] at h4
     refine Qb fun K hK => Qa Z (kc1 hK Z ?_)
     refine Qo (Qu (Qj (QV (Qu (Qj (Qi Z ?_))))))
     exact (QdV (i := i) Wa (by simp [PA, h1, h2, h3, h4])).symm
    ·rw [h4]
     simp only [qB, Qy] at h4
     refine Qq (Qh (ks3 Z Z Z (QN fun K hK => Q2 Z Z Wb (Qa Z (hK _ ?_)))))
     refine Qk (i + 1) ?_ ?_ ?_
     ·exact Q4 (kp3 rfl rfl rfl)
     ·exact ⟨Wa, Zn Wa hI.2 (by simp [PA, h1, h2, h3, h4])⟩
     ·omega
   ·rw [h3]
    refine gn2 Z Z (Qg Z Z (kc4 hK Z Z Z Z ?_))
    refine Zk Z (Qq (Qh (ks3 Z Z Z (QN fun K hK => Q2 Z Z Wb (Qa Z (hK _ ?_))))))
    refine Qk (i + 1) ?_ ?_ ?_
    ·exact Q4 (kp3 rfl rfl rfl)
    ·exact ⟨Wa, Zn Wa hI.2 (by simp [PA, h1, h2, h3])⟩
    ·omega
  ·rw [h2]
   simp only [qB, Qy] at h2
   refine Q7 (QF (Qw (QE (QX (Zg) (Qb fun K hK => Qa Z (kc1 hK Z ?_))))))
   refine Qo (Qi Z ?_)
   exact (QbY (i := i) Wh Wa hI.2).symm
theorem YS {a b c : Int} {p q : List UInt8} (hp : p.length <= 1000000) (hq : q.length <= 1000000) : Ok Tryz.prog 97 [.agg [.int .i64 a, .int .i64 b, .int .i64 c, .str p, .str q]] (.bool (Ks a b c p q)) := by
 refine Ok.ofT ZL Tryz.func97 QiF (QiM Z) ?_
 show TW _ _ tf97.body _ _
 refine Qb fun K hK => Zi Z Z Z (Qa Z (kc1 hK Z ?_))
 refine Qb fun K hK => Qe Z Z (QA Z Z Z (Qv (Ki) Z Z (.inr Z) (Qa Z ?_)))
 refine Qp (g := 6) Z (fun h1 => ?_) (fun h1 => ?_)
 ·rw [h1]
  refine Qd Z (Qe Z Z (Qd Z (QA Z Z Z (Qd Z (Qv (Ki) Z Z (.inr Z) (Qg Z Z (Qa Z ?_)))))))
  refine Qp (g := 11) Z (fun h2 => ?_) (fun h2 => ?_)
  ·rw [h2]
   refine Qd Z (Qe Z Z (Qd Z (QA Z Z Z (Qd Z (Qv (Ki) Z Z (.inr Z) (Qg Z Z (Qa Z ?_)))))))
   refine Qp (g := 16) Z (fun h3 => ?_) (fun h3 => ?_)
   ·rw [h3]
    refine Qd Z (Qe Z Z (Qd Z (QA Z Z Z (Qd Z (KH Z Z (Qd Z (Qa Z ?_)))))))
    refine Qp (g := 20) Z (fun h4 => ?_) (fun h4 => ?_)
    ·rw [h4]
     simp only [qB] at h4
     refine gn3 Z Z Z (Qd Z (Qg Z Z (Qg Z Z (Qa Z (Qd Z (Qe Z Z (Qd Z (QA Z Z Z (Qd Z ?_)))))))))
     refine KH Z Z (Qd Z (Qa Z ?_))
     refine Qp (g := 30) Z (fun h5 => ?_) (fun h5 => ?_)
     ·rw [h5]
      simp only [qB] at h5
      refine gn3 Z Z Z (Qd Z (Qg Z Z (Qg Z Z (Qa Z (kc1 hK Z ?_)))))
      refine Qo (Qi Z ?_)
      simp [Ks, YO, Xk, h1, h2, h3, h4, h5]
     ·rw [h5]
      simp only [qB] at h5
      refine Qd Z (Qe Z Z (Qd Z (QA Z Z Z (Qd Z (Qv (Kj Wa) Z Z (.inr Z) (Qd Z (Qg Z Z (Qg Z Z (Qa Z (kc1 hK Z ?_))))))))))
      refine Qo (Qi Z ?_)
      simp [Ks, YO, Xk, h1, h2, h3, h4, h5]
    ·rw [h4]
     simp only [qB] at h4
     refine Qd Z (Qe Z Z (Qd Z (QA Z Z Z (Qd Z (Qv (Rq Wa) Z Z (.inr Z) (Qd Z (Qg Z Z (Qg Z Z (Qa Z ?_)))))))))
     refine Qp (g := 26) Z (fun h6 => ?_) (fun h6 => ?_)
     ·rw [h6]
      refine Qd Z (Qe Z Z (Qd Z (QA Z Z Z (Qd Z (KH Z Z (Qd Z (Qa Z ?_)))))))
      refine Qp (g := 30) Z (fun h7 => ?_) (fun h7 => ?_)
      ·rw [h7]
       simp only [qB] at h7
       refine gn3 Z Z Z (Qd Z (Qg Z Z (Qg Z Z (Qa Z (kc1 hK Z ?_)))))
       refine Qo (Qi Z ?_)
       simp [Ks, YO, Xk, h1, h2, h3, h4, h6, h7]
      ·rw [h7]
       simp only [qB] at h7
       refine Qd Z (Qe Z Z (Qd Z (QA Z Z Z (Qd Z (Qv (Kj Wa) Z Z (.inr Z) (Qd Z (Qg Z Z (Qg Z Z (Qa Z (kc1 hK Z ?_))))))))))
       refine Qo (Qi Z ?_)
       simp [Ks, YO, Xk, h1, h2, h3, h4, h6, h7]
     ·rw [h6]
      refine gn4 Z Z Z Z (QI Z (QI Z (QI Z (Xd Z (Qg Z Z (Qa Z (kc1 hK Z ?_)))))))
      refine Qo (Qi Z ?_)
      simp [Ks, YO, Xk, h1, h2, h3, h4, h6]
   ·rw [h3]
    refine gn4 Z Z Z Z (QI Z (QI Z (QI Z (Xd Z (Qg Z Z (Qa Z (gn2 Z Z ?_)))))))
    refine gn2 Z Z (QI Z (QI Z (QI Z (Xd Z (Qg Z Z (Qa Z (kc1 hK Z ?_)))))))
    refine Qo (Qi Z ?_)
    simp [Ks, YO, Xk, h1, h2, h3]
  ·rw [h2]
   refine gn3 Z Z Z (Qg Z Z (Qa Z (gn4 Z Z Z Z (QI Z (QI Z (QI Z ?_))))))
   refine Xd Z (Qg Z Z (Qa Z (gn4 Z Z Z Z (QI Z (QI Z (QI Z (Xd Z (Qg Z Z ?_))))))))
   refine Qa Z (kc1 hK Z ?_)
   refine Qo (Qi Z ?_)
   simp [Ks, YO, Xk, h1, h2]
 ·rw [h1]
  refine gn3 Z Z Z (Qg Z Z (Qa Z (gn3 Z Z Z (Qg Z Z (Qa Z (gn2 Z Z ?_))))))
  refine gn2 Z Z (QI Z (QI Z (QI Z (Xd Z (Qg Z Z (Qa Z (gn4 Z Z Z Z ?_)))))))
  refine QI Z (QI Z (QI Z (Xd Z (Qg Z Z (Qa Z (kc1 hK Z ?_))))))
  refine Qo (Qi Z ?_)
  simp [Ks, YO, Xk, h1]
theorem Kv {a b c : Int} {p q : List UInt8} (hp : p.length <= 1000000) (hq : q.length <= 1000000) {a' b' c' : Int} {p' q' : List UInt8} (hp' : p'.length <= 1000000) (hq' : q'.length <= 1000000) : Ok Tryz.prog 143 [.agg [.int .i64 a, .int .i64 b, .int .i64 c, .str p, .str q], .agg [.int .i64 a', .int .i64 b', .int .i64 c', .str p', .str q']] (.int .i64 (Nd a b c p q a' b' c' p' q')) := by
 refine Ok.ofT ZL Tryz.func143 Qg6 (QiM Z) ?_
 show TW _ _ tf143.body _ _
 refine Qb fun K hK => Zi Z Z Z (Zi Z Z Z (Qa Z (kc2 hK Z Z ?_)))
 refine QB ?_ -- 0
 refine Qb fun K hK => QL (ds0 := [13, 12, 11, 10, 9, 8, 7, 6, 5, 4, 3, 2, 1, 0]) (cs := [_, _, _, _, _]) Z Z Z Z Z Z (Q5 (ds0 := [12, 11, 10, 9, 8, 7, 6, 5, 4, 3, 2, 1, 0]) (YS Wa Wa) Z Z (.inr Z) Z Z (ZB Z (Qa Z ?_)))
 refine Qp (g := 13) Z (fun h1 => ?_) (fun h1 => ?_)
 ·rw [h1]
  simp only [qB, Qy] at h1
  refine gn3 Z Z Z (Qg Z Z (Qa Z (gn4 Z Z Z Z (Xd Z (Qg Z Z (kc3 hK Z Z Z ?_))))))
  refine Zl Z (Qb fun K hK => Qa Z (kc1 hK Z ?_))
  refine Qo (Qj (Qx Z ?_))
  (simp [Nd, h1]; done)
 ·rw [h1]
  simp only [qB, Qy] at h1
  refine Qd Z (QL (ds0 := [9, 8, 7, 6, 5, 4, 3, 2, 1, 0]) (cs := [_, _, _, _, _]) Z Z Z Z Z Z (Qd Z (Q5 (ds0 := [8, 7, 6, 5, 4, 3, 2, 1, 0]) (YS Wa Wa) Z Z (.inr Z) Z Z (Qd Z (ZB Z (Qg Z Z (Qa Z ?_)))))))
  refine Qp (g := 18) Z (fun h2 => ?_) (fun h2 => ?_)
  ·rw [h2]
   simp only [qB, Qy] at h2
   refine gn4 Z Z Z Z (Xd Z (Qg Z Z (kc3 hK Z Z Z ?_)))
   refine Zl Z (Qb fun K hK => Qa Z (kc1 hK Z ?_))
   refine Qo (Qj (Qx Z ?_))
   (simp [Nd, h1, h2]; done)
  ·rw [h2]
   simp only [qB, Qy] at h2
   refine Qd Z (QL (ds0 := [4, 1, 0]) (cs := [_, _, _, _, _]) Z Z Z Z Z Z (Qd Z (Q5 (ds0 := [1, 0]) (GI) Z Z (.inl Z) Z Z (Qd Z (QL (ds0 := [2, 1, 0]) (cs := [_, _, _, _, _]) Z Z Z Z Z Z (Qd Z (Q5 (ds0 := [1, 0]) (GI) Z Z (.inl Z) Z Z (Qd Z (Nr Z Z Z (Qg Z Z (kc3 hK Z Z Z ?_)))))))))))
   refine Qs Z (fun h3 => ?_) (fun h3 => ?_)
   ·rw [h3]
    simp only [qB, Qy] at h3
    refine Qb fun K hK => Qa Z (kc1 hK Z ?_)
    refine Qo (Qj (Qx Z ?_))
    exact (Qe3 Wh Wh Wh).symm
   ·rw [h3]
    simp only [qB, Qy] at h3
    refine Qq (ks2 Z Z ?_)
    refine QB ?_ -- 1
    refine Qb fun K hK => Qe Z Z (QP (ds0 := [13, 2, 1, 0]) Z Z Z Z Z (Qe Z Z (QP (ds0 := [13, 2, 1, 0]) Z Z Z Z Z (Q5 (ds0 := [2, 1, 0]) (ZM) Z Z (.inr Z) Z Z (Qe Z Z (QP (ds0 := [8, 2, 1, 0]) Z Z Z Z Z (Qe Z Z (QP (ds0 := [8, 2, 1, 0]) Z Z Z Z Z (Q5 (ds0 := [2, 1, 0]) (ZM) Z Z (.inr Z) Z Z (Qe Z Z ?_))))))))))
    refine QP (ds0 := [3, 2, 1, 0]) Z Z Z Z Z (Qe Z Z (QP (ds0 := [3, 2, 1, 0]) Z Z Z Z Z (Q5 (ds0 := [2, 1, 0]) (ZM) Z Z (.inr Z) Z Z (QK Z Z (Q5 (ds0 := [0]) (Sz (l := [ZU a a', ZU b b', ZU c c']) Wd) Z Z (.inr Z) Z Z (Qa Z (kc3 hK Z Z Z ?_)))))))
    refine Qb fun K hK => Qa Z (YA Z Z (kc4 hK Z Z Z Z ?_))
    refine Qs Z (fun h4 => ?_) (fun h4 => ?_)
    ·rw [h4]
     simp only [qB, Qy] at h4
     refine Qb fun K hK => mv2 Z Z (kc1 hK Z ?_)
     refine Qo (Qj (Qx Z ?_))
     exact Qdo Wh Wh Wh
    ·rw [h4]
     simp only [qB, Qy] at h4
     refine Qq (ks2 Z Z ?_)
     refine QB ?_ -- 2
     refine Qb fun K hK => Qe Z Z (QA Z Z Z (KH Z Z (kc3 hK Z Z Z ?_)))
     refine Qs Z (fun h5 => ?_) (fun h5 => ?_)
     ·rw [h5]
      simp only [qB, Qy] at h5
      refine Qb fun K hK => Qa Z (kc1 hK Z ?_)
      refine Qo (Qj (Qx Z ?_))
      exact (Qa9 Wh Wh Wh Wh Wh).symm
     ·rw [h5]
      simp only [qB, Qy] at h5
      refine Qq (ks2 Z Z ?_)
      refine QB ?_ -- 3
      refine Qb fun K hK => Qe Z Z (QA Z Z Z (KH Z Z (kc3 hK Z Z Z ?_)))
      refine Qs Z (fun h6 => ?_) (fun h6 => ?_)
      ·rw [h6]
       simp only [qB, Qy] at h6
       refine Qb fun K hK => Qa Z (kc1 hK Z ?_)
       refine Qo (Qj (Qx Z ?_))
       exact (Qba Wh Wh Wh Wh Wh).symm
      ·rw [h6]
       simp only [qB, Qy] at h6
       refine Qq (ks2 Z Z (Qb fun K hK => Qe Z Z (QP (ds0 := [5, 1]) Z Z Z Z Z (Q5 (ds0 := [1]) (Je Wa) Z Z (.inl Z) Z Z (Qe Z Z (QP (ds0 := [2, 0]) Z Z Z Z Z (Q5 (ds0 := [0]) (Je Wa) Z Z (.inl Z) Z Z (mv2 Z Z (kc2 hK Z Z ?_)))))))))
       refine QB ?_ -- 4
       refine Qb fun K hK => Qa Z (kc3 hK Z Z Z ?_)
       refine QC ?_
       refine Zs (ι := Nat) (fun i => ⟨[(6, .sl (YU (Za p 46))), (7, .sl (YU (Za p' 46))), (8, .int .i64 i)], []⟩) (fun i => i <= (Za p 46).length /\ i <= (Za p' 46).length /\ Nd a b c p q a' b' c' p' q' = Dt ((Za p 46).drop i) ((Za p' 46).drop i)) (fun i => (Za p 46).length - i) 0 ?_ ?_ ?_
       ·exact QW (l := [6, 7, 8]) (kp3 rfl rfl rfl) Qn rfl rfl rfl
       ·exact ⟨QiY _, QiY _, Qdp Wh Wh Wh Wh Wh Wh⟩
       intro i hI
       have sl := FW (s := p) (c := 46)
       refine QB ?_ -- 5
       refine Qb fun K hK => mv2 Z Z (Zd Z Z (ZT Z Z (Qa Z ?_)))
       refine Qp (g := 61) Z (fun h7 => ?_) (fun h7 => ?_)
       ·rw [h7]
        simp only [qB, Qy] at h7
        refine Qd Z (Qa Z (Qd Z (Qa Z (Qd Z (Zd Z Z (Qd Z (ZT Z Z (Qg Z Z (kc4 hK Z Z Z Z ?_)))))))))
        refine Qs Z (fun h8 => ?_) (fun h8 => ?_)
        ·rw [h8]
         simp only [qB, Qy] at h8
         refine Qq (ks3 Z Z Z ?_)
         refine QB ?_ -- 6
         refine QC (Qb fun K hK => mv2 Z Z (QJ Z Z Z Wa (Jg Wa) Z (QP (ds0 := [1, 0]) Z Z Z Z Z (mv2 Z Z (QJ Z Z Z Wa (Jg Wa) Z (QP (ds0 := [1, 0]) Z Z Z Z Z (Q5 (ds0 := [0]) (Rr (Ji Wa hp) (Ji Wa hp')) Z Z (.inr Z) Z Z (Qa Z ?_))))))))
         refine kc4 hK Z Z Z Z ?_
         refine Qb fun K hK => Qa Z (YA Z Z (kc5 hK Z Z Z Z Z ?_))
         refine Qs Z (fun h9 => ?_) (fun h9 => ?_)
         ·rw [h9]
          simp only [qB, Qy] at h9
          refine Qb fun K hK => mv2 Z Z (kc1 hK Z ?_)
          refine Qo (Qu (Qj (QV (Qu (Qj (Qx Z ?_))))))
          rw [hI.2.2, Du Wa Wa Wh]
         ·rw [h9]
          simp only [qB, Qy] at h9
          refine Qq (Qh (ks3 Z Z Z (QN fun K hK => Qa Z (Q2 Z Z Wb (Qa Z (hK _ ?_))))))
          refine Qk (i + 1) ?_ ?_ ?_
          ·exact Q4 (kp3 rfl rfl rfl)
          ·exact ⟨Wa, Wa, by rw [hI.2.2, S5 Wa Wa Wh]⟩
          ·omega
        ·rw [h8]
         simp only [qB, Qy] at h8
         refine Q7 (QF (Qw (QE (ks2 Z Z (Qb fun K hK => Qa Z (Zd Z Z (Qa Z (Zd Z Z (Qv (ZM) Z Z (.inr Z) (Qa Z ?_))))))))))
         refine kc1 hK Z ?_
         refine Qo (Qx Z ?_)
         (rw [hI.2.2, NX Wa Wa Wa]; simp [Qy])
       ·rw [h7]
        simp only [qB, Qy] at h7
        refine gn4 Z Z Z Z (Qg Z Z (kc4 hK Z Z Z Z ?_))
        refine Zk Z (Q7 (QF (Qw (QE (ks2 Z Z (Qb fun K hK => Qa Z (Zd Z Z (Qa Z (Zd Z Z (Qv (ZM) Z Z (.inr Z) ?_))))))))))
        refine Qa Z (kc1 hK Z ?_)
        refine Qo (Qx Z ?_)
        (rw [hI.2.2, NX Wa Wa Wa]; simp [Qy])
theorem Hp {e a b c : Int} {p q : List UInt8} {f : Bool} (hp : p.length <= 1000000) (hq : q.length <= 1000000) : Ok Tryz.prog 141 [.agg [.int .i64 e, .int .i64 a, .int .i64 b, .int .i64 c, .str p, .str q, .bool f]] (.bool (XY e a b c p q f)) := by
 refine Ok.ofT ZL Tryz.func141 Qg4 (QiM Z) ?_
 show TW _ _ tf141.body _ _
 refine Qb fun K hK => Zi Z Z Z (Qa Z (kc1 hK Z ?_))
 refine QB ?_ -- 0
 refine Qb fun K hK => Qe Z Z (QA Z Z Z (Yw Z Z (Qa Z ?_)))
 refine Qp (g := 6) Z (fun h1 => ?_) (fun h1 => ?_)
 ·rw [h1]
  simp only [qB] at h1
  refine gn3 Z Z Z (Qg Z Z (kc2 hK Z Z ?_))
  refine Zl Z (Qb fun K hK => Qe Z Z (Qz (cs := [_, _, _, _, _]) Z Z Z Z (QT Z Z (Nr Z Z Z (Qa Z ?_)))))
  refine Qp (g := 15) Z (fun h2 => ?_) (fun h2 => ?_)
  ·rw [h2]
   simp only [qB] at h2
   refine Qd Z (Qe Z Z (Qd Z (QA Z Z Z (Qd Z (ZB Z (Qg Z Z (Qa Z (kc1 hK Z ?_))))))))
   refine Qo (Qj (Qi Z ?_))
   (repeat clear hK K); (simp_all [XY]; done)
  ·rw [h2]
   simp only [qB] at h2
   refine gn3 Z Z Z (Qg Z Z (Qa Z (kc1 hK Z ?_)))
   refine Qo (Qj (Qi Z ?_))
   (repeat clear hK K); (simp_all [XY]; done)
 ·rw [h1]
  simp only [qB] at h1
  refine Qd Z (Qe Z Z (Qd Z (QA Z Z Z (Qd Z (Yw Z Z (Qg Z Z (kc2 hK Z Z ?_)))))))
  refine Qs Z (fun h3 => ?_) (fun h3 => ?_)
  ·rw [h3]
   simp only [qB] at h3
   refine Qb fun K hK => Qe Z Z (Qz (cs := [_, _, _, _, _]) Z Z Z Z (QT Z Z (Nr Z Z Z (Qa Z ?_))))
   refine Qp (g := 15) Z (fun h4 => ?_) (fun h4 => ?_)
   ·rw [h4]
    simp only [qB] at h4
    refine Qd Z (Qe Z Z (Qd Z (QA Z Z Z (Qd Z (ZB Z (Qg Z Z (Qa Z (kc1 hK Z ?_))))))))
    refine Qo (Qj (Qi Z ?_))
    (repeat clear hK K); (simp_all [XY]; done)
   ·rw [h4]
    simp only [qB] at h4
    refine gn3 Z Z Z (Qg Z Z (Qa Z (kc1 hK Z ?_)))
    refine Qo (Qj (Qi Z ?_))
    (repeat clear hK K); (simp_all [XY]; done)
  ·rw [h3]
   simp only [qB] at h3
   refine Qb fun K hK => Qe Z Z (QA Z Z Z (YA Z Z (kc2 hK Z Z ?_)))
   refine Qs Z (fun h5 => ?_) (fun h5 => ?_)
   ·rw [h5]
    simp only [qB] at h5
    refine Qb fun K hK => Qa Z (kc1 hK Z ?_)
    refine Qo (Qj (Qi Z ?_))
    (repeat clear hK K); (simp_all [XY]; done)
   ·rw [h5]
    simp only [qB] at h5
    refine Qq (ks1 Z (Qb fun K hK => Qe Z Z (Qz (cs := [_, _, _, _, _]) Z Z Z Z (Qv (YS Wa Wa) Z Z (.inr Z) (Qa Z ?_)))))
    refine Qp (g := 26) Z (fun h6 => ?_) (fun h6 => ?_)
    ·rw [h6]
     refine Qd Z (Qe Z Z (Qd Z (Qe Z Z (Qd Z (QA Z Z Z (Qd Z (KH Z Z (Qg Z Z (Qa Z (kc1 hK Z ?_))))))))))
     refine Qo (Qi Z ?_)
     (repeat clear hK K); (simp_all [XY]; done)
    ·rw [h6]
     refine gn4 Z Z Z Z (Qg Z Z (Qa Z (kc1 hK Z ?_)))
     refine Qo (Qi Z ?_)
     (repeat clear hK K); (simp_all [XY]; done)
theorem Ff {e a b c : Int} {p q : List UInt8} {f : Bool} (hp : p.length <= 1000000) (hq : q.length <= 1000000) {e' a' b' c' : Int} {p' q' : List UInt8} {f' : Bool} (hp' : p'.length <= 1000000) (hq' : q'.length <= 1000000) : Ok Tryz.prog 130 [.agg [.int .i64 e, .int .i64 a, .int .i64 b, .int .i64 c, .str p, .str q, .bool f], .agg [.int .i64 e', .int .i64 a', .int .i64 b', .int .i64 c', .str p', .str q', .bool f']] (.int .i64 (Km e a b c p q f e' a' b' c' p' q' f')) := by
 refine Ok.ofT ZL Tryz.func130 QgT (QiM Z) ?_
 show TW _ _ tf130.body _ _
 refine Qb fun K hK => Zi Z Z Z (Zi Z Z Z (Qa Z (kc2 hK Z Z ?_)))
 refine QB ?_ -- 0
 refine Qb fun K hK => Qz (cs := [_, _, _, _, _, _, _]) Z Z Z Z (Qv (Hp Wa Wa) Z Z (.inr Z) (ZB Z (Qa Z ?_)))
 refine Qp (g := 9) Z (fun h1 => ?_) (fun h1 => ?_)
 ·rw [h1]
  simp only [qB] at h1
  refine gn3 Z Z Z (Qg Z Z (kc3 hK Z Z Z ?_))
  refine Zl Z (Qb fun K hK => Qa Z (kc1 hK Z ?_))
  refine Qo (Qj (Qx Z ?_))
  (simp [Km, h1]; done)
 ·rw [h1]
  simp only [qB] at h1
  refine Qd Z (Qz (cs := [_, _, _, _, _, _, _]) Z Z Z Z (Qd Z (Qv (Hp Wa Wa) Z Z (.inr Z) (Qd Z (ZB Z (Qg Z Z (kc3 hK Z Z Z ?_)))))))
  refine Qs Z (fun h2 => ?_) (fun h2 => ?_)
  ·rw [h2]
   simp only [qB] at h2
   refine Qb fun K hK => Qa Z (kc1 hK Z ?_)
   refine Qo (Qj (Qx Z ?_))
   (simp [Km, h1, h2]; done)
  ·rw [h2]
   simp only [qB] at h2
   refine Qb fun K hK => Qe Z Z (QA Z Z Z (YA Z Z (Qa Z ?_)))
   refine Qp (g := 17) Z (fun h3 => ?_) (fun h3 => ?_)
   ·rw [h3]
    simp only [qB] at h3
    refine gn3 Z Z Z (Qg Z Z (kc3 hK Z Z Z ?_))
    refine Zl Z (Qb fun K hK => Qe Z Z (QA Z Z Z (Qe Z Z (QA Z Z Z (Qv (ZM) Z Z (.inr Z) (Qa Z (kc1 hK Z ?_)))))))
    refine Qo (Qj (Qx Z ?_))
    (simp [Km, h1, h2, h3]; done)
   ·rw [h3]
    simp only [qB] at h3
    refine Qd Z (Qe Z Z (Qd Z (QA Z Z Z (Qd Z (YA Z Z (Qg Z Z (kc3 hK Z Z Z ?_)))))))
    refine Qs Z (fun h4 => ?_) (fun h4 => ?_)
    ·rw [h4]
     simp only [qB] at h4
     refine Qb fun K hK => Qe Z Z (QA Z Z Z (Qe Z Z (QA Z Z Z (Qv (ZM) Z Z (.inr Z) (Qa Z (kc1 hK Z ?_))))))
     refine Qo (Qj (Qx Z ?_))
     exact (Qa7 Wh Wh (by first | (left; assumption) | (right; assumption))).symm
    ·rw [h4]
     simp only [qB] at h4
     refine Qb fun K hK => Qe Z Z (Qz (cs := [_, _, _, _, _]) Z Z Z Z (Qe Z Z (Qz (cs := [_, _, _, _, _]) Z Z Z Z (Qv (Kv Wa Wa Wa Wa) Z Z (.inr Z) (Qa Z (kc3 hK Z Z Z ?_))))))
     refine Qb fun K hK => Qa Z (YA Z Z (kc4 hK Z Z Z Z ?_))
     refine Qs Z (fun h5 => ?_) (fun h5 => ?_)
     ·rw [h5]
      simp only [qB] at h5
      refine Qb fun K hK => mv2 Z Z (kc1 hK Z ?_)
      refine Qo (Qj (Qx Z ?_))
      (repeat clear hK K); (simp_all [Km]; done)
     ·rw [h5]
      simp only [qB] at h5
      refine Qb fun K hK => Qe Z Z (QA Z Z Z (Qe Z Z (QA Z Z Z (Ca Z Z (kc2 hK Z Z ?_)))))
      refine Qs Z (fun h6 => ?_) (fun h6 => ?_)
      ·rw [h6]
       simp only [qB] at h6
       refine Qb fun K hK => Qa Z (kc1 hK Z ?_)
       refine Qo (Qj (Qx Z ?_))
       (simp [Km, h1, h2, h3, h4, h5, h6]; done)
      ·rw [h6]
       simp only [qB] at h6
       refine Qb fun K hK => Qe Z Z (QA Z Z Z (kc1 hK Z ?_))
       refine Qs Z (fun h7 => ?_) (fun h7 => ?_)
       ·rw [h7]
        refine Qb fun K hK => Qa Z (kc1 hK Z ?_)
        refine Qo (Qj (Qx Z ?_))
        (repeat clear hK K); (simp_all [Km]; done)
       ·rw [h7]
        refine Qq (QX (Zg) (Qb fun K hK => Qa Z (kc1 hK Z ?_)))
        refine Qo (Qx Z ?_)
        (repeat clear hK K); (simp_all [Km]; done)
theorem Mo {e a b c : Int} {p q : List UInt8} {f : Bool} (hp : p.length <= 1000000) (hq : q.length <= 1000000) {a' b' c' : Int} {p' q' : List UInt8} (hp' : p'.length <= 1000000) (hq' : q'.length <= 1000000) : Ok Tryz.prog 134 [.agg [.int .i64 e, .int .i64 a, .int .i64 b, .int .i64 c, .str p, .str q, .bool f], .agg [.int .i64 a', .int .i64 b', .int .i64 c', .str p', .str q']] (.bool (Jc e a b c p q f a' b' c' p' q')) := by
 refine Ok.ofT ZL Tryz.func134 QgX (QiM Z) ?_
 show TW _ _ tf134.body _ _
 refine Qb fun K hK => Zi Z Z Z (Zi Z Z Z (Qa Z (kc2 hK Z Z ?_)))
 refine QB ?_ -- 0
 refine Qb fun K hK => Qz (cs := [_, _, _, _, _, _, _]) Z Z Z Z (Qv (Hp Wa Wa) Z Z (.inr Z) (ZB Z (Qa Z ?_)))
 refine Qp (g := 9) Z (fun h1 => ?_) (fun h1 => ?_)
 ·rw [h1]
  simp only [qB] at h1
  refine gn3 Z Z Z (Qg Z Z (kc3 hK Z Z Z ?_))
  refine Zl Z (Qb fun K hK => Qa Z (kc1 hK Z ?_))
  refine Qo (Qj (Qi Z ?_))
  (simp [Jc, h1]; done)
 ·rw [h1]
  simp only [qB] at h1
  refine Qd Z (Qz (cs := [_, _, _, _, _]) Z Z Z Z (Qd Z (Qv (YS Wa Wa) Z Z (.inr Z) (Qd Z (ZB Z (Qg Z Z (kc3 hK Z Z Z ?_)))))))
  refine Qs Z (fun h2 => ?_) (fun h2 => ?_)
  ·rw [h2]
   simp only [qB] at h2
   refine Qb fun K hK => Qa Z (kc1 hK Z ?_)
   refine Qo (Qj (Qi Z ?_))
   (simp [Jc, h1, h2]; done)
  ·rw [h2]
   simp only [qB] at h2
   refine Qb fun K hK => Qe Z Z (QA Z Z Z (YA Z Z (kc3 hK Z Z Z ?_)))
   refine Qs Z (fun h3 => ?_) (fun h3 => ?_)
   ·rw [h3]
    simp only [qB] at h3
    refine Qb fun K hK => Qe Z Z (QA Z Z Z (ZT Z Z (Qa Z (kc1 hK Z ?_))))
    refine Qo (Qj (Qi Z ?_))
    (simp [Jc, h1, h2, h3]; done)
   ·rw [h3]
    simp only [qB] at h3
    refine Qq (ks2 Z Z (Qb fun K hK => Qe Z Z (Qz (cs := [_, _, _, _, _]) Z Z Z Z (Qz (cs := [_, _, _, _, _]) Z Z Z Z (Qv (Kv Wa Wa Wa Wa) Z Z (.inr Z) (Qa Z (kc2 hK Z Z ?_)))))))
    refine Qb fun K hK => Qa Z (ZT Z Z (Qa Z ?_))
    refine Qp (g := 26) Z (fun h4 => ?_) (fun h4 => ?_)
    ·rw [h4]
     simp only [qB] at h4
     refine gn3 Z Z Z (QI Z (QI Z (QI Z (Xd Z (Qg Z Z (Qa Z (kc1 hK Z ?_)))))))
     refine Qo (Qi Z ?_)
     (repeat clear hK K); (simp_all [Jc]; done)
    ·rw [h4]
     simp only [qB] at h4
     refine Qd Z (Qa Z (Qd Z (Yw Z Z (Qd Z (Qa Z ?_)))))
     refine Qp (g := 29) Z (fun h5 => ?_) (fun h5 => ?_)
     ·rw [h5]
      simp only [qB] at h5
      refine Qd Z (Qe Z Z (Qd Z (QA Z Z Z (Qd Z (ZB Z (Qd Z (Qg Z Z (Qg Z Z (Qa Z (kc1 hK Z ?_))))))))))
      refine Qo (Qi Z ?_)
      (repeat clear hK K); (simp_all [Jc]; done)
     ·rw [h5]
      simp only [qB] at h5
      refine gn3 Z Z Z (Qd Z (Qg Z Z (Qg Z Z (Qa Z (kc1 hK Z ?_)))))
      refine Qo (Qi Z ?_)
      (simp [Jc, h1, h2, h3, h4, h5]; done)
theorem Fg {e a b c : Int} {p q : List UInt8} {f : Bool} (hp : p.length <= 1000000) (hq : q.length <= 1000000) {e' a' b' c' : Int} {p' q' : List UInt8} {f' : Bool} (hp' : p'.length <= 1000000) (hq' : q'.length <= 1000000) : Ok Tryz.prog 129 [.agg [.int .i64 e, .int .i64 a, .int .i64 b, .int .i64 c, .str p, .str q, .bool f, .int .i64 e', .int .i64 a', .int .i64 b', .int .i64 c', .str p', .str q', .bool f']] (.bool (MX e a b c p q f e' a' b' c' p' q' f')) := by
 refine Ok.ofT ZL Tryz.func129 QgS (QiM Z) ?_
 show TW _ _ tf129.body _ _
 refine Qb fun K hK => Zi Z Z Z (Qa Z (kc1 hK Z ?_))
 refine Qb fun K hK => Qe Z Z (Qz (cs := [_, _, _, _, _, _, _]) Z Z Z Z (Qv (Hp Wa Wa) Z Z (.inr Z) (Qa Z ?_)))
 refine Qp (g := 6) Z (fun h1 => ?_) (fun h1 => ?_)
 ·rw [h1]
  refine Qd Z (Qe Z Z (Qd Z (Qz (cs := [_, _, _, _, _, _, _]) Z Z Z Z (Qd Z (Qv (Hp Wa Wa) Z Z (.inr Z) (Qg Z Z (Qa Z ?_)))))))
  refine Qp (g := 11) Z (fun h2 => ?_) (fun h2 => ?_)
  ·rw [h2]
   refine Qd Z (Qe Z Z (Qd Z (Qz (cs := [_, _, _, _, _, _, _]) Z Z Z Z (Qd Z (Qe Z Z (Qd Z (Qz (cs := [_, _, _, _, _, _, _]) Z Z Z Z (Qd Z (Qv (Ff Wa Wa Wa Wa) Z Z (.inr Z) (Qd Z (ZT Z Z ?_)))))))))))
   refine Qg Z Z (Qa Z (kc1 hK Z ?_))
   refine Qo (Qi Z ?_)
   (simp [MX, h1, h2]; done)
  ·rw [h2]
   refine gn4 Z Z Z Z (gn2 Z Z (Qg Z Z (Qa Z (kc1 hK Z ?_))))
   refine Qo (Qi Z ?_)
   (simp [MX, h1, h2]; done)
 ·rw [h1]
  refine gn3 Z Z Z (Qg Z Z (Qa Z (gn4 Z Z Z Z (gn2 Z Z (Qg Z Z ?_)))))
  refine Qa Z (kc1 hK Z ?_)
  refine Qo (Qi Z ?_)
  (simp [MX, h1]; done)
theorem TQ {e a b c : Int} {p q : List UInt8} {f : Bool} (hp : p.length <= 1000000) (hq : q.length <= 1000000) {e' a' b' c' : Int} {p' q' : List UInt8} {f' : Bool} (hp' : p'.length <= 1000000) (hq' : q'.length <= 1000000) {x y z : Int} {r s : List UInt8} (hr : r.length <= 1000000) (hs : s.length <= 1000000) : Ok Tryz.prog 117 [.agg [.int .i64 e, .int .i64 a, .int .i64 b, .int .i64 c, .str p, .str q, .bool f, .int .i64 e', .int .i64 a', .int .i64 b', .int .i64 c', .str p', .str q', .bool f'], .agg [.int .i64 x, .int .i64 y, .int .i64 z, .str r, .str s]] (.bool (HO e a b c p q f e' a' b' c' p' q' f' x y z r s)) := by
 refine Ok.ofT ZL Tryz.func117 QgG (QiM Z) ?_
 show TW _ _ tf117.body _ _
 refine Qb fun K hK => Zi Z Z Z (Zi Z Z Z (Qa Z (kc2 hK Z Z ?_)))
 refine Qb fun K hK => Qz (cs := [_, _, _, _, _, _, _, _, _, _, _, _, _, _]) Z Z Z Z (Qv (Fg Wa Wa Wa Wa) Z Z (.inr Z) (Qa Z ?_))
 refine Qp (g := 7) Z (fun h1 => ?_) (fun h1 => ?_)
 ·rw [h1]
  refine Qd Z (Qz (cs := [_, _, _, _, _]) Z Z Z Z (Qd Z (Qv (YS Wa Wa) Z Z (.inr Z) (Qg Z Z (Qa Z ?_)))))
  refine Qp (g := 11) Z (fun h2 => ?_) (fun h2 => ?_)
  ·rw [h2]
   refine Qd Z (Qe Z Z (Qd Z (Qz (cs := [_, _, _, _, _, _, _]) Z Z Z Z (Qd Z (Qz (cs := [_, _, _, _, _]) Z Z Z Z (Qd Z (Qv (Mo Wa Wa Wa Wa) Z Z (.inr Z) (Qg Z Z (Qa Z ?_)))))))))
   refine Qp (g := 17) Z (fun h3 => ?_) (fun h3 => ?_)
   ·rw [h3]
    refine Qd Z (Qe Z Z (Qd Z (Qz (cs := [_, _, _, _, _, _, _]) Z Z Z Z (Qd Z (Qz (cs := [_, _, _, _, _]) Z Z Z Z (Qd Z (Qv (Mo Wa Wa Wa Wa) Z Z (.inr Z) (Qd Z (ZB Z (Qg Z Z (Qa Z ?_)))))))))))
    refine kc1 hK Z ?_
    refine Qo (Qi Z ?_)
    (simp [HO, h1, h2, h3]; done)
   ·rw [h3]
    refine gn4 Z Z Z Z (Xd Z (Qg Z Z (Qa Z (kc1 hK Z ?_))))
    refine Qo (Qi Z ?_)
    (simp [HO, h1, h2, h3]; done)
  ·rw [h2]
   refine gn4 Z Z Z Z (Qg Z Z (Qa Z (gn4 Z Z Z Z (Xd Z (Qg Z Z ?_)))))
   refine Qa Z (kc1 hK Z ?_)
   refine Qo (Qi Z ?_)
   (simp [HO, h1, h2]; done)
 ·rw [h1]
  refine gn2 Z Z (Qg Z Z (Qa Z (gn4 Z Z Z Z (Qg Z Z (Qa Z (gn2 Z Z ?_))))))
  refine gn3 Z Z Z (Qg Z Z (Qa Z (kc1 hK Z ?_)))
  refine Qo (Qi Z ?_)
  (simp [HO, h1]; done)
end Go.Proofs
namespace M3
open Go Go.Abs
open Go Go.Abs
end M3
namespace M3
open Go Go.Abs
end M3
namespace M25
open Go Go.Abs M3
def NB (a b c : Int) : Bool := decide (a = 0) && decide (b = 0) && decide (c = 0)
def G3 (a b c : Int) (p q : List UInt8) (part : Int) : Option (Int × Int × Int) :=
 if Ks a b c p q = false \/ part < 0 \/ 2 < part then none
 else
  let o := if part = 0 then (a + 1, 0, 0) else if part = 1 then (a, b + 1, 0) else (a, b, c + 1)
  if Ks o.1 o.2.1 o.2.2 [] [] = true then some o else none
def dOV (o : Option (Int × Int × Int)) : D := .tup [.agg [.int .i64 (o.getD (0, 0, 0)).1, .int .i64 (o.getD (0, 0, 0)).2.1, .int .i64 (o.getD (0, 0, 0)).2.2, .str [], .str []], .bool o.isSome]
def XG (a b c : Int) (p q : List UInt8) : Nat -> Option (Int × Int × Int)
 | 0 => none
 | n + 1 => if (G3 a b c p q n).isSome = true then G3 a b c p q n else XG a b c p q n
def S3 (a b c : Int) (p q : List UInt8) : Option (Int × Int × Int) :=
 if Ks a b c p q = false then none else if p ≠ [] then some (a, b, c) else XG a b c p q 3
theorem Gm {a b c : Int} {p q : List UInt8} (h : Ks a b c p q = true) : (0 <= a /\ a <= 9999) /\ (0 <= b /\ b <= 9999) /\ (0 <= c /\ c <= 9999) := by
 simp only [Ks, Pw, QiQ, decide_eq_true_eq] at h
 omega
theorem TP {a b c : Int} {p q : List UInt8} {m : Nat} (hm : 0 < m) (h : (G3 a b c p q ((m : Int) - 1)).isSome = false) : XG a b c p q m = XG a b c p q (m - 1) := by
 obtain ⟨n, rfl⟩ : ∃ n, m = n + 1 := ⟨m - 1, Wa⟩
 rw [show ((n + 1 : Nat) : Int) - 1 = (n : Int) by omega] at h
 rw [XG, if_neg (by rw [h]; simp)]; rfl
theorem Sy {a b c : Int} {p q : List UInt8} {m : Nat} (hm : 0 < m) (h : (G3 a b c p q ((m : Int) - 1)).isSome = true) : XG a b c p q m = G3 a b c p q ((m : Int) - 1) := by
 obtain ⟨n, rfl⟩ : ∃ n, m = n + 1 := ⟨m - 1, Wa⟩
 rw [show ((n + 1 : Nat) : Int) - 1 = (n : Int) by omega] at h ⊢
 rw [XG, if_pos h]
def dCu (x : Cu) : List D := [.int .i64 x.e, .int .i64 x.a, .int .i64 x.b, .int .i64 x.c, .str x.p, .str x.q, .bool x.f]
def NI (s : Cu × Cu) : List D := dCu s.1 ++ dCu s.2
def Zm (l : List (Cu × Cu)) : D := .sl (l.map NI)
def Mx (s : List (Cu × Cu) × List (Cu × Cu)) : D := .agg [Zm s.1, Zm s.2]
def GJ : Cu := ⟨-1, 0, 0, 0, [], [], false⟩
def Pv : Cu := ⟨1, 0, 0, 0, [], [], false⟩
def MS (a b c : Int) : Cu := if NB a b c = true then GJ else ⟨0, a, b, c, [], [], false⟩
def FF (a b c : Int) : Cu := match S3 a b c [] [] with
 | none => Pv
 | some o => ⟨0, o.1, o.2.1, o.2.2, [], [], false⟩
def Xa (a b c : Int) (p q : List UInt8) : List (Cu × Cu) × List (Cu × Cu) :=
 if Ks a b c p q = false then ([], []) else if p ≠ [] then ([], [(⟨0, a, b, c, p, [], false⟩, ⟨0, a, b, c, p, [], true⟩)]) else ([(MS a b c, FF a b c)], [])
def NC (e a b c : Int) (p q : List UInt8) (f : Bool) : Bool := !decide (e = 0) || (!f && decide (p = []) && !NB a b c)
def Cu.sm (x : Cu) : Prop := x.p.length <= 1000000 /\ x.q.length <= 1000000
def Sm (l : List (Cu × Cu)) : Prop := l.length <= 1000000 /\ ∀ s ∈ l, Cu.sm s.1 /\ Cu.sm s.2
theorem Sm.at {l : List (Cu × Cu)} (h : Sm l) {i : Nat} (hi : i < l.length) : (l[i].1.p.length <= 1000000 /\ l[i].1.q.length <= 1000000) /\ (l[i].2.p.length <= 1000000 /\ l[i].2.q.length <= 1000000) := h.2 _ (QiR hi)
def GN (s : Cu × Cu) : Bool := MX s.1.e s.1.a s.1.b s.1.c s.1.p s.1.q s.1.f s.2.e s.2.a s.2.b s.2.c s.2.p s.2.q s.2.f
def KX (x y : Cu) : Int := Km x.e x.a x.b x.c x.p x.q x.f y.e y.a y.b y.c y.p y.q y.f
def QdO (l : List (Cu × Cu)) (i : Nat) : Bool := match l[i]? with
 | none => true
 | some s => GN s && (decide (i = 0) || match l[i - 1]? with | none => true | some r => decide (KX r.2 s.1 < 0))
theorem Lm {l : List (Cu × Cu)} {i : Nat} (h : i < l.length) : QdO l i = (GN l[i] && (decide (i = 0) || decide (KX (l[i - 1]'Wa).2 l[i].1 < 0))) := by
 unfold QdO
 rw [List.getElem?_eq_getElem h, List.getElem?_eq_getElem (Wa : i - 1 < l.length)]
theorem DA {l : List (Cu × Cu)} {i : Nat} (h : i < l.length) (h1 : GN l[i] = true) (h2 : i = 0 \/ KX (l[i - 1]'Wa).2 l[i].1 < 0) : QdO l i = true := by
 rw [Lm h, h1]; simpa using h2
theorem He {l : List (Cu × Cu)} {i : Nat} (h : i < l.length) (h1 : GN l[i] = false \/ (i ≠ 0 /\ 0 <= KX (l[i - 1]'Wa).2 l[i].1)) : QdO l i = false := by
 rw [Lm h]
 rcases h1 with h1 | ⟨h1, h2⟩
 ·rw [h1]; rfl
 ·simp only [QiZ, Bool.or_eq_false_iff, decide_eq_false_iff_not]
  exact .inr ⟨h1, Wa⟩
def Hj (l : List (Cu × Cu)) : Bool := (List.range l.length).all (QdO l)
theorem Yv {n i : Nat} {p : Nat -> Bool} (h : i < n) (hp : p i = false) : (List.range n).all p = false := by
 rw [Bool.eq_false_iff]; intro ha
 rw [QiW] at ha
 rw [ha i (Qi9.2 h)] at hp; cases hp
theorem K1 {i : Nat} {p : Nat -> Bool} (h : (List.range i).all p = true) (hp : p i = true) : (List.range (i + 1)).all p = true := by
 rw [List.range_succ, List.all_append, h]; simp [hp]
theorem Gr {i : Nat} {p : Nat -> Bool} {n : Nat} (h : (List.range i).all p = true) (hn : n <= i) : (List.range n).all p = true := by
 rw [QiW] at h ⊢
 exact fun x hx => h x (Qi9.2 (Nat.lt_of_lt_of_le (Qi9.1 hx) hn))
def MU (s : Cu × Cu) (a b c : Int) (p q : List UInt8) : Bool := HO s.1.e s.1.a s.1.b s.1.c s.1.p s.1.q s.1.f s.2.e s.2.a s.2.b s.2.c s.2.p s.2.q s.2.f a b c p q
def Px (l : List (Cu × Cu)) (a b c : Int) (p q : List UInt8) : Bool := Hj l && l.any fun s => MU s a b c p q
theorem Gf {l : List (Cu × Cu)} {a b c : Int} {p q : List UInt8} {i : Nat} (hi : l.length <= i) (h : (l.take i).any (fun s => MU s a b c p q) = false) : Px l a b c p q = false := by
 rw [Qi2 hi] at h; rw [Px, h, Bool.and_false]
theorem Gg {l : List (Cu × Cu)} {a b c : Int} {p q : List UInt8} (h : Hj l = false) : Px l a b c p q = false := by rw [Px, h]; rfl
theorem Gi {l : List (Cu × Cu)} {a b c : Int} {p q : List UInt8} {i : Nat} (h : Hj l = true) (hi : i < l.length) (hp : MU l[i] a b c p q = true) : Px l a b c p q = true := by
 rw [Px, h, Bool.true_and]; exact List.any_eq_true.2 ⟨_, QiR hi, hp⟩
def inC (x y : Cu) (s : Cu × Cu) : Bool := decide (KX s.1 x <= 0) && decide (KX y s.2 <= 0)
theorem Qfd {x y : Cu} {s : Cu × Cu} (h1 : KX s.1 x <= 0) (h2 : KX y s.2 <= 0) : inC x y s = true := by simp [inC, h1, h2]
theorem Qfc {x y : Cu} {s : Cu × Cu} (h : ¬ KX s.1 x <= 0 \/ ¬ KX y s.2 <= 0) : inC x y s = false := by
 simp only [inC, QiZ, decide_eq_false_iff_not]; exact h
def mIn (l : List (Cu × Cu)) (x y : Cu) : Bool := l.any (inC x y)
theorem TL {α : Type} {s : List α} {p : α -> Bool} {i : Nat} (h : i < s.length) (hp : p s[i] = true) : s.any p = true := List.any_eq_true.2 ⟨_, QiR h, hp⟩
theorem Qcq {α : Type} {s : List α} {p : α -> Bool} {i : Nat} (hi : s.length <= i) (h : (s.take i).any p = false) : s.any p = false := by rwa [Qi2 hi] at h
theorem Mk {α : Type} {s : List α} {p : α -> Bool} {i : Nat} (h : i < s.length) (ha : (s.take i).any p = false) (hp : p s[i] = false) : (s.take (i + 1)).any p = false := by
 rw [List.take_succ_eq_append_getElem h, List.any_append, ha]; simp [hp]
def Xl (x : Cu) : Bool := NC x.e x.a x.b x.c x.p x.q x.f
def Xz (s : List (Cu × Cu) × List (Cu × Cu)) : Bool := Hj s.1 && Hj s.2 && s.1.all fun x => Xl x.1 && Xl x.2
def MT (s : List (Cu × Cu) × List (Cu × Cu)) (a b c : Int) (p q : List UInt8) : Bool :=
 Xz s && Ks a b c p q && (if p = [] then Px s.1 a b c p q else Px s.2 a b c p q)
theorem Kp {s : List (Cu × Cu) × List (Cu × Cu)} (h : Hj s.1 = false \/ Hj s.2 = false) : Xz s = false := by
 rw [Xz]; rcases h with h | h <;> simp [h]
theorem Jz {s : List (Cu × Cu) × List (Cu × Cu)} {i : Nat} (hi : i < s.1.length) (h : Xl s.1[i].1 = false \/ Xl s.1[i].2 = false) : Xz s = false := by
 have : (s.1.all fun x => Xl x.1 && Xl x.2) = false := X2 hi (by rcases h with h | h <;> simp [h])
 rw [Xz, this, Bool.and_false]
theorem FI {s : List (Cu × Cu) × List (Cu × Cu)} {i : Nat} (h1 : Hj s.1 = true) (h2 : Hj s.2 = true) (hi : s.1.length <= i) (h : (s.1.take i).all (fun x => Xl x.1 && Xl x.2) = true) : Xz s = true := by
 rw [Qi2 hi] at h
 rw [Xz, h1, h2, h]; rfl
def Rs (l : List Cu) : D := .sl (l.map dCu)
theorem Th {l : List Cu} : ∀ r ∈ l.map dCu, r.length = 7 := fun r hr => by obtain ⟨x, _, rfl⟩ := Qi0.1 hr; rfl
theorem Qb9 {l : List Cu} {a b : Nat} : ∀ r ∈ ((l.map dCu).take a).drop b, r.length = 7 := fun r hr => Th r (Qi6 (List.mem_of_mem_drop hr))
def HP : List Cu -> Cu -> List Cu
 | [], c => [c]
 | x :: r, c => if KX x c < 0 then x :: HP r c else if KX x c = 0 then x :: r else c :: x :: r
theorem BX {l : List Cu} {c : Cu} {k : Nat} (hk : k < l.length) (h : KX l[k] c < 0) (hi : HP l c = l.take k ++ HP (l.drop k) c) : HP l c = l.take (k + 1) ++ HP (l.drop (k + 1)) c := by
 rw [hi, Qi3 hk, HP, if_pos h, List.take_succ_eq_append_getElem hk, List.append_assoc]; rfl
theorem BW {l : List Cu} {c : Cu} {k : Nat} (hk : k < l.length) (h : KX l[k] c = 0) (hi : HP l c = l.take k ++ HP (l.drop k) c) : HP l c = l := by
 rw [hi, Qi3 hk, HP, if_neg Wa, if_pos h, <- Qi3 hk, List.take_append_drop]
theorem Dq {l : List Cu} {c : Cu} {k : Nat} (h : l.length <= k \/ ∃ hk : k < l.length, ¬ KX l[k] c < 0 /\ KX l[k] c ≠ 0) (hi : HP l c = l.take k ++ HP (l.drop k) c) : HP l c = l.take k ++ c :: l.drop k := by
 rw [hi]
 rcases h with h | ⟨hk, h1, h2⟩
 ·rw [Qi7 h, HP]
 ·rw [Qi3 hk, HP, if_neg h1, if_neg h2]
theorem NW : ∀ (l : List Cu) (c : Cu), (HP l c).length <= l.length + 1
 | [], c => by simp [HP]
 | x :: r, c => by
  have := NW r c
  simp only [HP]
  (repeat' split) <;> simp <;> omega
theorem RK : ∀ {l : List Cu} {c : Cu}, (∀ x ∈ l, Cu.sm x) -> Cu.sm c -> ∀ x ∈ HP l c, Cu.sm x
 | [], c, _, hc, x, hx => by simp [HP] at hx; exact hx ▸ hc
 | y :: r, c, hl, hc, x, hx => by
  simp only [HP] at hx
  split at hx
  ·rcases QiO.1 hx with rfl | hx
   ·exact hl _ Wd
   ·exact RK (fun z hz => hl z (by simp [hz])) hc x hx
  ·split at hx
   ·exact hl x hx
   ·rcases QiO.1 hx with rfl | hx
    ·exact hc
    ·exact hl x hx
def YX (l : List (Cu × Cu)) : List Cu := l.foldl (fun out s => HP (HP out s.1) s.2) [GJ, Pv]
theorem QbD {l : List (Cu × Cu)} {i : Nat} (h : i < l.length) : YX (l.take (i + 1)) = HP (HP (YX (l.take i)) l[i].1) l[i].2 := by
 rw [List.take_succ_eq_append_getElem h, YX, List.foldl_append]; rfl
theorem P1 : ∀ (l : List (Cu × Cu)) (out : List Cu), (l.foldl (fun out s => HP (HP out s.1) s.2) out).length <= out.length + 2 * l.length
 | [], out => by simp
 | s :: l, out => by
  have h1 := NW out s.1
  have h2 := NW (HP out s.1) s.2
  have := P1 l (HP (HP out s.1) s.2)
  simp only [List.foldl_cons, List.length_cons]; omega
theorem HL (l : List (Cu × Cu)) : (YX l).length <= 2 + 2 * l.length := P1 l _
theorem S0 : ∀ {l : List (Cu × Cu)} {out : List Cu}, (∀ s ∈ l, Cu.sm s.1 /\ Cu.sm s.2) -> (∀ x ∈ out, Cu.sm x) -> ∀ x ∈ l.foldl (fun out s => HP (HP out s.1) s.2) out, Cu.sm x
 | [], _, _, h => h
 | s :: l, out, hl, h => by
  rw [List.foldl_cons]
  exact S0 (fun t ht => hl t (by simp [ht])) (RK (RK h (hl s Wd).1) (hl s Wd).2)
theorem Dl {l : List (Cu × Cu)} (hl : ∀ s ∈ l, Cu.sm s.1 /\ Cu.sm s.2) : ∀ x ∈ YX l, Cu.sm x := S0 hl (by
 intro x hx
 simp only [QiO, QiN, or_false] at hx
 rcases hx with rfl | rfl <;> exact ⟨QiY _, QiY _⟩)
theorem NU {l : List (Cu × Cu)} (hl : Sm l) (i : Nat) : (YX (l.take i)).length <= 2000002 /\ ∀ x ∈ YX (l.take i), Cu.sm x := by
 refine ⟨?_, Dl fun s hs => hl.2 s (Qi6 hs)⟩
 have := HL (l.take i)
 have h2 : (l.take i).length <= l.length := List.length_take_le' ..
 have := hl.1
 omega
def HN (l : List (Cu × Cu)) (x y : Cu) : List (Cu × Cu) := match l.getLast? with
 | some s => if KX s.2 x = 0 then l.dropLast ++ [(s.1, y)] else l ++ [(x, y)]
 | none => l ++ [(x, y)]
theorem S1 {l : List (Cu × Cu)} {x y : Cu} {i : Nat} (hi : i + 1 = l.length) (h : KX (l[i]'Wa).2 x = 0) : HN l x y = l.set i ((l[i]'Wa).1, y) := by
 have hg : l.getLast? = some (l[i]'Wa) := by
  rw [List.getLast?_eq_getElem?, show l.length - 1 = i by omega, List.getElem?_eq_getElem]
 rw [HN, hg]
 simp only [h, if_true]
 rw [List.dropLast_eq_take, show l.length - 1 = i by omega, List.set_eq_take_append_cons_drop, if_pos Wa, Qi7 Wa]
theorem FH {l : List (Cu × Cu)} {x y : Cu} (h : l = [] \/ ∃ i, ∃ hi : i + 1 = l.length, KX (l[i]'Wa).2 x ≠ 0) : HN l x y = l ++ [(x, y)] := by
 rcases h with rfl | ⟨i, hi, h⟩
 ·rfl
 ·have hg : l.getLast? = some (l[i]'Wa) := by
   rw [List.getLast?_eq_getElem?, show l.length - 1 = i by omega, List.getElem?_eq_getElem]
  rw [HN, hg]
  simp only [if_neg h]
theorem S2 (l : List (Cu × Cu)) (x y : Cu) : (HN l x y).length <= l.length + 1 := by
 unfold HN
 split
 ·split
  ·simp
  ·simp
 ·simp
theorem Dm {l : List (Cu × Cu)} {x y : Cu} (hl : ∀ s ∈ l, Cu.sm s.1 /\ Cu.sm s.2) (hx : Cu.sm x) (hy : Cu.sm y) : ∀ s ∈ HN l x y, Cu.sm s.1 /\ Cu.sm s.2 := by
 intro s hs
 unfold HN at hs
 split at hs
 ·rename_i t ht
  have ht' := List.mem_of_getLast? ht
  split at hs
  ·rcases QiX.1 hs with hs | hs
   ·exact hl s (List.dropLast_subset _ hs)
   ·simp at hs; subst hs; exact ⟨(hl t ht').1, hy⟩
  ·rcases QiX.1 hs with hs | hs
   ·exact hl s hs
   ·simp at hs; subst hs; exact ⟨hx, hy⟩
 ·rcases QiX.1 hs with hs | hs
  ·exact hl s hs
  ·simp at hs; subst hs; exact ⟨hx, hy⟩
theorem Dc {α β : Type} {l : List α} {f : α -> β} {i : Nat} (h : i + 1 < l.length) : (l.map f)[((i : Int) + 1).toNat]? = some (f l[i + 1]) := by
 rw [show ((i : Int) + 1).toNat = i + 1 by omega, List.getElem?_map, List.getElem?_eq_getElem h]; rfl
def HM (f : Cu -> Cu -> Bool) : List Cu -> List (Cu × Cu) -> List (Cu × Cu)
 | x :: y :: r, out => HM f (y :: r) (if f x y = true then HN out x y else out)
 | _, out => out
def Lh (l : List (Cu × Cu)) : List (Cu × Cu) := if l.all GN = true then HM (mIn l) (YX l) [] else []
theorem P2 {f : Cu -> Cu -> Bool} {c : List Cu} {out : List (Cu × Cu)} {i : Nat} (h : i + 1 < c.length) : HM f (c.drop i) out = HM f (c.drop (i + 1)) (if f c[i] c[i + 1] = true then HN out c[i] c[i + 1] else out) := by
 rw [Qi3 (Wa : i < c.length), Qi3 h, HM]
theorem BV {f : Cu -> Cu -> Bool} {c : List Cu} {out : List (Cu × Cu)} {i : Nat} (h : c.length <= i + 1) : HM f (c.drop i) out = out := by
 have : (c.drop i).length <= 1 := by simp; omega
 match hd : c.drop i with
 | [] => rfl
 | [x] => rfl
 | x :: y :: r => rw [hd] at this; simp at this
def FillI (f : Cu -> Cu -> Bool) (c : List Cu) (i : Nat) (out : List (Cu × Cu)) : Prop :=
 out.length <= i /\ (∀ s ∈ out, Cu.sm s.1 /\ Cu.sm s.2) /\ HM f c [] = HM f (c.drop i) out
theorem FillI.zero {f : Cu -> Cu -> Bool} {c : List Cu} : FillI f c 0 [] := ⟨QiY _, by simp, by simp⟩
theorem FillI.take {f : Cu -> Cu -> Bool} {c : List Cu} {i : Nat} {out : List (Cu × Cu)} (h : FillI f c i out) (hc : ∀ x ∈ c, Cu.sm x) (hi : i + 1 < c.length) (ht : f c[i] c[i + 1] = true) : FillI f c (i + 1) (HN out c[i] c[i + 1]) := by
 obtain ⟨h1, h2, h3⟩ := h
 refine ⟨Qi5 (S2 ..) Wa, Dm h2 (hc _ (QiR _)) (hc _ (QiR _)), ?_⟩
 rw [h3, P2 hi, if_pos ht]
theorem FillI.skip {f : Cu -> Cu -> Bool} {c : List Cu} {i : Nat} {out : List (Cu × Cu)} (h : FillI f c i out) (hi : i + 1 < c.length) (ht : f c[i] c[i + 1] = false) : FillI f c (i + 1) out := by
 obtain ⟨h1, h2, h3⟩ := h
 exact ⟨Wa, h2, by rw [h3, P2 hi, if_neg (by rw [ht]; simp)]⟩
theorem FillI.done {f : Cu -> Cu -> Bool} {c : List Cu} {i : Nat} {out : List (Cu × Cu)} (h : FillI f c i out) (hi : c.length <= i + 1) : HM f c [] = out := by rw [h.2.2, BV hi]
theorem QfJ {i : Nat} : ((i : Int) + 1).toNat = i + 1 := Wa
theorem Yz {l : List (Cu × Cu)} (hl : Sm l) : ∀ x ∈ YX l, Cu.sm x := Dl hl.2
def QcG (a b : List (Cu × Cu)) : List (Cu × Cu) := if Hj a = true /\ Hj b = true then Lh (a ++ b) else []
def Lj (a : List (Cu × Cu)) : List (Cu × Cu) := if Hj a = true then HM (fun x y => !mIn a x y) (YX a) [] else []
theorem QcN {l : List (Cu × Cu)} : ∀ r ∈ l.map NI, r.length = 14 := fun r hr => by obtain ⟨x, _, rfl⟩ := Qi0.1 hr; rfl
theorem Sm.app {a b : List (Cu × Cu)} (ha : Sm a) (hb : Sm b) (h : a.length + b.length <= 1000000) : Sm (a ++ b) := by
 refine ⟨by simp; omega, fun s hs => ?_⟩
 rcases QiX.1 hs with hs | hs
 ·exact ha.2 s hs
 ·exact hb.2 s hs
theorem Qge {H : QiJ} {S : Nat -> Bool} {k n : Nat} {b : Box} (hS : S k = true) (hb : lk H k = some b) (hp : b.pr = true) (hn : n = b.rows.length) : (D.osl k n).fz H S = .sl b.rows := by
 simp only [D.fz, D.fzS, hS, hb, if_true, hp, hn, and_self]
abbrev F0 := List (Cu × Cu) × List (Cu × Cu)
def QaP (a b : F0) : F0 := if Xz a = true /\ Xz b = true then (QcG a.1 b.1, QcG a.2 b.2) else ([], [])
def MV (a : F0) : F0 := if Xz a = true then (Lj a.1, Lj a.2) else ([], [])
def mPl (v n : Int) : Int := if n < 1 then 0 else MW v n
theorem Dp {v n : Int} : 0 <= mPl v n := by
 unfold mPl; split
 ·omega
 ·exact QbX Wa
theorem Do {v n : Int} (h : 1 <= n) : mPl v n < n := by
 rw [mPl, if_neg Wa]; exact QbW Wa
def SZ (l : List Int) (i : Int) : Int := if i < 0 \/ (l.length : Int) <= i then i.tmod 3 else l.getD i.toNat 0
theorem BU {l : List Int} {i : Int} (h0 : 0 <= i) (h : i < l.length) : SZ l i = l[i.toNat]'Wa := by
 rw [SZ, if_neg Wa, List.getD_eq_getElem?_getD, List.getElem?_eq_getElem Wa]; rfl
def I64 (x : Int) : Prop := -9223372036854775808 <= x /\ x <= 9223372036854775807
theorem Dk {l : List Int} {i : Int} (hl : ∀ x ∈ l, I64 x) (hi : I64 i) : I64 (SZ l i) := by
 by_cases h : i < 0 \/ (l.length : Int) <= i
 ·rw [SZ, if_pos h]
  have h1 := Int.tmod_lt_of_pos i (Wa : (0 : Int) < 3)
  have h2 := Int.lt_tmod_of_pos i (Wa : (0 : Int) < 3)
  exact ⟨Wa, Wa⟩
 ·rw [BU Wa Wa]
  exact hl _ (QiR _)
theorem Pg (x : Int) : I64 (IntKind.i64.wrap x) := by
 unfold IntKind.wrap I64
 simp only [IntKind.bits, IntKind.signed, Bool.true_and]
 split
 ·rename_i h
  have := of_decide_eq_true h
  omega
 ·rename_i h
  have : ¬ (x % 2 ^ 64 >= 2 ^ (64 - 1)) := fun hh => h (decide_eq_true hh)
  omega
theorem Nc {α : Type} {k : Nat} {v : α} {l : List (Nat × α)} : lk ((k, v) :: l) k = some v := by rw [Ql, if_pos rfl]
theorem NT {α : Type} {k : Nat} {v : α} {l : List (Nat × α)} : (lk ((k, v) :: l) k).isSome = true := by rw [Nc]; rfl
def gB (L : List Int) (I : Int) (et : Nat) : Box := ⟨[[QS L, .int .i64 I]], 2, et, true⟩
def nxI (I : Int) : Int := IntKind.i64.wrap (I + 1)
def nx (L : List Int) (I n : Int) : Int := mPl (SZ L (IntKind.i64.wrap (nxI I - 1))) n
def S6 (h m : Int) : Int := if Hi .and .i64 h m = h then 2 else if Hi .and .i64 h m = 0 then 0 else 1
theorem Lr {i : Nat} (h : i <= 62) : 1 <= (2 : Int) ^ i /\ (2 : Int) ^ i <= 4611686018427387904 := by
 have h1 : (2 : Nat) ^ i <= 2 ^ 62 := Nat.pow_le_pow_right Wa h
 have h2 : 1 <= (2 : Nat) ^ i := Nat.one_le_two_pow
 have h3 : ((2 ^ i : Nat) : Int) = (2 : Int) ^ i := by simp
 rw [<- h3]
 have h4 : (2 : Nat) ^ 62 = 4611686018427387904 := by decide
 omega
structure Vr where
 a : Int
 b : Int
 c : Int
 p : List UInt8
 q : List UInt8
def dVr (v : Vr) : List D := [.int .i64 v.a, .int .i64 v.b, .int .i64 v.c, .str v.p, .str v.q]
def Vr.sm (v : Vr) : Prop := v.p.length <= 100 /\ v.q.length <= 100
def versions : List Vr := [⟨1, 0, 0, [], []⟩, ⟨1, 2, 0, [], []⟩, ⟨2, 0, 0, [97, 46, 49], []⟩, ⟨2, 0, 0, [], []⟩]
theorem LF : ∀ v ∈ versions, v.sm := by
 intro v hv
 simp only [versions, QiO, QiN, or_false] at hv
 rcases hv with rfl | rfl | rfl | rfl <;> exact ⟨by decide, by decide⟩
theorem Ka {i : Nat} : ((i : Int) - 1).toNat = i - 1 := Wa
end M25
namespace Go.Proofs
open Go Go.Abs M3 M25
theorem Jq {a b c : Int} {p q : List UInt8} : Ok Tryz.prog 88 [.agg [.int .i64 a, .int .i64 b, .int .i64 c, .str p, .str q]] (.agg [.int .i64 a, .int .i64 b, .int .i64 c, .str p, .str []]) := by
 refine Ok.ofT ZL Tryz.func88 Qiw (QiM Z) ?_
 show TW _ _ tf88.body _ _
 refine Qb fun K hK => Zi Z Z Z (Zz Z (kc2 hK Z Z ?_))
 refine Qb fun K hK => Qe Z Z (QZ Z Z Z Z Z Z Z Z (kc2 hK Z Z ?_))
 refine Qb fun K hK => Qz (cs := [_, _, _, _, _]) Z Z Z Z (QZ Z Z Z Z Z Z Z Z (kc1 hK Z ?_))
 refine Qo (ZH (cs := [_, _, _, _, _]) Z Z Z Z ?_)
 exact rfl
theorem Y5  : Ok Tryz.prog 90 [] (.agg [.int .i64 (-1), .int .i64 0, .int .i64 0, .int .i64 0, .str [], .str [], .bool false]) := by
 refine Ok.ofT ZL Tryz.func90 Qiy (QiM Z) ?_
 show TW _ _ tf90.body _ _
 refine Qb fun K hK => Zz Z (kc1 hK Z ?_)
 refine Qb fun K hK => QT Z Z (QZ Z Z Z Z Z Z Z Z (kc1 hK Z ?_))
 refine Qo (ZH (cs := [_, _, _, _, _, _, _]) Z Z Z Z ?_)
 exact rfl
theorem Xh  : Ok Tryz.prog 92 [] (.agg [.int .i64 1, .int .i64 0, .int .i64 0, .int .i64 0, .str [], .str [], .bool false]) := by
 refine Ok.ofT ZL Tryz.func92 QiA (QiM Z) ?_
 show TW _ _ tf92.body _ _
 refine Qb fun K hK => Zz Z (kc1 hK Z ?_)
 refine Qb fun K hK => QT Z Z (QZ Z Z Z Z Z Z Z Z (kc1 hK Z ?_))
 refine Qo (ZH (cs := [_, _, _, _, _, _, _]) Z Z Z Z ?_)
 exact rfl
theorem YJ {a b c : Int} {p q : List UInt8} : Ok Tryz.prog 63 [.agg [.int .i64 a, .int .i64 b, .int .i64 c, .str p, .str q]] (.agg [.int .i64 0, .int .i64 a, .int .i64 b, .int .i64 c, .str p, .str [], .bool false]) := by
 refine Ok.ofT ZL Tryz.func63 Qib (QiM Z) ?_
 show TW _ _ tf63.body _ _
 refine Qb fun K hK => Zi Z Z Z (Zz Z (kc2 hK Z Z ?_))
 refine Qb fun K hK => Qz (cs := [_, _, _, _, _]) Z Z Z Z (Qv (Jq) Z Z (.inl Z) (QT Z Z (QZ Z Z Z Z Z Z Z Z (kc1 hK Z ?_))))
 refine Qo (ZH (cs := [_, _, _, _, _, _, _]) Z Z Z Z ?_)
 exact rfl
theorem Hz {a b c : Int} {p q : List UInt8} : Ok Tryz.prog 64 [.agg [.int .i64 a, .int .i64 b, .int .i64 c, .str p, .str q]] (.agg [.int .i64 0, .int .i64 a, .int .i64 b, .int .i64 c, .str p, .str [], .bool true]) := by
 refine Ok.ofT ZL Tryz.func64 Qic (QiM Z) ?_
 show TW _ _ tf64.body _ _
 refine Qb fun K hK => Zi Z Z Z (Zz Z (kc2 hK Z Z ?_))
 refine Qb fun K hK => Qz (cs := [_, _, _, _, _]) Z Z Z Z (Qv (Jq) Z Z (.inl Z) (QT Z Z (QZ Z Z Z Z Z Z Z Z (kc1 hK Z ?_))))
 refine Qo (ZH (cs := [_, _, _, _, _, _, _]) Z Z Z Z ?_)
 exact rfl
theorem X7 {a b c : Int} {p q : List UInt8} : Ok Tryz.prog 89 [.agg [.int .i64 a, .int .i64 b, .int .i64 c, .str p, .str q]] (.bool (NB a b c)) := by
 refine Ok.ofT ZL Tryz.func89 Qix (QiM Z) ?_
 show TW _ _ tf89.body _ _
 refine Qb fun K hK => Zi Z Z Z (Qa Z (kc1 hK Z ?_))
 refine Qb fun K hK => Qe Z Z (QA Z Z Z (Yw Z Z (Qa Z ?_)))
 refine Qp (g := 6) Z (fun h1 => ?_) (fun h1 => ?_)
 ·rw [h1]
  simp only [qB] at h1
  refine Qd Z (Qe Z Z (Qd Z (QA Z Z Z (Qd Z (Yw Z Z (Qg Z Z (Qa Z ?_)))))))
  refine Qp (g := 11) Z (fun h2 => ?_) (fun h2 => ?_)
  ·rw [h2]
   simp only [qB] at h2
   refine Qd Z (Qe Z Z (Qd Z (QA Z Z Z (Qd Z (Yw Z Z (Qg Z Z (Qa Z (kc1 hK Z ?_))))))))
   refine Qo (Qi Z ?_)
   (repeat clear hK K); simp_all [NB]
  ·rw [h2]
   simp only [qB] at h2
   refine gn3 Z Z Z (Qg Z Z (Qa Z (kc1 hK Z ?_)))
   refine Qo (Qi Z ?_)
   (repeat clear hK K); simp_all [NB]
 ·rw [h1]
  simp only [qB] at h1
  refine gn3 Z Z Z (Qg Z Z (Qa Z (gn3 Z Z Z (Qg Z Z (Qa Z (kc1 hK Z ?_))))))
  refine Qo (Qi Z ?_)
  (repeat clear hK K); simp_all [NB]
open Go Go.Abs M3 M25
theorem GW {a b c : Int} {p q : List UInt8} (hp : p.length <= 1000000) (hq : q.length <= 1000000) {part : Int} : Ok Tryz.prog 109 [.agg [.int .i64 a, .int .i64 b, .int .i64 c, .str p, .str q], .int .i64 part] (dOV (G3 a b c p q part)) := by
 refine Ok.ofT ZL Tryz.func109 Qgy (QiM Z) ?_
 show TW _ _ tf109.body _ _
 refine Qb fun K hK => Zi Z Z Z (Zz Z (Qa Z (kc3 hK Z Z Z ?_)))
 refine QB ?_ -- 0
 refine Qb fun K hK => Qz (cs := [_, _, _, _, _]) Z Z Z Z (Qv (Zb Wa Wa) Z Z (.inr Z) (ZB Z (Qa Z ?_)))
 refine Qp (g := 10) Z (fun h1 => ?_) (fun h1 => ?_)
 ·rw [h1]
  simp only [qB] at h1
  refine gn2 Z Z (Qg Z Z (Qa Z (gn2 Z Z (Qg Z Z (kc4 hK Z Z Z Z ?_)))))
  refine Zl Z (Qb fun K hK => QT Z Z (QZ Z Z Z Z Z Z Z Z (Qa Z (kc2 hK Z Z ?_))))
  refine Qo (Qj (Post.eq (XB (ds := [.int .i64 _, .int .i64 _, .int .i64 _, .str _, .str _]) (d' := .bool _) (cs := [_, _, _, _, _]) Z Z Z Z Z ⟨rfl, rfl⟩) ?_))
  (simp [G3, dOV, h1]; done)
 ·rw [h1]
  simp only [qB] at h1
  refine Qd Z (Qa Z (Qd Z (ZT Z Z (Qg Z Z (Qa Z ?_)))))
  refine Qp (g := 14) Z (fun h2 => ?_) (fun h2 => ?_)
  ·rw [h2]
   simp only [qB] at h2
   refine gn2 Z Z (Qg Z Z (kc4 hK Z Z Z Z ?_))
   refine Zl Z (Qb fun K hK => QT Z Z (QZ Z Z Z Z Z Z Z Z (Qa Z (kc2 hK Z Z ?_))))
   refine Qo (Qj (Post.eq (XB (ds := [.int .i64 _, .int .i64 _, .int .i64 _, .str _, .str _]) (d' := .bool _) (cs := [_, _, _, _, _]) Z Z Z Z Z ⟨rfl, rfl⟩) ?_))
   (simp [G3, dOV, h1, h2]; done)
  ·rw [h2]
   simp only [qB] at h2
   refine Qd Z (Qa Z (Qd Z (Kr Z Z (Qg Z Z (kc4 hK Z Z Z Z ?_)))))
   refine Qs Z (fun h3 => ?_) (fun h3 => ?_)
   ·rw [h3]
    simp only [qB] at h3
    refine Qb fun K hK => QT Z Z (QZ Z Z Z Z Z Z Z Z (Qa Z (kc2 hK Z Z ?_)))
    refine Qo (Qj (Post.eq (XB (ds := [.int .i64 _, .int .i64 _, .int .i64 _, .str _, .str _]) (d' := .bool _) (cs := [_, _, _, _, _]) Z Z Z Z Z ⟨rfl, rfl⟩) ?_))
    (simp [G3, dOV, h1, h2, h3]; done)
   ·rw [h3]
    simp only [qB] at h3
    refine Qq (ks3 Z Z Z (Qb fun K hK => Zz Z (kc4 hK Z Z Z Z ?_)))
    refine QB ?_ -- 1
    refine Qb fun K hK => Qa Z (kc4 hK Z Z Z Z ?_)
    refine QC (Qb fun K hK => Yw Z Z (Qa Z (kc5 hK Z Z Z Z Z ?_)))
    refine Qs Z (fun h4 => ?_) (fun h4 => ?_)
    ·rw [h4]
     simp only [qB] at h4
     refine QN fun K hK => Qe Z Z (QA Z Z Z (Q2 Z Z (Qr (by have := Gm (by simpa using h1); omega) (by have := Gm (by simpa using h1); omega)) (QT Z Z (QZ Z Z Z Z Z Z Z Z (hK _ ?_)))))
     refine Qh (ks2 Z Z ?_)
     refine QB ?_ -- 2
     refine Qb fun K hK => Qz (cs := [_, _, _, _, _]) Z Z Z Z (Qv (Zb Wd Wd) Z Z (.inr Z) (ZB Z (kc3 hK Z Z Z ?_)))
     refine Qs Z (fun h5 => ?_) (fun h5 => ?_)
     ·rw [h5]
      simp only [qB] at h5
      refine Qb fun K hK => QT Z Z (QZ Z Z Z Z Z Z Z Z (Qa Z (kc2 hK Z Z ?_)))
      refine Qo (Qj (Post.eq (XB (ds := [.int .i64 _, .int .i64 _, .int .i64 _, .str _, .str _]) (d' := .bool _) (cs := [_, _, _, _, _]) Z Z Z Z Z ⟨rfl, rfl⟩) ?_))
      (simp [G3, dOV, h1, h2, h3, h4, h5]; done)
     ·rw [h5]
      simp only [qB] at h5
      refine Qq (ks2 Z Z (Qb fun K hK => Qz (cs := [_, _, _, _, _]) Z Z Z Z (QZ Z Z Z Z Z Z Z Z (Qa Z (kc2 hK Z Z ?_)))))
      refine Qo (Post.eq (XB (ds := [.int .i64 _, .int .i64 _, .int .i64 _, .str _, .str _]) (d' := .bool _) (cs := [_, _, _, _, _]) Z Z Z Z Z ⟨rfl, rfl⟩) ?_)
      (simp [G3, dOV, h1, h2, h3, h4, h5]; done)
    ·rw [h4]
     simp only [qB] at h4
     refine Qb fun K hK => Yw Z Z (Qa Z (kc4 hK Z Z Z Z ?_))
     refine Qs Z (fun h6 => ?_) (fun h6 => ?_)
     ·rw [h6]
      simp only [qB] at h6
      refine QN fun K hK => Qe Z Z (QA Z Z Z (Qe Z Z (QA Z Z Z (Q2 Z Z (Qr (by have := Gm (by simpa using h1); omega) (by have := Gm (by simpa using h1); omega)) (QT Z Z (QZ Z Z Z Z Z Z Z Z (hK _ ?_)))))))
      refine Qh (ks2 Z Z ?_)
      refine QB ?_ -- 2
      refine Qb fun K hK => Qz (cs := [_, _, _, _, _]) Z Z Z Z (Qv (Zb Wd Wd) Z Z (.inr Z) (ZB Z (kc3 hK Z Z Z ?_)))
      refine Qs Z (fun h7 => ?_) (fun h7 => ?_)
      ·rw [h7]
       simp only [qB] at h7
       refine Qb fun K hK => QT Z Z (QZ Z Z Z Z Z Z Z Z (Qa Z (kc2 hK Z Z ?_)))
       refine Qo (Qj (Post.eq (XB (ds := [.int .i64 _, .int .i64 _, .int .i64 _, .str _, .str _]) (d' := .bool _) (cs := [_, _, _, _, _]) Z Z Z Z Z ⟨rfl, rfl⟩) ?_))
       (simp [G3, dOV, h1, h2, h3, h4, h6, h7]; done)
      ·rw [h7]
       simp only [qB] at h7
       refine Qq (ks2 Z Z (Qb fun K hK => Qz (cs := [_, _, _, _, _]) Z Z Z Z (QZ Z Z Z Z Z Z Z Z (Qa Z (kc2 hK Z Z ?_)))))
       refine Qo (Post.eq (XB (ds := [.int .i64 _, .int .i64 _, .int .i64 _, .str _, .str _]) (d' := .bool _) (cs := [_, _, _, _, _]) Z Z Z Z Z ⟨rfl, rfl⟩) ?_)
       (simp [G3, dOV, h1, h2, h3, h4, h6, h7]; done)
     ·rw [h6]
      simp only [qB] at h6
      refine QN fun K hK => Qe Z Z (QA Z Z Z (Qe Z Z (QA Z Z Z (Qe Z Z (QA Z Z Z (Q2 Z Z (Qr (by have := Gm (by simpa using h1); omega) (by have := Gm (by simpa using h1); omega)) (QT Z Z (QZ Z Z Z Z Z Z Z Z (hK _ ?_)))))))))
      refine Qh (ks2 Z Z ?_)
      refine QB ?_ -- 2
      refine Qb fun K hK => Qz (cs := [_, _, _, _, _]) Z Z Z Z (Qv (Zb Wd Wd) Z Z (.inr Z) (ZB Z (kc3 hK Z Z Z ?_)))
      refine Qs Z (fun h8 => ?_) (fun h8 => ?_)
      ·rw [h8]
       simp only [qB] at h8
       refine Qb fun K hK => QT Z Z (QZ Z Z Z Z Z Z Z Z (Qa Z (kc2 hK Z Z ?_)))
       refine Qo (Qj (Post.eq (XB (ds := [.int .i64 _, .int .i64 _, .int .i64 _, .str _, .str _]) (d' := .bool _) (cs := [_, _, _, _, _]) Z Z Z Z Z ⟨rfl, rfl⟩) ?_))
       (simp [G3, dOV, h1, h2, h3, h4, h6, h8]; done)
      ·rw [h8]
       simp only [qB] at h8
       refine Qq (ks2 Z Z (Qb fun K hK => Qz (cs := [_, _, _, _, _]) Z Z Z Z (QZ Z Z Z Z Z Z Z Z (Qa Z (kc2 hK Z Z ?_)))))
       refine Qo (Post.eq (XB (ds := [.int .i64 _, .int .i64 _, .int .i64 _, .str _, .str _]) (d' := .bool _) (cs := [_, _, _, _, _]) Z Z Z Z Z ⟨rfl, rfl⟩) ?_)
       (simp [G3, dOV, h1, h2, h3, h4, h6, h8]; done)
theorem GX {a b c : Int} {p q : List UInt8} (hp : p.length <= 1000000) (hq : q.length <= 1000000) : Ok Tryz.prog 91 [.agg [.int .i64 a, .int .i64 b, .int .i64 c, .str p, .str q]] (dOV (S3 a b c p q)) := by
 refine Ok.ofT ZL Tryz.func91 Qiz (QiM Z) ?_
 show TW _ _ tf91.body _ _
 refine Qb fun K hK => Zi Z Z Z (Zz Z (Qa Z (kc2 hK Z Z ?_)))
 refine QB ?_ -- 0
 refine Qb fun K hK => Qz (cs := [_, _, _, _, _]) Z Z Z Z (Qv (Zb Wa Wa) Z Z (.inr Z) (ZB Z (kc3 hK Z Z Z ?_)))
 refine Qs Z (fun h1 => ?_) (fun h1 => ?_)
 ·rw [h1]
  simp only [qB] at h1
  refine Qb fun K hK => QT Z Z (QZ Z Z Z Z Z Z Z Z (Qa Z (kc2 hK Z Z ?_)))
  refine Qo (Qj (Post.eq (XB (ds := [.int .i64 _, .int .i64 _, .int .i64 _, .str _, .str _]) (d' := .bool _) (cs := [_, _, _, _, _]) Z Z Z Z Z ⟨rfl, rfl⟩) ?_))
  simp [S3, dOV, h1]
 ·rw [h1]
  simp only [qB] at h1
  refine Qq (ks2 Z Z ?_)
  refine QB ?_ -- 1
  refine Qb fun K hK => Qe Z Z (QA Z Z Z (TJ Z Z (kc3 hK Z Z Z ?_)))
  refine Qs Z (fun h2 => ?_) (fun h2 => ?_)
  ·rw [h2]
   simp only [qB] at h2
   refine Qb fun K hK => Qe Z Z (QA Z Z Z (Qe Z Z (QA Z Z Z (Qe Z Z (QA Z Z Z (QT Z Z (QZ Z Z Z Z Z Z Z Z (Qa Z (kc2 hK Z Z ?_)))))))))
   refine Qo (Qj (Post.eq (XB (ds := [.int .i64 _, .int .i64 _, .int .i64 _, .str _, .str _]) (d' := .bool _) (cs := [_, _, _, _, _]) Z Z Z Z Z ⟨rfl, rfl⟩) ?_))
   simp [S3, dOV, h1, h2]
  ·rw [h2]
   simp only [qB] at h2
   refine Qq (ks2 Z Z ?_)
   refine QB ?_ -- 2
   refine Qb fun K hK => Qa Z (kc3 hK Z Z Z ?_)
   refine QC ?_
   refine Zs (ι := Nat) (fun m => ⟨[(1, .ref 1 0 0), (2, .ref 2 0 0), (4, .int .i64 ((m : Int) - 1))], [(1, ⟨[[.int .i64 a, .int .i64 b, .int .i64 c, .str p, .str q]], 5, 59, true⟩), (2, ⟨[[.int .i64 0, .int .i64 0, .int .i64 0, .str [], .str []]], 5, 59, true⟩)]⟩) (fun m => m <= 3 /\ XG a b c p q 3 = XG a b c p q m) (fun m => m) 3 ?_ ?_ ?_
   ·exact QW (l := [1, 2, 4]) (lH := [1, 2]) (kp3 rfl rfl rfl) (Qf rfl (Qf rfl Qn)) rfl rfl rfl
   ·exact ⟨Wa, rfl⟩
   intro m hI
   obtain ⟨hI1, hI2⟩ := hI
   refine QB ?_ -- 3
   refine Qb fun K hK => Qa Z (GQ Z Z (kc4 hK Z Z Z Z ?_))
   refine Qs Z (fun h3 => ?_) (fun h3 => ?_)
   ·rw [h3]
    simp only [qB] at h3
    rcases Nat.eq_zero_or_pos m with hm | hm <;> first | omega | skip
    refine Qq (ks3 Z Z Z ?_)
    refine QB ?_ -- 4
    refine QC (Qb fun K hK => Qz (cs := [_, _, _, _, _]) Z Z Z Z (Qa Z (Qv (GW Wa Wa) Z Z (.inl Z) (Qa Z (Q0 Z Z (Q0 Z Z (Zz Z (QZ Z Z Z Z Z Z Z Z (Qa Z (kc5 hK Z Z Z Z Z ?_))))))))))
    refine Qb fun K hK => Qa Z (kc5 hK Z Z Z Z Z ?_)
    refine Qs Z (fun h4 => ?_) (fun h4 => ?_)
    ·rw [h4]
     refine Qb fun K hK => Qz (cs := [_, _, _, _, _]) Z Z Z Z (QZ Z Z Z Z Z Z Z Z (Qa Z (kc2 hK Z Z ?_)))
     refine Qo (Qu (Qj (QV (Qu (Qj (Post.eq (XB (ds := [.int .i64 _, .int .i64 _, .int .i64 _, .str _, .str _]) (d' := .bool _) (cs := [_, _, _, _, _]) Z Z Z Z Z ⟨rfl, rfl⟩) ?_))))))
     subst h2
     simp [S3, dOV, h1, hI2, Sy hm h4, h4]
    ·rw [h4]
     refine Qq (Qh (ks3 Z Z Z (QN fun K hK => Qa Z (Hk Z Z Wb (Qa Z (hK _ ?_))))))
     refine Qk (m - 1) ?_ ?_ ?_
     ·refine QW (l := [1, 2, 4]) (lH := [1, 2]) (kp3 Z Z Z) (Qf Z (Qf Z Qn)) ?_ Z rfl; simp only [List.cons.injEq, Prod.mk.injEq, D.int.injEq, and_true, true_and]; omega
     ·exact ⟨Wa, by rw [hI2]; exact TP hm h4⟩
     ·show m - 1 < m; omega
   ·rw [h3]
    simp only [qB] at h3
    rcases Nat.eq_zero_or_pos m with hm | hm <;> first | omega | skip
    refine Q7 (QF (Qw (QE (ks1 Z (Qb fun K hK => QT Z Z (QZ Z Z Z Z Z Z Z Z (Qa Z (kc2 hK Z Z ?_))))))))
    refine Qo (Post.eq (XB (ds := [.int .i64 _, .int .i64 _, .int .i64 _, .str _, .str _]) (d' := .bool _) (cs := [_, _, _, _, _]) Z Z Z Z Z ⟨rfl, rfl⟩) ?_)
    subst h2
    subst hm
    have hb : XG a b c [] q 3 = none := hI2
    simp [S3, dOV, h1, hb]
open Go Go.Abs M3 M25
theorem X8 {e a b c : Int} {p q : List UInt8} {f : Bool} : Ok Tryz.prog 103 [.agg [.int .i64 e, .int .i64 a, .int .i64 b, .int .i64 c, .str p, .str q, .bool f]] (.bool (NC e a b c p q f)) := by
 refine Ok.ofT ZL Tryz.func103 Qgs (QiM Z) ?_
 show TW _ _ tf103.body _ _
 refine Qb fun K hK => Zi Z Z Z (Qa Z (kc1 hK Z ?_))
 refine Qb fun K hK => Qe Z Z (QA Z Z Z (YA Z Z (Qa Z ?_)))
 refine Qp (g := 6) Z (fun h1 => ?_) (fun h1 => ?_)
 ·rw [h1]
  simp only [qB] at h1
  refine gn4 Z Z Z Z (QI Z (QI Z (QI Z (QI Z (gn2 Z Z (QI Z (QI Z ?_)))))))
  refine QI Z (QI Z (Xd Z (Qg Z Z (Qa Z (kc1 hK Z ?_)))))
  refine Qo (Qi Z ?_)
  (repeat clear hK K); simp_all [NC]
 ·rw [h1]
  simp only [qB] at h1
  refine Qd Z (Qe Z Z (Qd Z (QA Z Z Z (Qd Z (ZB Z (Qd Z (Qa Z ?_)))))))
  refine Qp (g := 10) Z (fun h2 => ?_) (fun h2 => ?_)
  ·rw [h2]
   simp only [qB] at h2
   refine Qd Z (Qe Z Z (Qd Z (Qe Z Z (Qd Z (QA Z Z Z (Qd Z (KH Z Z (Qd Z (Qg Z Z (Qd Z (Qa Z ?_)))))))))))
   refine Qp (g := 16) Z (fun h3 => ?_) (fun h3 => ?_)
   ·rw [h3]
    simp only [qB] at h3
    refine Qd Z (Qe Z Z (Qd Z (Qz (cs := [_, _, _, _, _]) Z Z Z Z (Qd Z (Qv (X7) Z Z (.inr Z) (Qd Z (ZB Z (Qd Z (Qg Z Z (Qg Z Z (Qa Z ?_)))))))))))
    refine kc1 hK Z ?_
    refine Qo (Qi Z ?_)
    (repeat clear hK K); simp_all [NC]
   ·rw [h3]
    simp only [qB] at h3
    refine gn4 Z Z Z Z (Qd Z (Qg Z Z (Qg Z Z (Qa Z (kc1 hK Z ?_)))))
    refine Qo (Qi Z ?_)
    (repeat clear hK K); simp_all [NC]
  ·rw [h2]
   simp only [qB] at h2
   refine gn4 Z Z Z Z (Qd Z (Qg Z Z (Qd Z (Qa Z (gn4 Z Z Z Z ?_)))))
   refine Qd Z (Qg Z Z (Qg Z Z (Qa Z (kc1 hK Z ?_))))
   refine Qo (Qi Z ?_)
   (repeat clear hK K); simp_all [NC]
theorem GF {a b c : Int} {p q : List UInt8} : Ok Tryz.prog 65 [.agg [.int .i64 a, .int .i64 b, .int .i64 c, .str p, .str q]] (.agg (dCu (MS a b c))) := by
 refine Ok.ofT ZL Tryz.func65 Qid (QiM Z) ?_
 show TW _ _ tf65.body _ _
 refine Qb fun K hK => Zi Z Z Z (Zz Z (kc2 hK Z Z ?_))
 refine QB ?_ -- 0
 refine Qb fun K hK => Qz (cs := [_, _, _, _, _]) Z Z Z Z (Qv (X7) Z Z (.inr Z) (kc3 hK Z Z Z ?_))
 refine Qs Z (fun h1 => ?_) (fun h1 => ?_)
 ·rw [h1]
  refine Qb fun K hK => Qv (Y5) Z Z (.inl Z) (QZ Z Z Z Z Z Z Z Z (kc1 hK Z ?_))
  refine Qo (Qj (Post.eq (ZH (ds := [.int .i64 _, .int .i64 _, .int .i64 _, .int .i64 _, .str _, .str _, .bool _]) (cs := [_, _, _, _, _, _, _]) Z Z Z Z Z) ?_))
  simp [MS, dCu, GJ, h1]
 ·rw [h1]
  refine Qq (ks2 Z Z (Qb fun K hK => Qe Z Z (QA Z Z Z (Qe Z Z (QA Z Z Z (Qe Z Z (QA Z Z Z (QT Z Z (Qv (YJ) Z Z (.inl Z) (QZ Z Z Z Z Z Z Z Z ?_))))))))))
  refine kc1 hK Z ?_
  refine Qo (Post.eq (ZH (ds := [.int .i64 _, .int .i64 _, .int .i64 _, .int .i64 _, .str _, .str _, .bool _]) (cs := [_, _, _, _, _, _, _]) Z Z Z Z Z) ?_)
  simp [MS, dCu, GJ, h1]
theorem HA {a b c : Int} {p q : List UInt8} : Ok Tryz.prog 66 [.agg [.int .i64 a, .int .i64 b, .int .i64 c, .str p, .str q]] (.agg (dCu (FF a b c))) := by
 refine Ok.ofT ZL Tryz.func66 Qie (QiM Z) ?_
 show TW _ _ tf66.body _ _
 refine Qb fun K hK => Zi Z Z Z (Zz Z (kc2 hK Z Z ?_))
 refine Qb fun K hK => Qe Z Z (QA Z Z Z (Qe Z Z (QA Z Z Z (Qe Z Z (QA Z Z Z (QT Z Z (Qv (GX Wd Wd) Z Z (.inl Z) (Qa Z (Q0 Z Z (Q0 Z Z ?_))))))))))
 refine Zz Z (QZ Z Z Z Z Z Z Z Z (Qa Z (kc3 hK Z Z Z ?_)))
 refine QB ?_ -- 0
 refine Qb fun K hK => Qa Z (ZB Z (kc3 hK Z Z Z ?_))
 refine Qs Z (fun h1 => ?_) (fun h1 => ?_)
 ·rw [h1]
  simp only [qB] at h1
  refine Qb fun K hK => Qv (Xh) Z Z (.inl Z) (QZ Z Z Z Z Z Z Z Z (kc1 hK Z ?_))
  refine Qo (Qj (Post.eq (ZH (ds := [.int .i64 _, .int .i64 _, .int .i64 _, .int .i64 _, .str _, .str _, .bool _]) (cs := [_, _, _, _, _, _, _]) Z Z Z Z Z) ?_))
  cases hn : S3 a b c [] [] <;> simp [FF, dCu, Pv, hn] at *
 ·rw [h1]
  simp only [qB] at h1
  refine Qq (ks2 Z Z (Qb fun K hK => Qz (cs := [_, _, _, _, _]) Z Z Z Z (Qv (YJ) Z Z (.inl Z) (QZ Z Z Z Z Z Z Z Z (kc1 hK Z ?_)))))
  refine Qo (Post.eq (ZH (ds := [.int .i64 _, .int .i64 _, .int .i64 _, .int .i64 _, .str _, .str _, .bool _]) (cs := [_, _, _, _, _, _, _]) Z Z Z Z Z) ?_)
  cases hn : S3 a b c [] [] <;> simp [FF, dCu, Pv, hn] at *
theorem X9  : Ok Tryz.prog 85 [] (Zm [(GJ, Pv)]) := by
 refine Ok.ofT ZL Tryz.func85 Qit (QiM Z) ?_
 show TW _ _ tf85.body _ _
 refine Qb fun K hK => Qa Z (hK _ _ (TK (Zg) ?_))
 refine Qb fun K hK => Qv (Y5) Z Z (.inl Z) (Qv (Xh) Z Z (.inl Z) (QT Z Z (QK Z Z (Qa Z (kc1 hK Z ?_)))))
 refine Qo (ZW Z ?_)
 rfl
theorem Z8  : Ok Tryz.prog 62 [] (Mx ([], [])) := by
 refine Ok.ofT ZL Tryz.func62 Qia (QiM Z) ?_
 show TW _ _ tf62.body _ _
 refine Qb fun K hK => Zz Z (kc1 hK Z ?_)
 refine Qb fun K hK => QT Z Z (QZ Z Z Z Z Z Z Z Z (kc1 hK Z ?_))
 refine Qo (Post.eq (ZH (ds := [.sl _, .sl _]) (cs := [_, _]) Z Z Z Z Z) ?_)
 rfl
theorem JY  : Ok Tryz.prog 60 [] (Mx ([(GJ, Pv)], [(GJ, Pv)])) := by
 refine Ok.ofT ZL Tryz.func60 Qh8 (QiM Z) ?_
 show TW _ _ tf60.body _ _
 refine Qb fun K hK => Zz Z (kc1 hK Z ?_)
 refine Qb fun K hK => Qv (X9) Z Z (.inl Z) (Qv (X9) Z Z (.inl Z) (QT Z Z (QZ Z Z Z Z Z Z Z Z (kc1 hK Z ?_))))
 refine Qo (Post.eq (ZH (ds := [.sl _, .sl _]) (cs := [_, _]) Z Z Z Z Z) ?_)
 rfl
theorem X6 {a b c : Int} {p q : List UInt8} (hp : p.length <= 1000000) (hq : q.length <= 1000000) : Ok Tryz.prog 32 [.agg [.int .i64 a, .int .i64 b, .int .i64 c, .str p, .str q]] (Mx (Xa a b c p q)) := by
 refine Ok.ofT ZL Tryz.func32 QhL (QiM Z) ?_
 show TW _ _ tf32.body _ _
 refine Qb fun K hK => Zi Z Z Z (Zz Z (kc2 hK Z Z ?_))
 refine QB ?_ -- 0
 refine Qb fun K hK => Qz (cs := [_, _, _, _, _]) Z Z Z Z (Qv (Zb Wa Wa) Z Z (.inr Z) (ZB Z (kc3 hK Z Z Z ?_)))
 refine Qs Z (fun h1 => ?_) (fun h1 => ?_)
 ·rw [h1]
  simp only [qB] at h1
  refine Qb fun K hK => Qv (Z8) Z Z (.inl Z) (QZ Z Z Z Z Z Z Z Z (kc1 hK Z ?_))
  refine Qo (Qj (Post.eq (ZH (ds := [.sl _, .sl _]) (cs := [_, _]) Z Z Z Z Z) ?_))
  simp [Xa, Mx, Zm, NI, dCu, h1]
 ·rw [h1]
  simp only [qB] at h1
  refine Qq (ks2 Z Z ?_)
  refine QB ?_ -- 1
  refine Qb fun K hK => Qe Z Z (QA Z Z Z (TJ Z Z (kc3 hK Z Z Z ?_)))
  refine Qs Z (fun h2 => ?_) (fun h2 => ?_)
  ·rw [h2]
   simp only [qB] at h2
   refine Qb fun K hK => QL (ds0 := [6, 3, 2, 1, 0]) (cs := [_, _, _, _, _]) Z Z Z Z Z Z (Q5 (ds0 := [3, 2, 1, 0]) (YJ) Z Z (.inl Z) Z Z (QL (ds0 := [4, 3, 2, 1, 0]) (cs := [_, _, _, _, _]) Z Z Z Z Z Z (Q5 (ds0 := [3, 2, 1, 0]) (Hz) Z Z (.inl Z) Z Z (QT Z Z (QK Z Z (QT Z Z (YR (ds0 := []) Z Z Z Z Z Z Z Z Z Z (kc1 hK Z ?_))))))))
   refine Qo (Qj (Post.eq (ZH (ds := [.sl _, .sl _]) (cs := [_, _]) Z Z Z Z Z) ?_))
   simp [Xa, Mx, Zm, NI, dCu, h1, h2]
  ·rw [h2]
   simp only [qB] at h2
   refine Qq (ks2 Z Z (Qb fun K hK => QL (ds0 := [6, 3, 2, 1, 0]) (cs := [_, _, _, _, _]) Z Z Z Z Z Z (Q5 (ds0 := [3, 2, 1, 0]) (GF) Z Z (.inl Z) Z Z (QL (ds0 := [4, 3, 2, 1, 0]) (cs := [_, _, _, _, _]) Z Z Z Z Z Z (Q5 (ds0 := [3, 2, 1, 0]) (HA) Z Z (.inl Z) Z Z (QT Z Z (QK Z Z (QT Z Z (YR (ds0 := []) Z Z Z Z Z Z Z Z Z Z (kc1 hK Z ?_))))))))))
   refine Qo (Post.eq (ZH (ds := [.sl _, .sl _]) (cs := [_, _]) Z Z Z Z Z) ?_)
   subst h2
   simp [Xa, Mx, Zm, NI, dCu, h1]
open Go Go.Abs M3 M25
theorem ZX {l : List (Cu × Cu)} (hl : Sm l) : Ok Tryz.prog 102 [Zm l] (.bool (Hj l)) := by
 refine Ok.ofT ZL Tryz.func102 Qgr (QiM Z) ?_
 show TW _ _ tf102.body _ _
 have hn := hl.1
 refine Qb fun K hK => Qa Z (kc1 hK Z ?_)
 refine QB ?_ -- 0
 refine Qb fun K hK => Qa Z (kc2 hK Z Z ?_)
 refine QC ?_
 refine Zs (ι := Nat) (fun i => ⟨[(0, Zm l), (3, .int .i64 i)], []⟩) (fun i => i <= l.length /\ (List.range i).all (QdO l) = true) (fun i => l.length - i) 0 ?_ ?_ ?_
 ·exact Q4 (kp2 rfl rfl)
 ·exact ⟨QiY _, rfl⟩
 intro i hI
 refine QB ?_ -- 1
 refine Qb fun K hK => mv2 Z Z (Zd Z Z (ZT Z Z (kc3 hK Z Z Z ?_)))
 refine Qs Z (fun h1 => ?_) (fun h1 => ?_)
 ·rw [h1]
  simp only [qA] at h1
  refine Qq (ks2 Z Z ?_)
  refine QB ?_ -- 2
  refine QC (Qb fun K hK => mv2 Z Z (QJ Z Z Z Wa (Q6 Wa) Z (QL (ds0 := [20, 19, 18, 17, 16, 15, 14, 13, 12, 11, 10, 9, 8, 7, 6, 5, 4, 3, 2, 1, 0]) (cs := [_, _, _, _, _, _, _, _, _, _, _, _, _, _]) Z Z Z Z Z Z (Q5 (ds0 := [19, 18, 17, 16, 15, 14, 13, 12, 11, 10, 9, 8, 7, 6, 5, 4, 3, 2, 1, 0]) (YE (hl.at (i := i) Wa).1.1 (hl.at (i := i) Wa).1.2 (hl.at (i := i) Wa).2.1 (hl.at (i := i) Wa).2.2) Z Z (.inr Z) Z Z (ZB Z (Qa Z ?_))))))
  refine Qp (g := 16) Z (fun h2 => ?_) (fun h2 => ?_)
  ·rw [h2]
   simp only [qA] at h2
   refine gn3 Z Z Z (QI Z (QI Z (QI Z (QI Z (QI Z (QI Z (QI Z (QI Z (QI Z ?_)))))))))
   refine QI Z (QI Z (QI Z (QI Z (Xd Z (Qg Z Z (kc3 hK Z Z Z ?_))))))
   refine Zl Z (Qb fun K hK => Qa Z (kc1 hK Z ?_))
   refine Qo (Qu (Qj (QV (Qu (Qj (Qi Z ?_))))))
   first
    | exact (Gr hI.2 Wa).symm
    | exact (Yv (i := i) Wa (He Wa (.inl h2))).symm
    | (simp only [Ka] at *; exact (Yv (i := i) Wa (He Wa (.inr ⟨Wa, h4⟩))).symm)
  ·rw [h2]
   simp only [qA] at h2
   refine Qd Z (Qa Z (Qd Z (Kr Z Z (Qd Z (Qa Z ?_)))))
   refine Qp (g := 19) Z (fun h3 => ?_) (fun h3 => ?_)
   ·rw [h3]
    simp only [qA] at h3
    refine Qd Z (Qa Z (Qd Z (Qa Z (Qd Z (Hk Z Z Wb (Qd Z (QJ Z Z Z Wa (Zt Wa Wa) Z (Qd Z (Zj Z Z (Qd Z (QL (ds0 := [3, 2, 1, 0]) (cs := [_, _, _, _, _, _, _]) Z Z Z Z Z Z ?_)))))))))))
    refine Qd Z (Qa Z (Qd Z (Qa Z (Qd Z (QJ Z Z Z Wa (Q6 Wa) Z (Qd Z (Zj Z Z (Qd Z (QL (ds0 := [3, 2, 1, 0]) (cs := [_, _, _, _, _, _, _]) Z Z Z Z Z Z (Qd Z (Q5 (ds0 := [2, 1, 0]) (ZA (hl.at (i := ((i : Int) - 1).toNat) Wa).2.1 (hl.at (i := ((i : Int) - 1).toNat) Wa).2.2 (hl.at (i := i) Wa).1.1 (hl.at (i := i) Wa).1.2) Z Z (.inr Z) Z Z ?_)))))))))))
    refine Qd Z (GQ Z Z (Qd Z (Qg Z Z (Qg Z Z (kc3 hK Z Z Z ?_)))))
    refine Qs Z (fun h4 => ?_) (fun h4 => ?_)
    ·rw [h4]
     simp only [qA] at h4
     refine Qb fun K hK => Qa Z (kc1 hK Z ?_)
     refine Qo (Qu (Qj (QV (Qu (Qj (Qi Z ?_))))))
     first
      | exact (Gr hI.2 Wa).symm
      | exact (Yv (i := i) Wa (He Wa (.inl h2))).symm
      | (simp only [Ka] at *; exact (Yv (i := i) Wa (He Wa (.inr ⟨Wa, h4⟩))).symm)
    ·rw [h4]
     simp only [qA] at h4
     refine Qq (Qh (ks2 Z Z (QN fun K hK => Qa Z (Q2 Z Z Wb (Qa Z (hK _ ?_))))))
     refine Qk (i + 1) ?_ ?_ ?_
     ·exact Q4 (kp2 rfl rfl)
     ·exact ⟨Wa, K1 hI.2 (DA Wa h2 (by (simp only [Ka] at *; exact .inr (Int.not_le.1 h4))))⟩
     ·omega
   ·rw [h3]
    simp only [qA] at h3
    refine gn4 Z Z Z Z (gn4 Z Z Z Z (gn4 Z Z Z Z ?_))
    refine Xd Z (Qd Z (Qg Z Z (Qg Z Z (kc3 hK Z Z Z ?_))))
    refine Zk Z (Qq (Qh (ks2 Z Z (QN fun K hK => Qa Z (Q2 Z Z Wb (Qa Z (hK _ ?_)))))))
    refine Qk (i + 1) ?_ ?_ ?_
    ·exact Q4 (kp2 rfl rfl)
    ·exact ⟨Wa, K1 hI.2 (DA Wa h2 (by exact .inl Wa))⟩
    ·omega
 ·rw [h1]
  simp only [qA] at h1
  refine Q7 (QF (Qw (QE (QX (Zg) (Qb fun K hK => Qa Z (kc1 hK Z ?_))))))
  refine Qo (Qi Z ?_)
  first
   | exact (Gr hI.2 Wa).symm
   | exact (Yv (i := i) Wa (He Wa (.inl h2))).symm
   | (simp only [Ka] at *; exact (Yv (i := i) Wa (He Wa (.inr ⟨Wa, h4⟩))).symm)
theorem Ku {l : List (Cu × Cu)} (hl : Sm l) {x y : Cu} (hx : Cu.sm x) (hy : Cu.sm y) : Ok Tryz.prog 127 [Zm l, .agg (dCu x), .agg (dCu y)] (.bool (mIn l x y)) := by
 refine Ok.ofT ZL Tryz.func127 QgQ (QiM Z) ?_
 show TW _ _ tf127.body _ _
 have hn := hl.1
 refine Qb fun K hK => Zi Z Z Z (Zi Z Z Z (Qa Z (kc3 hK Z Z Z ?_)))
 refine QB ?_ -- 0
 refine Qb fun K hK => Qa Z (kc4 hK Z Z Z Z ?_)
 refine QC ?_
 refine Zs (ι := Nat) (fun i => ⟨[(0, Zm l), (4, .ref 4 0 0), (5, .ref 5 0 0), (7, .int .i64 i)], [(4, ⟨[dCu x], 7, 113, true⟩), (5, ⟨[dCu y], 7, 113, true⟩)]⟩) (fun i => i <= l.length /\ (l.take i).any (inC x y) = false) (fun i => l.length - i) 0 ?_ ?_ ?_
 ·exact QW (l := [0, 4, 5, 7]) (lH := [4, 5]) (kp4 rfl rfl rfl rfl) (Qf rfl (Qf rfl Qn)) rfl rfl rfl
 ·exact ⟨QiY _, by simp⟩
 intro i hI
 refine QB ?_ -- 1
 refine Qb fun K hK => mv2 Z Z (Zd Z Z (ZT Z Z (kc5 hK Z Z Z Z Z ?_)))
 refine Qs Z (fun h1 => ?_) (fun h1 => ?_)
 ·rw [h1]
  simp only [qA] at h1
  refine Qq (ks4 Z Z Z Z ?_)
  refine QB ?_ -- 2
  refine QC (Qb fun K hK => mv2 Z Z (QJ Z Z Z Wa (Q6 Wa) Z (Zj Z Z (QL (ds0 := [11, 10, 9, 8, 7, 6, 5, 4, 3, 2, 1, 0]) (cs := [_, _, _, _, _, _, _]) Z Z Z Z Z Z (QL (ds0 := [11, 10, 9, 8, 7, 6, 5, 4, 3, 2, 1, 0]) (cs := [_, _, _, _, _, _, _]) Z Z Z Z Z Z (Q5 (ds0 := [10, 9, 8, 7, 6, 5, 4, 3, 2, 1, 0]) (ZA (hl.at (i := i) Wa).1.1 (hl.at (i := i) Wa).1.2 hx.1 hx.2) Z Z (.inr Z) Z Z (CJ Z Z (Qa Z ?_))))))))
  refine Qp (g := 22) Z (fun h2 => ?_) (fun h2 => ?_)
  ·rw [h2]
   simp only [qA] at h2
   refine Qd Z (QL (ds0 := [2, 1, 0]) (cs := [_, _, _, _, _, _, _]) Z Z Z Z Z Z (Qd Z (Qa Z (Qd Z (Qa Z (Qd Z (QJ Z Z Z Wa (Q6 Wa) Z (Qd Z (Zj Z Z (Qd Z (QL (ds0 := [2, 1, 0]) (cs := [_, _, _, _, _, _, _]) Z Z Z Z Z Z ?_)))))))))))
   refine Qd Z (Q5 (ds0 := [1, 0]) (ZA hy.1 hy.2 (hl.at (i := i) Wa).2.1 (hl.at (i := i) Wa).2.2) Z Z (.inr Z) Z Z (Qd Z (CJ Z Z (Qg Z Z (kc5 hK Z Z Z Z Z ?_)))))
   refine Qs Z (fun h3 => ?_) (fun h3 => ?_)
   ·rw [h3]
    simp only [qA] at h3
    refine Qb fun K hK => Qa Z (kc1 hK Z ?_)
    refine Qo (Qu (Qj (QV (Qu (Qj (Qi Z ?_))))))
    first
     | exact (Qcq (i := i) Wa hI.2).symm
     | exact (TL (i := i) Wa (Qfd h2 h3)).symm
   ·rw [h3]
    simp only [qA] at h3
    refine Qq (Qh (ks4 Z Z Z Z (QN fun K hK => Qa Z (Q2 Z Z Wb (Qa Z (hK _ ?_))))))
    refine Qk (i + 1) ?_ ?_ ?_
    ·exact QW (l := [0, 4, 5, 7]) (lH := [4, 5]) (kp4 rfl rfl rfl rfl) (Qf rfl (Qf rfl Qn)) rfl rfl rfl
    ·exact ⟨Wa, Mk Wa hI.2 (Qfc (by exact .inr h3))⟩
    ·omega
  ·rw [h2]
   simp only [qA] at h2
   refine gn4 Z Z Z Z (gn4 Z Z Z Z (Qg Z Z (kc5 hK Z Z Z Z Z ?_)))
   refine Zk Z (Qq (Qh (ks4 Z Z Z Z (QN fun K hK => Qa Z (Q2 Z Z Wb (Qa Z (hK _ ?_)))))))
   refine Qk (i + 1) ?_ ?_ ?_
   ·exact QW (l := [0, 4, 5, 7]) (lH := [4, 5]) (kp4 rfl rfl rfl rfl) (Qf rfl (Qf rfl Qn)) rfl rfl rfl
   ·exact ⟨Wa, Mk Wa hI.2 (Qfc (by exact .inl h2))⟩
   ·omega
 ·rw [h1]
  simp only [qA] at h1
  refine Q7 (QF (Qw (QE (QX (Zg) (Qb fun K hK => Qa Z (kc1 hK Z ?_))))))
  refine Qo (Qi Z ?_)
  first
   | exact (Qcq (i := i) Wa hI.2).symm
   | exact (TL (i := i) Wa (Qfd h2 h3)).symm
open Go Go.Abs M3 M25
theorem JU {l : List (Cu × Cu)} (hl : Sm l) {a b c : Int} {p q : List UInt8} (hp : p.length <= 1000000) (hq : q.length <= 1000000) : Ok Tryz.prog 84 [Zm l, .agg [.int .i64 a, .int .i64 b, .int .i64 c, .str p, .str q]] (.bool (Px l a b c p q)) := by
 refine Ok.ofT ZL Tryz.func84 Qis (QiM Z) ?_
 show TW _ _ tf84.body _ _
 have hn := hl.1
 refine Qb fun K hK => Zi Z Z Z (Qa Z (kc2 hK Z Z ?_))
 refine QB ?_ -- 0
 refine Qb fun K hK => Qa Z (kc3 hK Z Z Z ?_)
 refine QC ?_
 refine Zs (ι := Nat) (fun i => ⟨[(0, Zm l), (3, .ref 3 0 0), (5, .int .i64 i)], [(3, ⟨[[.int .i64 a, .int .i64 b, .int .i64 c, .str p, .str q]], 5, 59, true⟩)]⟩) (fun i => i <= l.length /\ (l.take i).any (fun s => MU s a b c p q) = false) (fun i => l.length - i) 0 ?_ ?_ ?_
 ·exact QW (l := [0, 3, 5]) (lH := [3]) (kp3 rfl rfl rfl) (Qf rfl Qn) rfl rfl rfl
 ·exact ⟨QiY _, by simp⟩
 intro i hI
 refine QB ?_ -- 1
 refine Qb fun K hK => mv2 Z Z (Zd Z Z (ZT Z Z (Qa Z ?_)))
 refine Qp (g := 10) Z (fun h1 => ?_) (fun h1 => ?_)
 ·rw [h1]
  simp only [qA] at h1
  refine Qd Z (Qa Z (Qd Z (Qv (ZX hl) Z Z (.inr Z) (Qg Z Z (kc4 hK Z Z Z Z ?_)))))
  refine Qs Z (fun h2 => ?_) (fun h2 => ?_)
  ·rw [h2]
   refine Qq (ks3 Z Z Z ?_)
   refine QB ?_ -- 2
   refine QC (Qb fun K hK => mv2 Z Z (QJ Z Z Z Wa (Q6 Wa) Z (QL (ds0 := [0]) (cs := [_, _, _, _, _, _, _, _, _, _, _, _, _, _]) Z Z Z Z Z Z (QL (ds0 := [0]) (cs := [_, _, _, _, _]) Z Z Z Z Z Z (Q5 (ds0 := []) (GE (hl.at (i := i) Wa).1.1 (hl.at (i := i) Wa).1.2 (hl.at (i := i) Wa).2.1 (hl.at (i := i) Wa).2.2 hp hq) Z Z (.inr Z) Z Z (kc4 hK Z Z Z Z ?_))))))
   refine Qs Z (fun h3 => ?_) (fun h3 => ?_)
   ·rw [h3]
    simp only [qA] at h3
    refine Qb fun K hK => Qa Z (kc1 hK Z ?_)
    refine Qo (Qu (Qj (QV (Qu (Qj (Qi Z ?_))))))
    first
     | exact (Gf (i := i) Wa hI.2).symm
     | exact (Gg h2).symm
     | exact (Gi h2 (i := i) Wa h3).symm
   ·rw [h3]
    simp only [qA] at h3
    refine Qq (Qh (ks3 Z Z Z (QN fun K hK => Qa Z (Q2 Z Z Wb (Qa Z (hK _ ?_))))))
    refine Qk (i + 1) ?_ ?_ ?_
    ·exact QW (l := [0, 3, 5]) (lH := [3]) (kp3 rfl rfl rfl) (Qf rfl Qn) rfl rfl rfl
    ·exact ⟨Wa, Mk Wa hI.2 h3⟩
    ·omega
  ·rw [h2]
   refine Q7 (QF (Qw (QE (QX (Zg) (Qb fun K hK => Qa Z (kc1 hK Z ?_))))))
   refine Qo (Qi Z ?_)
   first
    | exact (Gf (i := i) Wa hI.2).symm
    | exact (Gg h2).symm
    | exact (Gi h2 (i := i) Wa h3).symm
 ·rw [h1]
  simp only [qA] at h1
  refine gn2 Z Z (Qg Z Z (kc4 hK Z Z Z Z ?_))
  refine Zk Z (Q7 (QF (Qw (QE (QX (Zg) (Qb fun K hK => Qa Z (kc1 hK Z ?_)))))))
  refine Qo (Qi Z ?_)
  first
   | exact (Gf (i := i) Wa hI.2).symm
   | exact (Gg h2).symm
   | exact (Gi h2 (i := i) Wa h3).symm
theorem Yj {s : List (Cu × Cu) × List (Cu × Cu)} (h1s : Sm s.1) (h2s : Sm s.2) : Ok Tryz.prog 83 [Mx s] (.bool (Xz s)) := by
 refine Ok.ofT ZL Tryz.func83 Qir (QiM Z) ?_
 show TW _ _ tf83.body _ _
 have hn := h1s.1
 refine Qb fun K hK => Zi Z Z Z (Qa Z (kc1 hK Z ?_))
 refine QB ?_ -- 0
 refine Qb fun K hK => Qe Z Z (QA Z Z Z (Qv (ZX h1s) Z Z (.inr Z) (ZB Z (Qa Z ?_))))
 refine Qp (g := 8) Z (fun h1 => ?_) (fun h1 => ?_)
 ·rw [h1]
  simp only [qA] at h1
  refine gn4 Z Z Z Z (Qg Z Z (kc2 hK Z Z ?_))
  refine Zl Z (Qb fun K hK => Qa Z (kc1 hK Z ?_))
  refine Qo (Qj (Qi Z ?_))
  first
   | exact (FI (i := i) h1 h2 Wa hI.2).symm
   | exact (Jz (i := i) Wa (.inl h4)).symm
   | exact (Jz (i := i) Wa (.inr h5)).symm
   | exact (Kp (.inl h1)).symm
   | exact (Kp (.inr h2)).symm
 ·rw [h1]
  simp only [qA] at h1
  refine Qd Z (Qe Z Z (Qd Z (QA Z Z Z (Qd Z (Qv (ZX h2s) Z Z (.inr Z) (Qd Z (ZB Z (Qg Z Z (kc2 hK Z Z ?_)))))))))
  refine Qs Z (fun h2 => ?_) (fun h2 => ?_)
  ·rw [h2]
   simp only [qA] at h2
   refine Qb fun K hK => Qa Z (kc1 hK Z ?_)
   refine Qo (Qj (Qi Z ?_))
   first
    | exact (FI (i := i) h1 h2 Wa hI.2).symm
    | exact (Jz (i := i) Wa (.inl h4)).symm
    | exact (Jz (i := i) Wa (.inr h5)).symm
    | exact (Kp (.inl h1)).symm
    | exact (Kp (.inr h2)).symm
  ·rw [h2]
   simp only [qA] at h2
   refine Qq (ks1 Z ?_)
   refine QB ?_ -- 1
   refine Qb fun K hK => Qa Z (kc2 hK Z Z ?_)
   refine QC ?_
   refine Zs (ι := Nat) (fun i => ⟨[(1, .ref 1 0 0), (3, .int .i64 i)], [(1, ⟨[[Zm s.1, Zm s.2]], 2, 66, true⟩)]⟩) (fun i => i <= s.1.length /\ (s.1.take i).all (fun x => Xl x.1 && Xl x.2) = true) (fun i => s.1.length - i) 0 ?_ ?_ ?_
   ·exact QW (l := [1, 3]) (lH := [1]) (kp2 rfl rfl) (Qf rfl Qn) rfl rfl rfl
   ·exact ⟨QiY _, by simp⟩
   intro i hI
   refine QB ?_ -- 2
   refine Qb fun K hK => Qa Z (Qe Z Z (QA Z Z Z (Zd Z Z (ZT Z Z (kc3 hK Z Z Z ?_)))))
   refine Qs Z (fun h3 => ?_) (fun h3 => ?_)
   ·rw [h3]
    simp only [qA] at h3
    refine Qq (ks2 Z Z ?_)
    refine QB ?_ -- 3
    refine QC (Qb fun K hK => Qe Z Z (QA Z Z Z (Qa Z (QJ Z Z Z Wa (Q6 Wa) Z (Zj Z Z (Qz (cs := [_, _, _, _, _, _, _]) Z Z Z Z (Qv (X8) Z Z (.inr Z) (ZB Z (Qa Z ?_)))))))))
    refine Qp (g := 29) Z (fun h4 => ?_) (fun h4 => ?_)
    ·rw [h4]
     simp only [qA] at h4
     refine gn4 Z Z Z Z (gn4 Z Z Z Z (Qg Z Z (kc3 hK Z Z Z ?_)))
     refine Zl Z (Qb fun K hK => Qa Z (kc1 hK Z ?_))
     refine Qo (Qu (Qj (QV (Qu (Qj (Qi Z ?_))))))
     first
      | exact (FI (i := i) h1 h2 Wa hI.2).symm
      | exact (Jz (i := i) Wa (.inl h4)).symm
      | exact (Jz (i := i) Wa (.inr h5)).symm
      | exact (Kp (.inl h1)).symm
      | exact (Kp (.inr h2)).symm
    ·rw [h4]
     simp only [qA] at h4
     refine Qd Z (Qe Z Z (Qd Z (QA Z Z Z (Qd Z (Qa Z (Qd Z (QJ Z Z Z Wa (Q6 Wa) Z (Qd Z (Zj Z Z (Qd Z (Qz (cs := [_, _, _, _, _, _, _]) Z Z Z Z ?_)))))))))))
     refine Qd Z (Qv (X8) Z Z (.inr Z) (Qd Z (ZB Z (Qg Z Z (kc3 hK Z Z Z ?_)))))
     refine Qs Z (fun h5 => ?_) (fun h5 => ?_)
     ·rw [h5]
      simp only [qA] at h5
      refine Qb fun K hK => Qa Z (kc1 hK Z ?_)
      refine Qo (Qu (Qj (QV (Qu (Qj (Qi Z ?_))))))
      first
       | exact (FI (i := i) h1 h2 Wa hI.2).symm
       | exact (Jz (i := i) Wa (.inl h4)).symm
       | exact (Jz (i := i) Wa (.inr h5)).symm
       | exact (Kp (.inl h1)).symm
       | exact (Kp (.inr h2)).symm
     ·rw [h5]
      simp only [qA] at h5
      refine Qq (Qh (ks2 Z Z (QN fun K hK => Qa Z (Q2 Z Z Wb (Qa Z (hK _ ?_))))))
      refine Qk (i + 1) ?_ ?_ ?_
      ·exact QW (l := [1, 3]) (lH := [1]) (kp2 rfl rfl) (Qf rfl Qn) rfl rfl rfl
      ·exact ⟨Wa, Zn Wa hI.2 (by rw [show Xl s.1[i].1 = true from h4, show Xl s.1[i].2 = true from h5]; rfl)⟩
      ·omega
   ·rw [h3]
    simp only [qA] at h3
    refine Q7 (QF (Qw (QE (QX (Zg) (Qb fun K hK => Qa Z (kc1 hK Z ?_))))))
    refine Qo (Qi Z ?_)
    first
     | exact (FI (i := i) h1 h2 Wa hI.2).symm
     | exact (Jz (i := i) Wa (.inl h4)).symm
     | exact (Jz (i := i) Wa (.inr h5)).symm
     | exact (Kp (.inl h1)).symm
     | exact (Kp (.inr h2)).symm
theorem Fk {s : List (Cu × Cu) × List (Cu × Cu)} (h1s : Sm s.1) (h2s : Sm s.2) {a b c : Int} {p q : List UInt8} (hp : p.length <= 1000000) (hq : q.length <= 1000000) : Ok Tryz.prog 57 [Mx s, .agg [.int .i64 a, .int .i64 b, .int .i64 c, .str p, .str q]] (.bool (MT s a b c p q)) := by
 refine Ok.ofT ZL Tryz.func57 Qh5 (QiM Z) ?_
 show TW _ _ tf57.body _ _
 refine Qb fun K hK => Zi Z Z Z (Zi Z Z Z (Qa Z (kc2 hK Z Z ?_)))
 refine QB ?_ -- 0
 refine Qb fun K hK => Qz (cs := [_, _]) Z Z Z Z (Qv (Yj h1s h2s) Z Z (.inr Z) (ZB Z (Qa Z ?_)))
 refine Qp (g := 8) Z (fun h1 => ?_) (fun h1 => ?_)
 ·rw [h1]
  simp only [qB] at h1
  refine gn3 Z Z Z (Qg Z Z (kc3 hK Z Z Z ?_))
  refine Zl Z (Qb fun K hK => Qa Z (kc1 hK Z ?_))
  refine Qo (Qj (Qi Z ?_))
  (repeat clear hK K); simp_all [MT]
 ·rw [h1]
  simp only [qB] at h1
  refine Qd Z (Qz (cs := [_, _, _, _, _]) Z Z Z Z (Qd Z (Qv (Zb hp hq) Z Z (.inr Z) (Qd Z (ZB Z (Qg Z Z (kc3 hK Z Z Z ?_)))))))
  refine Qs Z (fun h2 => ?_) (fun h2 => ?_)
  ·rw [h2]
   simp only [qB] at h2
   refine Qb fun K hK => Qa Z (kc1 hK Z ?_)
   refine Qo (Qj (Qi Z ?_))
   (repeat clear hK K); simp_all [MT]
  ·rw [h2]
   simp only [qB] at h2
   refine Qq (ks2 Z Z ?_)
   refine QB ?_ -- 1
   refine Qb fun K hK => Qe Z Z (QA Z Z Z (KH Z Z (kc3 hK Z Z Z ?_)))
   refine Qs Z (fun h3 => ?_) (fun h3 => ?_)
   ·rw [h3]
    simp only [qB] at h3
    refine Qb fun K hK => Qe Z Z (QA Z Z Z (Qz (cs := [_, _, _, _, _]) Z Z Z Z (Qv (JU h1s hp hq) Z Z (.inr Z) (Qa Z (kc1 hK Z ?_)))))
    refine Qo (Qj (Qi Z ?_))
    (repeat clear hK K); simp_all [MT]
   ·rw [h3]
    simp only [qB] at h3
    refine Qq (ks2 Z Z (Qb fun K hK => Qe Z Z (QA Z Z Z (Qz (cs := [_, _, _, _, _]) Z Z Z Z (Qv (JU h2s hp hq) Z Z (.inr Z) (Qa Z (kc1 hK Z ?_)))))))
    refine Qo (Qi Z ?_)
    (repeat clear hK K); simp_all [MT]
open Go Go.Abs M3 M25
theorem _root_.Wu {p : Prop} (h : p := by first | exact .inl (by omega) | exact .inr ⟨by omega, by assumption, by assumption⟩) : p := h
theorem JX {l : List Cu} {c : Cu} (hl : l.length <= 3000000) (hs : ∀ x ∈ l, Cu.sm x) (hc : Cu.sm c) : Ok Tryz.prog 140 [Rs l, .agg (dCu c)] (Rs (HP l c)) := by
 refine Ok.ofT ZL Tryz.func140 Qg3 (QiM Z) ?_
 show TW _ _ tf140.body _ _
 refine Qb fun K hK => Zi Z Z Z (Qa Z (kc2 hK Z Z ?_))
 refine Qb fun K hK => Qa Z (kc3 hK Z Z Z ?_)
 refine QB ?_ -- 0
 refine QC ?_
 refine Zs (ι := Nat) (fun k => ⟨[(0, Rs l), (3, .ref 3 0 0), (5, .int .i64 k)], [(3, ⟨[dCu c], 7, 113, true⟩)]⟩) (fun k => k <= l.length /\ HP l c = l.take k ++ HP (l.drop k) c) (fun k => l.length - k) 0 ?_ ?_ ?_
 ·exact QW (l := [0, 3, 5]) (lH := [3]) (kp3 rfl rfl rfl) (Qf rfl Qn) rfl rfl rfl
 ·exact ⟨QiY _, by simp⟩
 intro k hI
 refine QB ?_ -- 1
 refine Qb fun K hK => mv2 Z Z (Zd Z Z (ZT Z Z (Qa Z ?_)))
 refine Qp (g := 10) Z (fun h1 => ?_) (fun h1 => ?_)
 ·rw [h1]
  simp only [qA] at h1
  refine Qd Z (Qa Z (Qd Z (Qa Z (Qd Z (QJ Z Z Z Wa (Q6 Wa) Z (Qd Z (QL (ds0 := [2, 1, 0]) (cs := [_, _, _, _, _, _, _]) Z Z Z Z Z Z (Qd Z (QL (ds0 := [2, 1, 0]) (cs := [_, _, _, _, _, _, _]) Z Z Z Z Z Z (Qd Z (Q5 (ds0 := [1, 0]) (ZA (hs _ (QiR Wa)).1 (hs _ (QiR Wa)).2 hc.1 hc.2) Z Z (.inr Z) Z Z ?_)))))))))))
  refine Qd Z (ZT Z Z (Qg Z Z (kc4 hK Z Z Z Z ?_)))
  refine Qs Z (fun h2 => ?_) (fun h2 => ?_)
  ·rw [h2]
   simp only [qA] at h2
   refine Qq (ks3 Z Z Z (QC (QN fun K hK => Qa Z (Q2 Z Z Wb (Qa Z (hK _ ?_))))))
   refine Qh ?_
   refine Qk (k + 1) ?_ ?_ ?_
   ·exact QW (l := [0, 3, 5]) (lH := [3]) (kp3 rfl rfl rfl) (Qf rfl Qn) rfl rfl rfl
   ·exact ⟨Wa, BX Wa h2 hI.2⟩
   ·omega
  ·rw [h2]
   simp only [qA] at h2
   refine Q7 (QF (Qw (QE (ks3 Z Z Z ?_))))
   refine QB ?_ -- 2
   refine Qb fun K hK => mv2 Z Z (Zd Z Z (ZT Z Z (Qa Z ?_)))
   refine Qp (g := 25) Z (fun h3 => ?_) (fun h3 => ?_)
   ·rw [h3]
    simp only [qA] at h3
    refine Qd Z (Qa Z (Qd Z (Qa Z (Qd Z (QJ Z Z Z Wa (Q6 Wa) Z (Qd Z (QL (ds0 := [2, 1, 0]) (cs := [_, _, _, _, _, _, _]) Z Z Z Z Z Z (Qd Z (QL (ds0 := [2, 1, 0]) (cs := [_, _, _, _, _, _, _]) Z Z Z Z Z Z (Qd Z (Q5 (ds0 := [1, 0]) (ZA (hs _ (QiR Wa)).1 (hs _ (QiR Wa)).2 hc.1 hc.2) Z Z (.inr Z) Z Z ?_)))))))))))
    refine Qd Z (Yw Z Z (Qg Z Z (kc4 hK Z Z Z Z ?_)))
    refine Qs Z (fun h4 => ?_) (fun h4 => ?_)
    ·rw [h4]
     simp only [qA] at h4
     refine Qb fun K hK => mv2 Z Z (kc1 hK Z ?_)
     refine Qo (Qj (ZW Z ?_))
     rw [BW (k := k) Wa Wh hI.2]; rfl
    ·rw [h4]
     simp only [qA] at h4
     refine Qq (ks3 Z Z Z (Qb fun K hK => mv2 Z Z (Rg Z Z Z Z Wa Wa Wf Th Z (TG (ds0 := [5, 1, 0]) Z Z (fun _ h => ⟨Qb9, h⟩) Z (.inl Z) Wd Wf Wf Z Z (QL (ds0 := [6, 5, 1, 0]) (cs := [_, _, _, _, _, _, _]) Z Z Z Z Z Z (QK Z Z (F2 (ds0 := [1, 0]) Z Z Wp ⟨_, rfl, rfl, rfl, rfl, rfl⟩ Z Z Wd Z Z Wf Wf Z Z (mv2 Z Z ?_))))))))
     refine Rg Z Z Z Z Wa Wf Wd Th Z (F2 (ds0 := [0]) Z Z Wp ⟨rfl, Qb9, rfl⟩ Z Z Wd Z Z Wf Wf Z Z (Qa Z (kc1 hK Z ?_)))
     refine Qo (ZW Z ?_)
     rw [Dq (k := k) Wu hI.2]; simp [XV, D.fz, D.fzS, GR, lk, D.can, D.canS, Rs, D.sid, (show ∀ a b : Nat, a + 1 + b = a + (b + 1) from fun a b => Wa), Qi2 (show (l.map dCu).length <= l.length by simp)] <;> rfl
   ·rw [h3]
    simp only [qA] at h3
    exact absurd h1 h3
 ·rw [h1]
  simp only [qA] at h1
  refine gn4 Z Z Z Z (gn3 Z Z Z (Qg Z Z (kc4 hK Z Z Z Z ?_)))
  refine Zk Z (Q7 (QF (Qw (QE (ks3 Z Z Z ?_)))))
  refine QB ?_ -- 2
  refine Qb fun K hK => mv2 Z Z (Zd Z Z (ZT Z Z (Qa Z ?_)))
  refine Qp (g := 25) Z (fun h5 => ?_) (fun h5 => ?_)
  ·rw [h5]
   simp only [qA] at h5
   exact absurd h5 h1
  ·rw [h5]
   simp only [qA] at h5
   refine gn4 Z Z Z Z (gn3 Z Z Z (Qg Z Z (kc4 hK Z Z Z Z ?_)))
   refine Zk Z (Qq (ks3 Z Z Z (Qb fun K hK => mv2 Z Z (Rg Z Z Z Z Wa Wa Wf Th Z (TG (ds0 := [5, 1, 0]) Z Z (fun _ h => ⟨Qb9, h⟩) Z (.inl Z) Wd Wf Wf Z Z (QL (ds0 := [6, 5, 1, 0]) (cs := [_, _, _, _, _, _, _]) Z Z Z Z Z Z (QK Z Z (F2 (ds0 := [1, 0]) Z Z Wp ⟨_, rfl, rfl, rfl, rfl, rfl⟩ Z Z Wd Z Z Wf Wf Z Z (Qa Z ?_)))))))))
   refine Qa Z (Rg Z Z Z Z Wa Wf Wd Th Z (F2 (ds0 := [0]) Z Z Wp ⟨rfl, Qb9, rfl⟩ Z Z Wd Z Z Wf Wf Z Z (Qa Z (kc1 hK Z ?_))))
   refine Qo (ZW Z ?_)
   rw [Dq (k := k) Wu hI.2]; simp [XV, D.fz, D.fzS, GR, lk, D.can, D.canS, Rs, D.sid, (show ∀ a b : Nat, a + 1 + b = a + (b + 1) from fun a b => Wa), Qi2 (show (l.map dCu).length <= l.length by simp)] <;> rfl
theorem Js {l : List (Cu × Cu)} (hl : Sm l) : Ok Tryz.prog 126 [Zm l] (Rs (YX l)) := by
 refine Ok.ofT ZL Tryz.func126 QgP (QiM Z) ?_
 show TW _ _ tf126.body _ _
 have hn := hl.1
 refine Qb fun K hK => Qa Z (kc1 hK Z ?_)
 refine Qb fun K hK => Qv (Y5) Z Z (.inl Z) (Qv (Xh) Z Z (.inl Z) (QK Z Z (Qa Z (kc2 hK Z Z ?_))))
 refine QB ?_ -- 0
 refine Qb fun K hK => Qa Z (kc3 hK Z Z Z ?_)
 refine QC ?_
 refine Zs (ι := Nat) (fun i => ⟨[(0, Zm l), (3, Rs (YX (l.take i))), (4, .int .i64 i)], []⟩) (fun i => i <= l.length) (fun i => l.length - i) 0 ?_ ?_ ?_
 ·exact le_trans (FC 7 _ Wg) (QW (l := [0, 3, 4]) (lH := []) (kp3 rfl rfl rfl) Qn rfl rfl rfl)
 ·exact QiY _
 intro i hI
 refine QB ?_ -- 1
 refine Qb fun K hK => mv2 Z Z (Zd Z Z (ZT Z Z (kc4 hK Z Z Z Z ?_)))
 refine Qs Z (fun h1 => ?_) (fun h1 => ?_)
 ·rw [h1]
  simp only [qA] at h1
  refine Qq (ks3 Z Z Z ?_)
  refine QB ?_ -- 2
  refine QC (QN fun K hK => mv2 Z Z (Qa Z (QJ Z Z Z Wa (Q6 Wa) Z (Zj Z Z (QL (ds0 := [7, 1, 0]) (cs := [_, _, _, _, _, _, _]) Z Z Z Z Z Z (Q5 (ds0 := [1, 0]) (JX (Qi5 (NU hl i).1 Wa) (NU hl i).2 (hl.2 _ (QiR Wa)).1) Z Z (.inl Z) Z Z (mv2 Z Z (QJ Z Z Z Wa (Q6 Wa) Z ?_))))))))
  refine Zj Z Z (QL (ds0 := [1, 0]) (cs := [_, _, _, _, _, _, _]) Z Z Z Z Z Z (Q5 (ds0 := [0]) (JX (Qi5 (NW _ _) (by have := (NU hl i).1; omega)) (RK (NU hl i).2 (hl.2 _ (QiR Wa)).1) (hl.2 _ (QiR Wa)).2) Z Z (.inl Z) Z Z (Qa Z (hK _ ?_))))
  refine Qh (ks3 Z Z Z (QN fun K hK => Qa Z (Q2 Z Z Wb (Qa Z (hK _ ?_)))))
  refine Qk (i + 1) ?_ ?_ ?_
  ·exact QW (l := [0, 3, 4]) (lH := []) (kp3 rfl rfl rfl) Qn (by rw [QbD Wa]; rfl) rfl rfl
  ·omega
  ·omega
 ·rw [h1]
  simp only [qA] at h1
  refine Q7 (QF (Qw (QE (ks1 Z (Qb fun K hK => mv2 Z Z (kc1 hK Z ?_))))))
  refine Qo (ZW Z ?_)
  rw [Qi2 (Wa : l.length <= i)]; rfl
open Go Go.Abs M3 M25
theorem Jt {l : List (Cu × Cu)} {x y : Cu} (hn : l.length <= 3000000) (hl : ∀ s ∈ l, Cu.sm s.1 /\ Cu.sm s.2) (hx : Cu.sm x) (hy : Cu.sm y) : OkH Tryz.prog 128 [.osl 500000 l.length, .agg (dCu x), .agg (dCu y)] [(500000, ⟨l.map NI, 14, 116, true⟩)] (.osl 500000 (HN l x y).length) [(500000, ⟨(HN l x y).map NI, 14, 116, true⟩)] := by
 refine OkH.mv ZL Tryz.func128 QgR (QiM Z) Z ?_
 show TW _ _ tf128.body _ _
 refine Qb fun K hK => Zi Z Z Z (Zi Z Z Z (Qa Z (kc3 hK Z Z Z ?_)))
 refine QB ?_ -- 0
 refine Qb fun K hK => Qa Z (Zd Z Z (Hk Z Z Wb (Qa Z (kc4 hK Z Z Z Z ?_))))
 refine Qb fun K hK => Qa Z (GQ Z Z (Qa Z ?_))
 refine Qp (g := 13) Z (fun h1 => ?_) (fun h1 => ?_)
 ·rw [h1]
  simp only [qA] at h1
  refine Qd Z (Qa Z (Qd Z (Qa Z (Qd Z (Fa (ds0 := [5, 4, 2, 1, 0]) Z Z Z Wd Wa Wa Z Z Z (Qd Z (Qe Z Z (Qd Z (QL (ds0 := [2, 1, 0]) (cs := [_, _, _, _, _, _, _]) Z (Ym Z (Zt Wa Wa)) Z Z Z Z (Qd Z (QL (ds0 := [2, 1, 0]) (cs := [_, _, _, _, _, _, _]) Z Z Z Z Z Z ?_)))))))))))
  refine Qd Z (Q5 (ds0 := [1, 0]) (ZA (hl _ (QiR Wa)).2.1 (hl _ (QiR Wa)).2.2 hx.1 hx.2) Z Z (.inr Z) Z Z (Qd Z (Yw Z Z (Qg Z Z (kc5 hK Z Z Z Z Z ?_)))))
  refine Qs Z (fun h2 => ?_) (fun h2 => ?_)
  ·rw [h2]
   simp only [qA] at h2
   refine Qb fun K hK => mv2 Z Z (Qz (cs := [_, _, _, _, _, _, _]) Z Z Z Z (KI Z Z Z Wd Wa Wa Z (Qe Z Z (QZ Z Z (Zt Wa Wa) Z Z Z Z Z (kc1 hK Z ?_)))))
   refine Qb fun K hK => mv2 Z Z (kc1 hK Z ?_)
   refine Qo (Qj ?_)
   refine JB Z ?_ (Lz ?_)
   ·rw [S1 (i := ((l.length : Int) - 1).toNat) Wa h2]; simp [QaN, D.fz, D.fzS, PC, D.can, D.canS]
   ·rw [S1 (i := ((l.length : Int) - 1).toNat) Wa h2]; simp [lk, List.map_set, NI, dCu, setRow, D.sid]
  ·rw [h2]
   simp only [qA] at h2
   refine Qq (ks3 Z Z Z (Qb fun K hK => Qa Z (Qz (cs := [_, _, _, _, _, _, _]) Z Z Z Z (Qz (cs := [_, _, _, _, _, _, _]) Z Z Z Z (QT Z Z (QK Z Z (XK Z Z (fun _ h => Xt Z Z Z h) Z Wd Z Z Z Wf Wf (Qa Z (kc1 hK Z ?_)))))))))
   refine Qo ?_
   refine JB Z ?_ (Lz ?_)
   ·rw [FH (.inr ⟨((l.length : Int) - 1).toNat, Wa, h2⟩)]; simp [QaN, D.fz, D.fzS, PC, D.can, D.canS]
   ·rw [FH (.inr ⟨((l.length : Int) - 1).toNat, Wa, h2⟩)]; simp [lk, NI, dCu, D.sid]
 ·rw [h1]
  simp only [qA] at h1
  refine gn4 Z Z Z Z (gn4 Z Z Z Z (Qg Z Z (kc5 hK Z Z Z Z Z ?_)))
  refine Zk Z (Qq (ks3 Z Z Z (Qb fun K hK => Qa Z (Qz (cs := [_, _, _, _, _, _, _]) Z Z Z Z (Qz (cs := [_, _, _, _, _, _, _]) Z Z Z Z (QT Z Z (QK Z Z (XK Z Z (fun _ h => Xt Z Z Z h) Z Wd Z Z Z Wf Wf (Qa Z (kc1 hK Z ?_))))))))))
  refine Qo ?_
  have h0 : l = [] := List.eq_nil_of_length_eq_zero Wa
  refine JB Z ?_ (Lz ?_)
  ·rw [FH (.inl h0)]; simp [QaN, D.fz, D.fzS, PC, D.can, D.canS]
  ·rw [FH (.inl h0)]; simp [lk, NI, dCu, D.sid]
open Go Go.Abs M3 M25
theorem GZ {l : List (Cu × Cu)} (hl : Sm l) : Ok Tryz.prog 125 [Zm l] (.tup [Zm (Lh l), .bool (l.all GN)]) := by
  refine Ok.ofT ZL Tryz.func125 QgO (QiM Z) ?_
  show TW _ _ tf125.body _ _
  have hn := hl.1
  have hc1 := HL l
  refine Qb fun K hK => mv2 Z Z (kc1 hK Z ?_)
  refine QB ?_ -- 0
  refine Qb fun K hK => Qa Z (kc2 hK Z Z ?_)
  refine QC ?_
  refine Zs (ι := Nat) (fun i => ⟨[(0, Zm l), (4, .int .i64 i)], []⟩) (fun i => i <= l.length /\ (l.take i).all GN = true) (fun i => l.length - i) 0 ?_ ?_ ?_
  · exact Q4 (kp2 rfl rfl)
  · exact ⟨QiY _, by simp⟩
  intro i hI
  refine QB ?_ -- 1
  refine Qb fun K hK => mv2 Z Z (Zd Z Z (ZT Z Z (kc3 hK Z Z Z ?_)))
  refine Qs Z (fun h1 => ?_) (fun h1 => ?_)
  · rw [h1]
    simp only [qA] at h1
    refine Qq (ks2 Z Z ?_)
    refine QB ?_ -- 2
    refine QC (Qb fun K hK => mv2 Z Z (QJ Z Z Z Wa (Q6 Wa) Z (Qz (cs := [_, _, _, _, _, _, _, _, _, _, _, _, _, _]) Z Z Z Z (Qv (YE (hl.at (i := i) Wa).1.1 (hl.at (i := i) Wa).1.2 (hl.at (i := i) Wa).2.1 (hl.at (i := i) Wa).2.2) Z Z (.inr Z) (ZB Z (kc3 hK Z Z Z ?_))))))
    refine Qs Z (fun h2 => ?_) (fun h2 => ?_)
    · rw [h2]
      simp only [qA] at h2
      refine Qb fun K hK => mv2 Z Z (kc2 hK Z Z ?_)
      refine Qo (Qu (Qj (QV (Qu (Qj ?_)))))
      first
        | exact ZN rfl rfl ⟨by rw [Lh, if_neg (by rw [X2 (i := i) Wa Wh]; simp)]; rfl, by rw [X2 (i := i) Wa Wh]; rfl⟩
        | (have ha : l.all GN = true := Ke Wa hI.2
           exact ZN rfl rfl ⟨by rw [Lh, if_pos ha, hI2.done Wa]; simp [XV, D.fz, D.fzS, GR, lk, D.can, D.canS, Zm], by rw [ha]; rfl⟩)
    · rw [h2]
      simp only [qA] at h2
      refine Qq (Qh (ks2 Z Z (QN fun K hK => Qa Z (Q2 Z Z Wb (Qa Z (hK _ ?_))))))
      refine Qk (i + 1) ?_ ?_ ?_
      · exact Q4 (kp2 rfl rfl)
      · exact ⟨Wa, Zn Wa hI.2 Wh⟩
      · omega
  · rw [h1]
    simp only [qA] at h1
    refine Q7 (QF (Qw (QE (ks1 Z (Qb fun K hK => Qa Z (kc2 hK Z Z ?_))))))
    refine Qb fun K hK => Qa Z (Qv (Js hl) Z Z (.inl Z) (Qa Z (kc3 hK Z Z Z ?_)))
    refine QB ?_ -- 3
    refine Qb fun K hK => Qa Z (kc4 hK Z Z Z Z ?_)
    refine QC ?_
    refine Zs (ι := Nat × List (Cu × Cu)) (fun ⟨i, out⟩ => ⟨[(0, Zm l), (5, .osl 5 out.length), (6, Rs (YX l)), (7, .int .i64 i)], [(5, ⟨out.map NI, 14, 116, true⟩)]⟩) (fun ⟨i, out⟩ => i <= (YX l).length /\ FillI (mIn l) (YX l) i out) (fun ⟨i, out⟩ => (YX l).length - i) (0, []) ?_ ?_ ?_
    · exact le_trans (Yn 5 5 14 116 rfl rfl) (QW (l := [0, 5, 6, 7]) (lH := [5]) (kp4 rfl rfl rfl rfl) (Qf rfl Qn) rfl rfl rfl)
    · exact ⟨QiY _, FillI.zero⟩
    intro ⟨i, out⟩ hI
    obtain ⟨hI1, hI2⟩ := hI
    have hI3 := hI2.1
    dsimp only
    refine QB ?_ -- 4
    refine Qb fun K hK => Qa Z (Q2 Z Z Wb (Qa Z (Zd Z Z (ZT Z Z (kc5 hK Z Z Z Z Z ?_)))))
    refine Qs Z (fun h3 => ?_) (fun h3 => ?_)
    · rw [h3]
      simp only [qA] at h3
      refine Qq (ks4 Z Z Z Z ?_)
      refine QB ?_ -- 5
      refine QC (Qb fun K hK => mv2 Z Z (Qa Z (QJ Z Z Z Wa (Q6 Wa) Z (QL (ds0 := [0]) (cs := [_, _, _, _, _, _, _]) Z Z Z Z Z Z (mv2 Z Z (Q2 Z Z Wb (QJ Z Z Z Wa (Dc Wa) Z (QL (ds0 := [0]) (cs := [_, _, _, _, _, _, _]) Z Z Z Z Z Z ?_))))))))
      refine Q5 (ds0 := []) (Ku hl (Yz hl _ (QiR Wa)) (Yz hl _ (QiR Wa))) Z Z (.inr Z) Z Z (kc5 hK Z Z Z Z Z ?_)
      refine Qs Z (fun h4 => ?_) (fun h4 => ?_)
      · rw [h4]
        refine QN fun K hK => Qa rfl (Qa rfl (Qa rfl (QJ rfl rfl rfl Wa (Q6 Wa) rfl (QL (ds0 := [1, 0]) (cs := [_, _, _, _, _, _, _]) rfl rfl rfl rfl rfl rfl (Qa rfl (Qa rfl (Q2 rfl rfl Wb (QJ rfl rfl rfl Wa (Dc Wa) rfl (QL (ds0 := [1, 0]) (cs := [_, _, _, _, _, _, _]) rfl rfl rfl rfl rfl rfl (LM (ds0 := [0]) (Qcu (k := 5) rfl rfl rfl Wg rfl Wg (by simp [D.ids, D.sid, dCu]) ⟨.osl 5 out.length, by simp, by simp [D.ids, D.sid]⟩ rfl rfl (Jt Wa hI2.2.1 (Yz hl _ (QiR Wa)) (Yz hl _ (QiR Wa)))) (fun _ h => by cases h) rfl rfl ?_))))))))))
        refine Qa Z (hK _ ?_)
        refine Qh (ks4 Z Z Z Z (QN fun K hK => Qa Z (Q2 Z Z Wb (Qa Z (hK _ ?_)))))
        refine Qk (i + 1, HN out (YX l)[i] (YX l)[i + 1]) ?_ ?_ ?_
        · exact le_trans (BQ (l := [0, 6, 7]) (t := 50) (u := 5) 5 (kp3 rfl rfl rfl) rfl rfl rfl rfl) (QW (l := [0, 5, 6, 7]) (lH := [5]) (kp4 rfl rfl rfl rfl) (Qf rfl Qn) rfl rfl rfl)
        · exact ⟨Wa, hI2.take (Yz hl) Wa Wh⟩
        · show (YX l).length - (i + 1) < (YX l).length - i; omega
      · rw [h4]
        refine Qq (Qh (ks4 Z Z Z Z (QN fun K hK => Qa Z (Q2 Z Z Wb (Qa Z (hK _ ?_))))))
        refine Qk (i + 1, out) ?_ ?_ ?_
        · exact QW (l := [0, 5, 6, 7]) (lH := [5]) (kp4 rfl rfl rfl rfl) (Qf rfl Qn) rfl rfl rfl
        · exact ⟨Wa, hI2.skip Wa Wh⟩
        · show (YX l).length - (i + 1) < (YX l).length - i; omega
    · rw [h3]
      simp only [qA] at h3
      refine Q7 (QF (Qw (QE (ks1 Z (Qb fun K hK => mv2 Z Z (Qa Z (kc2 hK Z Z ?_)))))))
      refine Qo ?_
      first
        | exact ZN rfl rfl ⟨by rw [Lh, if_neg (by rw [X2 (i := i) Wa Wh]; simp)]; rfl, by rw [X2 (i := i) Wa Wh]; rfl⟩
        | (have ha : l.all GN = true := Ke Wa hI.2
           exact ZN rfl rfl ⟨by rw [Lh, if_pos ha, hI2.done Wa]; simp [XV, D.fz, D.fzS, GR, lk, D.can, D.canS, Zm], by rw [ha]; rfl⟩)
open Go Go.Abs M3 M25
theorem Kt {a b : List (Cu × Cu)} (ha : Sm a) (hb : Sm b) (hab : a.length + b.length <= 1000000) : Ok Tryz.prog 110 [Zm a, Zm b] (Zm (QcG a b)) := by
 refine Ok.ofT ZL Tryz.func110 Qgz (QiM Z) ?_
 show TW _ _ tf110.body _ _
 refine Qb fun K hK => Qa Z (kc2 hK Z Z ?_)
 refine QB ?_ -- 0
 refine Qb fun K hK => Qa Z (Qv (ZX ha) Z Z (.inr Z) (ZB Z (Qa Z ?_)))
 refine Qp (g := 10) Z (fun h1 => ?_) (fun h1 => ?_)
 ·rw [h1]
  simp only [qB] at h1
  refine gn3 Z Z Z (Qg Z Z (kc3 hK Z Z Z ?_))
  refine Zl Z (Qb fun K hK => Qa Z (kc1 hK Z ?_))
  refine Qo (Qj (ZW Z ?_))
  rw [QcG, if_neg (by simp [h1])]; rfl
 ·rw [h1]
  simp only [qB] at h1
  refine Qd Z (Qa Z (Qd Z (Qv (ZX hb) Z Z (.inr Z) (Qd Z (ZB Z (Qg Z Z (kc3 hK Z Z Z ?_)))))))
  refine Qs Z (fun h2 => ?_) (fun h2 => ?_)
  ·rw [h2]
   simp only [qB] at h2
   refine Qb fun K hK => Qa Z (kc1 hK Z ?_)
   refine Qo (Qj (ZW Z ?_))
   rw [QcG, if_neg (by simp [h1, h2])]; rfl
  ·rw [h2]
   simp only [qB] at h2
   refine Qq (ks2 Z Z (Qb fun K hK => Qa Z (CI Z Z (fun _ h => Qax QcN h) Z (.inl Z) Wd Wf Wf (Qa Z (XK Z Z (fun _ h => Qax QcN h) Z Wd Z Z Z Wf Wf ?_)))))
   apply Qc1 [17] Wd
   ·simp [St.freezeL, St.freeze, rem, D.fz, D.fzS, Box.fz, lk, D.scrub]; exact ⟨rfl, rfl⟩
   ·exact GZ (ha.app hb hab)
   ·rfl
   ·simp [XV, D.fz, D.fzS, GR, D.can, D.canS, Zm]
   ·exact .inl rfl
   refine Qa Z (Q0 Z Z (Q0 Z Z (mv2 Z Z (kc1 hK Z ?_))))
   refine Qb fun K hK => mv2 Z Z (kc1 hK Z ?_)
   refine Qo (ZW Z ?_)
   rw [QcG, if_pos ⟨h1, h2⟩]; rfl
theorem JV {a : List (Cu × Cu)} (ha : Sm a) : Ok Tryz.prog 111 [Zm a] (Zm (Lj a)) := by
 refine Ok.ofT ZL Tryz.func111 QgA (QiM Z) ?_
 show TW _ _ tf111.body _ _
 have hn := ha.1
 have hc1 := HL a
 refine Qb fun K hK => Qa Z (kc1 hK Z ?_)
 refine QB ?_ -- 0
 refine Qb fun K hK => Qa Z (Qv (ZX ha) Z Z (.inr Z) (ZB Z (kc2 hK Z Z ?_)))
 refine Qs Z (fun h1 => ?_) (fun h1 => ?_)
 ·rw [h1]
  simp only [qA] at h1
  refine Qb fun K hK => Qa Z (kc1 hK Z ?_)
  refine Qo (Qj (ZW Z ?_))
  rw [Lj, if_neg (by simp [h1])]; rfl
 ·rw [h1]
  simp only [qA] at h1
  refine Qq (ks1 Z (Qb fun K hK => Qa Z (kc2 hK Z Z ?_)))
  refine Qb fun K hK => Qa Z (Qv (Js ha) Z Z (.inl Z) (Qa Z (kc3 hK Z Z Z ?_)))
  refine QB ?_ -- 1
  refine Qb fun K hK => Qa Z (kc4 hK Z Z Z Z ?_)
  refine QC ?_
  refine Zs (ι := Nat × List (Cu × Cu)) (fun ⟨i, out⟩ => ⟨[(0, Zm a), (3, .osl 3 out.length), (4, Rs (YX a)), (5, .int .i64 i)], [(3, ⟨out.map NI, 14, 116, true⟩)]⟩) (fun ⟨i, out⟩ => i <= (YX a).length /\ FillI (fun x y => !mIn a x y) (YX a) i out) (fun ⟨i, out⟩ => (YX a).length - i) (0, []) ?_ ?_ ?_
  ·exact le_trans (Yn 3 3 14 116 rfl rfl) (QW (l := [0, 3, 4, 5]) (lH := [3]) (kp4 rfl rfl rfl rfl) (Qf rfl Qn) rfl rfl rfl)
  ·exact ⟨QiY _, FillI.zero⟩
  intro ⟨i, out⟩ hI
  obtain ⟨hI1, hI2⟩ := hI
  have hI3 := hI2.1
  dsimp only
  refine QB ?_ -- 2
  refine Qb fun K hK => Qa Z (Q2 Z Z Wb (Qa Z (Zd Z Z (ZT Z Z (kc5 hK Z Z Z Z Z ?_)))))
  refine Qs Z (fun h2 => ?_) (fun h2 => ?_)
  ·rw [h2]
   simp only [qA] at h2
   refine Qq (ks4 Z Z Z Z ?_)
   refine QB ?_ -- 3
   refine QC (Qb fun K hK => mv2 Z Z (Qa Z (QJ Z Z Z Wa (Q6 Wa) Z (QL (ds0 := [1, 0]) (cs := [_, _, _, _, _, _, _]) Z Z Z Z Z Z (mv2 Z Z (Q2 Z Z Wb (QJ Z Z Z Wa (Dc Wa) Z (QL (ds0 := [1, 0]) (cs := [_, _, _, _, _, _, _]) Z Z Z Z Z Z ?_))))))))
   refine Q5 (ds0 := [0]) (Ku ha (Yz ha _ (QiR Wa)) (Yz ha _ (QiR Wa))) Z Z (.inr Z) Z Z (ZB Z (kc5 hK Z Z Z Z Z ?_))
   refine Qs Z (fun h3 => ?_) (fun h3 => ?_)
   ·rw [h3]
    simp only [qA] at h3
    refine QN fun K hK => Qa rfl (Qa rfl (Qa rfl (QJ rfl rfl rfl Wa (Q6 Wa) rfl (QL (ds0 := [1, 0]) (cs := [_, _, _, _, _, _, _]) rfl rfl rfl rfl rfl rfl (Qa rfl (Qa rfl (Q2 rfl rfl Wb (QJ rfl rfl rfl Wa (Dc Wa) rfl (QL (ds0 := [1, 0]) (cs := [_, _, _, _, _, _, _]) rfl rfl rfl rfl rfl rfl (LM (ds0 := [0]) (Qcu (k := 3) rfl rfl rfl Wg rfl Wg (by simp [D.ids, D.sid, dCu]) ⟨.osl 3 out.length, by simp, by simp [D.ids, D.sid]⟩ rfl rfl (Jt Wa hI2.2.1 (Yz ha _ (QiR Wa)) (Yz ha _ (QiR Wa)))) (fun _ h => by cases h) rfl rfl ?_))))))))))
    refine Qa Z (hK _ ?_)
    refine Qh (ks4 Z Z Z Z (QN fun K hK => Qa Z (Q2 Z Z Wb (Qa Z (hK _ ?_)))))
    refine Qk (i + 1, HN out (YX a)[i] (YX a)[i + 1]) ?_ ?_ ?_
    ·exact le_trans (BQ (l := [0, 4, 5]) (t := 40) (u := 3) 3 (kp3 rfl rfl rfl) rfl rfl rfl rfl) (QW (l := [0, 3, 4, 5]) (lH := [3]) (kp4 rfl rfl rfl rfl) (Qf rfl Qn) rfl rfl rfl)
    ·exact ⟨Wa, hI2.take (Yz ha) Wa (by simp; assumption)⟩
    ·show (YX a).length - (i + 1) < (YX a).length - i; omega
   ·rw [h3]
    simp only [qA] at h3
    refine Qq (Qh (ks4 Z Z Z Z (QN fun K hK => Qa Z (Q2 Z Z Wb (Qa Z (hK _ ?_))))))
    refine Qk (i + 1, out) ?_ ?_ ?_
    ·exact QW (l := [0, 3, 4, 5]) (lH := [3]) (kp4 rfl rfl rfl rfl) (Qf rfl Qn) rfl rfl rfl
    ·exact ⟨Wa, hI2.skip Wa (by simp; assumption)⟩
    ·show (YX a).length - (i + 1) < (YX a).length - i; omega
  ·rw [h2]
   simp only [qA] at h2
   refine Q7 (QF (Qw (QE (ks1 Z (Qb fun K hK => mv2 Z Z (kc1 hK Z ?_))))))
   refine Qo (ZW Z ?_)
   rw [Lj, if_pos h1, hI2.done Wa]; simp [XV, D.fz, D.fzS, GR, lk, D.can, D.canS, Zm]
open Go Go.Abs M3 M25
theorem F3 {a b : F0} (h1a : Sm a.1) (h2a : Sm a.2) (h1b : Sm b.1) (h2b : Sm b.2) (hl1 : a.1.length + b.1.length <= 1000000) (hl2 : a.2.length + b.2.length <= 1000000) : Ok Tryz.prog 93 [Mx a, Mx b] (Mx (QaP a b)) := by
 refine Ok.ofT ZL Tryz.func93 QiB (QiM Z) ?_
 show TW _ _ tf93.body _ _
 refine Qb fun K hK => Zi Z Z Z (Zi Z Z Z (Zz Z (kc3 hK Z Z Z ?_)))
 refine QB ?_ -- 0
 refine Qb fun K hK => Qz (cs := [_, _]) Z Z Z Z (Qv (Yj h1a h2a) Z Z (.inr Z) (ZB Z (Qa Z ?_)))
 refine Qp (g := 8) Z (fun h1 => ?_) (fun h1 => ?_)
 ·rw [h1]
  simp only [qB] at h1
  refine gn3 Z Z Z (Qg Z Z (kc4 hK Z Z Z Z ?_))
  refine Zl Z (Qb fun K hK => Qv (Z8) Z Z (.inl Z) (QZ Z Z Z Z Z Z Z Z (kc1 hK Z ?_)))
  refine Qo (Qj (Post.eq (ZH (ds := [.sl _, .sl _]) (cs := [_, _]) Z Z Z Z Z) ?_))
  rw [QaP, if_neg (by simp [h1])]; rfl
 ·rw [h1]
  simp only [qB] at h1
  refine Qd Z (Qz (cs := [_, _]) Z Z Z Z (Qd Z (Qv (Yj h1b h2b) Z Z (.inr Z) (Qd Z (ZB Z (Qg Z Z (kc4 hK Z Z Z Z ?_)))))))
  refine Qs Z (fun h2 => ?_) (fun h2 => ?_)
  ·rw [h2]
   simp only [qB] at h2
   refine Qb fun K hK => Qv (Z8) Z Z (.inl Z) (QZ Z Z Z Z Z Z Z Z (kc1 hK Z ?_))
   refine Qo (Qj (Post.eq (ZH (ds := [.sl _, .sl _]) (cs := [_, _]) Z Z Z Z Z) ?_))
   rw [QaP, if_neg (by simp [h1, h2])]; rfl
  ·rw [h2]
   simp only [qB] at h2
   refine Qq (ks3 Z Z Z (Qb fun K hK => Qe Z Z (QP (ds0 := [7, 1, 0]) Z Z Z Z Z (Qe Z Z (QP (ds0 := [7, 1, 0]) Z Z Z Z Z (Q5 (ds0 := [1, 0]) (Kt h1a h1b hl1) Z Z (.inl Z) Z Z (Qe Z Z (QP (ds0 := [2, 1, 0]) Z Z Z Z Z (Qe Z Z (QP (ds0 := [2, 1, 0]) Z Z Z Z Z ?_))))))))))
   refine Q5 (ds0 := [1, 0]) (Kt h2a h2b hl2) Z Z (.inl Z) Z Z (QT Z Z (YR (ds0 := []) Z Z Z Z Z Z Z Z Z Z (kc1 hK Z ?_)))
   refine Qo (Post.eq (ZH (ds := [.sl _, .sl _]) (cs := [_, _]) Z Z Z Z Z) ?_)
   rw [QaP, if_pos ⟨h1, h2⟩]; rfl
theorem Fm {a : F0} (h1a : Sm a.1) (h2a : Sm a.2) : Ok Tryz.prog 94 [Mx a] (Mx (MV a)) := by
 refine Ok.ofT ZL Tryz.func94 QiC (QiM Z) ?_
 show TW _ _ tf94.body _ _
 refine Qb fun K hK => Zi Z Z Z (Zz Z (kc2 hK Z Z ?_))
 refine QB ?_ -- 0
 refine Qb fun K hK => Qz (cs := [_, _]) Z Z Z Z (Qv (Yj h1a h2a) Z Z (.inr Z) (ZB Z (kc3 hK Z Z Z ?_)))
 refine Qs Z (fun h1 => ?_) (fun h1 => ?_)
 ·rw [h1]
  simp only [qB] at h1
  refine Qb fun K hK => Qv (Z8) Z Z (.inl Z) (QZ Z Z Z Z Z Z Z Z (kc1 hK Z ?_))
  refine Qo (Qj (Post.eq (ZH (ds := [.sl _, .sl _]) (cs := [_, _]) Z Z Z Z Z) ?_))
  rw [MV, if_neg (by simp [h1])]; rfl
 ·rw [h1]
  simp only [qB] at h1
  refine Qq (ks2 Z Z (Qb fun K hK => Qe Z Z (QP (ds0 := [5, 1, 0]) Z Z Z Z Z (Q5 (ds0 := [1, 0]) (JV h1a) Z Z (.inl Z) Z Z (Qe Z Z (QP (ds0 := [2, 1, 0]) Z Z Z Z Z (Q5 (ds0 := [1, 0]) (JV h2a) Z Z (.inl Z) Z Z (QT Z Z (YR (ds0 := []) Z Z Z Z Z Z Z Z Z Z (kc1 hK Z ?_))))))))))
  refine Qo (Post.eq (ZH (ds := [.sl _, .sl _]) (cs := [_, _]) Z Z Z Z Z) ?_)
  rw [MV, if_pos h1]; rfl
open Go Go.Abs M3 M25
theorem Y3 {v n : Int} (hn : n <= 9223372036854775807) (hv : I64 v) : Ok Tryz.prog 13 [.int .i64 v, .int .i64 n] (.int .i64 (mPl v n)) := by
 refine Ok.ofT ZL Tryz.func13 QhB (QiM Z) ?_
 show TW _ _ tf13.body _ _
 refine Qb fun K hK => Qa Z (kc2 hK Z Z ?_)
 refine QB ?_ -- 0
 refine Qb fun K hK => Qa Z (ZT Z Z (kc3 hK Z Z Z ?_))
 refine Qs Z (fun h1 => ?_) (fun h1 => ?_)
 ·rw [h1]
  simp only [qB] at h1
  refine Qb fun K hK => Qa Z (kc1 hK Z ?_)
  refine Qo (Qj (Qx Z ?_))
  rw [mPl, if_pos h1]
 ·rw [h1]
  simp only [qB] at h1
  refine Qq (ks2 Z Z (Qb fun K hK => mv2 Z Z (QaV Z Z Wa (Qa Z (kc2 hK Z Z ?_)))))
  refine QB ?_ -- 1
  refine Qb fun K hK => Qa Z (ZT Z Z (kc3 hK Z Z Z ?_))
  refine Qs Z (fun h2 => ?_) (fun h2 => ?_)
  ·rw [h2]
   simp only [qB] at h2
   refine Qb fun K hK => mv2 Z Z (Q2 Z Z (Qr (by have := Int.lt_tmod_of_pos v (Wa : 0 < n); omega) (by have := Int.tmod_lt_of_pos v (Wa : 0 < n); omega)) (Qa Z (kc1 hK Z ?_)))
   refine Qo (Qj (Qx Z ?_))
   rw [mPl, if_neg h1, MW, if_pos h2]
  ·rw [h2]
   simp only [qB] at h2
   refine Qq (ks1 Z (Qb fun K hK => mv2 Z Z (kc1 hK Z ?_)))
   refine Qo (Qx Z ?_)
   rw [mPl, if_neg h1, MW, if_neg h2]
theorem Xw {l : List Int} {i : Int} : Ok Tryz.prog 36 [QS l, .int .i64 i] (.int .i64 (SZ l i)) := by
 refine Ok.ofT ZL Tryz.func36 QhP (QiM Z) ?_
 show TW _ _ tf36.body _ _
 refine Qb fun K hK => Qa Z (kc2 hK Z Z ?_)
 refine QB ?_ -- 0
 refine Qb fun K hK => Qa Z (ZT Z Z (Qa Z ?_))
 refine Qp (g := 7) Z (fun h1 => ?_) (fun h1 => ?_)
 ·rw [h1]
  simp only [qA] at h1
  refine gn4 Z Z Z Z (Qg Z Z (kc3 hK Z Z Z ?_))
  refine Zl Z (Qb fun K hK => Qa Z (QaV Z Z Wa (Qa Z (kc1 hK Z ?_))))
  refine Qo (Qj (Qx Z ?_))
  rw [SZ, if_pos Wa]
 ·rw [h1]
  simp only [qA] at h1
  refine Qd Z (Qa Z (Qd Z (Qa Z (Qd Z (Zd Z Z (Qd Z (GQ Z Z (Qg Z Z (kc3 hK Z Z Z ?_)))))))))
  refine Qs Z (fun h2 => ?_) (fun h2 => ?_)
  ·rw [h2]
   simp only [qA] at h2
   refine Qb fun K hK => Qa Z (QaV Z Z Wa (Qa Z (kc1 hK Z ?_)))
   refine Qo (Qj (Qx Z ?_))
   rw [SZ, if_pos Wa]
  ·rw [h2]
   simp only [qA] at h2
   refine Qq (ks2 Z Z (Qb fun K hK => mv2 Z Z (QJ Z Z Z Wa (Zt Wa Wa) Z (QA Z Z Z (Qa Z (kc1 hK Z ?_))))))
   refine Qo (Qx Z ?_)
   exact (BU Wa Wa).symm
theorem XN {k : Nat} {L : List Int} {I n : Int} (hk : 1000000 <= k) (hL : ∀ x ∈ L, I64 x) (hn : n <= 9223372036854775807) (et : Nat) : OkH Tryz.prog 33 [.ref k 0 0, .int .i64 n] [(k, gB L I et)] (.int .i64 (nx L I n)) ((k, gB L (nxI I) et) :: [(k, gB L I et)]) := by
 refine OkH.lent hk ZL Tryz.func33 QhM (QiM Z) Z ?_
 show TW _ _ tf33.body _ _
 refine Qb fun K hK => Qa Z (kc2 hK Z Z ?_)
 refine Qb fun K hK => Qa Z (Yh Z Z (Qe Z NT (QA Z (Ym Nc Z) Z (Q2 Z Z Z (Yh Z Z (Qe Z NT (QZ Z Nc Z Z Z Z Z Z (kc2 hK Z Z ?_))))))))
 refine Qb fun K hK => Qa Z (Yh Z Z (Qe Z NT (QP (ds0 := [3, 1, 0]) Z (Ym Nc Z) Z Z Z (Qa Z (Yh Z Z (Qe Z NT (QP (ds0 := [4, 3, 1, 0]) Z (Ym Nc Z) Z Z Z (Hk Z Z Z (Q5 (ds0 := [1, 0]) (Xw) Z Z (.inr Z) Z Z (Qa Z ?_))))))))))
 refine Q5 (ds0 := [0]) (Y3 hn (Dk hL (Pg _))) Z Z (.inr Z) Z Z (Qa Z (kc1 hK Z ?_))
 refine Qo ?_
 exact JB rfl rfl (Qeb Nc)
open Go Go.Abs M3 M25
theorem Jp {v : Int} (h0 : 0 <= v) (h1v : v <= 61) : Ok Tryz.prog 58 [.int .i64 v] (.int .i64 (2 ^ v.toNat)) := by
 refine Ok.ofT ZL Tryz.func58 Qh6 (QiM Z) ?_
 show TW _ _ tf58.body _ _
 refine Qb fun K hK => Qa Z (kc1 hK Z ?_)
 refine Qb fun K hK => Qa Z (kc2 hK Z Z ?_)
 refine QB ?_ -- 0
 refine Qb fun K hK => Qa Z (kc3 hK Z Z Z ?_)
 refine QC ?_
 refine Zs (ι := Nat) (fun i => ⟨[(0, .int .i64 v), (3, .int .i64 (2 ^ i)), (4, .int .i64 i)], []⟩) (fun i => (i : Int) <= v) (fun i => v.toNat - i) 0 ?_ ?_ ?_
 ·exact Q4 (kp3 rfl rfl rfl)
 ·exact h0
 intro i hI
 have hp := Lr (i := i + 1) Wa
 rw [Int.pow_succ] at hp
 refine QB ?_ -- 1
 refine Qb fun K hK => mv2 Z Z (ZT Z Z (kc4 hK Z Z Z Z ?_))
 refine Qs Z (fun h1 => ?_) (fun h1 => ?_)
 ·rw [h1]
  simp only [qB] at h1
  refine Qq (ks3 Z Z Z ?_)
  refine QB ?_ -- 2
  refine QC (QN fun K hK => Qa rfl (CL rfl rfl (Qr (by obtain ⟨p1, p2⟩ := hp; generalize (2 : Int) ^ i = z at *; omega) (by obtain ⟨p1, p2⟩ := hp; generalize (2 : Int) ^ i = z at *; omega)) (Qa rfl (hK _ ?_))))
  refine Qh (ks3 Z Z Z (QN fun K hK => Qa Z (Q2 Z Z (Qr Wa Wa) (Qa Z (hK _ ?_)))))
  refine Qk (i + 1) ?_ ?_ ?_
  ·exact QW (l := [0, 3, 4]) (lH := []) (kp3 rfl rfl rfl) Qn (by rw [Int.pow_succ]; rfl) rfl rfl
  ·show ((i + 1 : Nat) : Int) <= v; omega
  ·omega
 ·rw [h1]
  simp only [qB] at h1
  refine Q7 (QF (Qw (QE (ks1 Z (Qb fun K hK => mv2 Z Z (kc1 hK Z ?_))))))
  refine Qo (Qx Z ?_)
  rw [show v.toNat = i by omega]
open Go Go.Abs M3 M25
theorem Xp  : Ok Tryz.prog 59 [] (.sl (versions.map dVr)) := by
 refine Ok.ofT ZL Tryz.func59 Qh7 (QiM Z) ?_
 show TW _ _ tf59.body _ _
 refine Qb fun K hK => Qa Z (hK _ _ (TK (Zg) ?_))
 refine Qb fun K hK => QT Z Z (QT Z Z (QT Z Z (QT Z Z (QK Z Z (Qa Z (kc1 hK Z ?_))))))
 refine Qo (ZW Z ?_)
 rfl
end Go.Proofs
namespace M25
open Go Go.Abs M3
structure WantT where
 u : Int
 s : F0
structure CandT where
 v : Vr
 sh : Int
 ns : List (List WantT)
 bs : List WantT
structure JF where
 n : List UInt8
 f : List UInt8
 cs : List CandT
abbrev Qt := List JF
def JJ (x : WantT) : List D := [.int .i64 x.u, Zm x.s.1, Zm x.s.2]
def Q1 (l : List WantT) : D := .sl (l.map JJ)
def Q8 (l : List (List WantT)) : D := .sl (l.map fun r => [Q1 r])
def Qbb (c : CandT) : List D := [.int .i64 c.v.a, .int .i64 c.v.b, .int .i64 c.v.c, .str c.v.p, .str c.v.q, .int .i64 c.sh, Q8 c.ns, Q1 c.bs]
def Bc (l : List CandT) : D := .sl (l.map Qbb)
def Z9 (u : JF) : List D := [.str u.n, .str u.f, Bc u.cs]
def Yg (w : Qt) : D := .agg [.sl (w.map Z9)]
structure Ye where
 u : Int
 m : Int
 deriving DecidableEq
structure KJ where
 u : Int
 m : Int
 l : Int
 c : Int
 deriving DecidableEq
structure RowT where
 k : Int
 u : Int
 a : Int
 b : Int
 t : List Ye
def JI (t : Ye) : List D := [.int .i64 t.u, .int .i64 t.m]
def Zp (l : List Ye) : D := .sl (l.map JI)
abbrev KF (a b : Int) : Int := Hi .and .i64 a b
abbrev bor (a b : Int) : Int := Hi .or .i64 a b
abbrev PH (a b : Int) : Int := Hi .andNot .i64 a b
def uAt (w : Qt) (u : Int) : Option JF := if u < 0 then none else w[u.toNat]?
theorem Pe {w : Qt} {u : Int} (h0 : 0 <= u) (h : u < w.length) : uAt w u = some (w[u.toNat]'Wa) := by
 rw [uAt, if_neg Wa, List.getElem?_eq_getElem Wa]
theorem R6 {w : Qt} {u : Int} (h : u < 0 \/ (w.length : Int) <= u) : uAt w u = none := by
 unfold uAt
 split
 ·rfl
 ·rw [List.getElem?_eq_none]; omega
def XZ (w : Qt) (u : Int) : Int := match uAt w u with
 | none => 0
 | some x => 2 ^ (min x.cs.length 16 + 1) - 1
theorem NV {w : Qt} {u : Int} (h0 : 0 <= u) (h : u < w.length) : XZ w u = 2 ^ (min (w[u.toNat]'Wa).cs.length 16 + 1) - 1 := by
 rw [XZ, Pe h0 h]
theorem FG {w : Qt} {u : Int} (h : u < 0 \/ (w.length : Int) <= u) : XZ w u = 0 := by rw [XZ, R6 h]
def Me (v : Vr) : Prop := v.p.length <= 1000000 /\ v.q.length <= 1000000
structure WSm (w : Qt) : Prop where
 len : w.length <= 48
 cs : ∀ u ∈ w, u.cs.length <= 16
 vs : ∀ u ∈ w, ∀ c ∈ u.cs, Me c.v
 ns : ∀ u ∈ w, ∀ c ∈ u.cs, c.ns.length <= 1000 /\ c.bs.length <= 1000
 nl : ∀ u ∈ w, ∀ c ∈ u.cs, ∀ r ∈ c.ns, r.length <= 1000
 nw : ∀ u ∈ w, ∀ c ∈ u.cs, ∀ r ∈ c.ns, ∀ x ∈ r, Sm x.s.1 /\ Sm x.s.2
 bw : ∀ u ∈ w, ∀ c ∈ u.cs, ∀ x ∈ c.bs, Sm x.s.1 /\ Sm x.s.2
def Qbs (s : F0) (v : Vr) : Bool := MT s v.a v.b v.c v.p v.q
def HQ (s : F0) (l : List CandT) : Nat -> Int
 | 0 => 0
 | n + 1 => HQ s l n + match l[n]? with
  | some c => if Qbs s c.v = true then 2 ^ (n + 1) else 0
  | none => 0
theorem RL (s : F0) (l : List CandT) : ∀ n, 0 <= HQ s l n /\ HQ s l n <= 2 ^ (n + 1) - 2
 | 0 => by simp [HQ]
 | n + 1 => by
  obtain ⟨h1, h2⟩ := RL s l n
  have h3 : (2 : Int) ^ (n + 1 + 1) = 2 ^ (n + 1) * 2 := Int.pow_succ ..
  have h4 : (0 : Int) < 2 ^ (n + 1) := Int.pow_pos Wa
  rw [HQ, h3]
  generalize (2 : Int) ^ (n + 1) = z at *
  split
  ·split <;> omega
  ·omega
theorem S7 {s : F0} {l : List CandT} {i : Nat} (h : i < l.length) (hp : Qbs s l[i].v = true) : HQ s l (i + 1) = HQ s l i + 2 ^ (i + 1) := by
 rw [HQ, List.getElem?_eq_getElem h]; simp only [hp, if_true]
theorem Dy {s : F0} {l : List CandT} {i : Nat} (h : i < l.length) (hp : Qbs s l[i].v = false) : HQ s l (i + 1) = HQ s l i := by
 rw [HQ, List.getElem?_eq_getElem h]; simp only [hp, QiU, if_false, Int.add_zero]
def CD (w : Qt) (x : WantT) : Int := match uAt w x.u with
 | none => 0
 | some un => HQ x.s un.cs (min un.cs.length 16)
theorem Li {w : Qt} {x : WantT} (h0 : 0 <= x.u) (h : x.u < w.length) : CD w x = HQ x.s (w[x.u.toNat]'Wa).cs (min (w[x.u.toNat]'Wa).cs.length 16) := by
 rw [CD, Pe h0 h]
theorem Dn {w : Qt} {x : WantT} (h : x.u < 0 \/ (w.length : Int) <= x.u) : CD w x = 0 := by rw [CD, R6 h]
theorem Qfv {n : Nat} (h : n <= 17) : 1 <= (2 : Int) ^ n /\ (2 : Int) ^ n <= 131072 := by
 have h1 : (2 : Nat) ^ n <= 2 ^ 17 := Nat.pow_le_pow_right Wa h
 have h2 : 1 <= (2 : Nat) ^ n := Nat.one_le_two_pow
 have h3 : ((2 ^ n : Nat) : Int) = (2 : Int) ^ n := by simp
 rw [<- h3]
 have h4 : (2 : Nat) ^ 17 = 131072 := by decide
 omega
def XQ (w : Qt) (c : List Int) (u : Int) : Int := match uAt w u with
 | none => 0
 | some x => if (c.length : Int) <= u then 0 else if c.getD u.toNat 0 < -1 \/ ((min x.cs.length 16 : Nat) : Int) <= c.getD u.toNat 0 then 0 else 2 ^ (c.getD u.toNat 0 + 1).toNat
def Yx (m : Int) : Nat -> List Int
 | 0 => []
 | n + 1 => Yx m n ++ if KF m (2 ^ n) = 0 then [] else [(n : Int) - 1]
def Xy (m : Int) : List Int := Yx m 17
def inW (w : Qt) (u : Int) : Bool := decide (0 <= u) && decide (u < w.length)
/-! ### Trails -/
def Py (w : Qt) (l : List KJ) (u : Int) : Int := l.foldl (fun a s => if s.u = u /\ inW w u = true then s.m else a) (XZ w u)
def Qfk (l : List KJ) : Int := match l.getLast? with
 | none => 0
 | some s => s.l
def QbE (l : List KJ) (u : Int) : Bool := l.any fun s => decide (s.u = u) && decide (s.c = -1)
def Qgi (w : Qt) (l : List KJ) (inc : List Ye) : Bool := inc.all fun t => decide (S6 (Py w l t.u) t.m = 2)
def RS (have_ : Int -> Int) : List Ye -> Int -> Int
 | [], at_ => at_
 | t :: r, at_ => if S6 (have_ t.u) t.m = 0 then -1 else if S6 (have_ t.u) t.m = 1 then (if 0 <= at_ then -1 else RS have_ r t.u) else RS have_ r at_
def Qfl (w : Qt) (l : List KJ) (inc : List Ye) : Int := RS (Py w l) inc (-1)
def DP (w : Qt) (l : List KJ) : Nat -> List (List Ye) -> Int × Int
 | _, [] => (-1, -1)
 | i, x :: r => if Qgi w l x = true then (i, -1) else if 0 <= Qfl w l x then (i, Qfl w l x) else DP w l (i + 1) r
def Qgh (w : Qt) (db : List (List Ye)) (l : List KJ) : Int × Int := DP w l 0 db
end M25
namespace M25
open Go Go.Abs M3
section
variable {fr : QiK} {H : QiJ} {t u : Nat}
theorem Qa1 {k n : Nat} {b : Box} {d : D} (hb : lk H k = some b) (hp : b.pr = true) (hn : n = b.rows.length) (hd : .sl b.rows = d) : XV ⟨fr, H⟩ (.osl k n) = d := by
 unfold XV; rw [Qge (S := GR) rfl hb hp hn]; exact hd
theorem Gq {e : AExit} {k n : Nat} {b : Box} {d : D} (h : lk fr t = some (.osl k n)) (hb : lk H k = some b) (hp : b.pr = true) (hn : n = b.rows.length) (hd : .sl b.rows = d) (he : e = .ret \/ e = .normal := by first | exact .inl rfl | exact .inr rfl) : Post [.tmp t] d e ⟨fr, H⟩ :=
 ZW h (Qa1 hb hp hn hd) he
end
theorem Qgj (n : Nat) : (min (n : Int) 16 + 1).toNat = min n 16 + 1 := Wa
theorem Tw {n : Nat} (h : n <= 62) : IntKind.i64.wrap ((2 : Int) ^ n - 1) = 2 ^ n - 1 := by
 have := Lr h; exact Qr Wa Wa
theorem Jk {w : Qt} {c : List Int} {u : Int} (h : (u < 0 \/ (w.length : Int) <= u) \/ (c.length : Int) <= u) : XQ w c u = 0 := by
 unfold XQ
 split
 ·rfl
 ·rename_i x hx
  rcases h with h | h
  ·rw [R6 h] at hx; cases hx
  ·rw [if_pos h]
theorem Kx {w : Qt} {c : List Int} {u : Int} (h0 : 0 <= u) (h1 : u < w.length) (h2 : u < c.length) (h : c[u.toNat]'Wa < -1 \/ min (((w[u.toNat]'Wa).cs.length : Nat) : Int) 16 <= c[u.toNat]'Wa) : XQ w c u = 0 := by
 rw [XQ, Pe h0 h1]
 simp only []
 rw [if_neg Wa, List.getD_eq_getElem?_getD, List.getElem?_eq_getElem Wa]
 simp only [Option.getD_some]
 rw [if_pos]
 rcases h with h | h
 ·exact .inl h
 ·right; omega
theorem XR {w : Qt} {c : List Int} {u : Int} (h0 : 0 <= u) (h1 : u < w.length) (h2 : u < c.length) (h : ¬ c[u.toNat]'Wa < -1) (h' : ¬ min (((w[u.toNat]'Wa).cs.length : Nat) : Int) 16 <= c[u.toNat]'Wa) : XQ w c u = 2 ^ (c[u.toNat]'Wa + 1).toNat := by
 rw [XQ, Pe h0 h1]
 simp only []
 rw [if_neg Wa, List.getD_eq_getElem?_getD, List.getElem?_eq_getElem Wa]
 simp only [Option.getD_some]
 rw [if_neg]
 omega
theorem L0 {m : Int} {n : Nat} (h : ¬ KF m (2 ^ n) = 0) : Yx m (n + 1) = Yx m n ++ [(n : Int) - 1] := by rw [Yx, if_neg h]
theorem Bi {m : Int} {n : Nat} (h : KF m (2 ^ n) = 0) : Yx m (n + 1) = Yx m n := by rw [Yx, if_pos h, List.append_nil]
theorem Qfe {w : Qt} {u : Int} (h0 : 0 <= u) (h : u < w.length) : inW w u = true := by simp [inW, h0, h]
theorem QdA {w : Qt} {u : Int} (h : u < 0 \/ (w.length : Int) <= u) : inW w u = false := by
 simp only [inW, QiZ, decide_eq_false_iff_not]; omega
theorem MH {w : Qt} {u : Int} : inW w u = true ↔ 0 <= u /\ u < w.length := by simp [inW]
theorem D3 {e : Int} (h1 : 0 <= e) (h2 : e <= 18446744073709551615) : IntKind.u64.wrap e = e := by
 unfold IntKind.wrap
 simp only [IntKind.bits, IntKind.signed, Bool.false_and, QiU, if_false]
 omega
end M25
namespace Go.Proofs
open Go Go.Abs M3 M25
theorem GC {w : Qt} (hw : WSm w) {u : Int} : Ok Tryz.prog 35 [Yg w, .int .i64 u] (.int .i64 (XZ w u)) := by
 refine Ok.ofT ZL Tryz.func35 QhO (QiM Z) ?_
 show TW _ _ tf35.body _ _
 refine Qb fun K hK => Zi Z Z Z (Qa Z (kc2 hK Z Z ?_))
 refine QB ?_ -- 0
 refine Qb fun K hK => Qa Z (ZT Z Z (Qa Z ?_))
 refine Qp (g := 7) Z (fun h1 => ?_) (fun h1 => ?_)
 ·rw [h1]
  simp only [qA] at h1
  refine gn4 Z Z Z Z (Xd Z (Qg Z Z (kc3 hK Z Z Z ?_)))
  refine Zl Z (Qb fun K hK => Qa Z (kc1 hK Z ?_))
  refine Qo (Qj (Qx Z ?_))
  rw [FG Wa]
 ·rw [h1]
  simp only [qA] at h1
  refine Qd Z (Qa Z (Qd Z (Qe Z Z (Qd Z (QA Z Z Z (Qd Z (Zd Z Z (Qd Z (GQ Z Z (Qg Z Z (kc3 hK Z Z Z ?_)))))))))))
  refine Qs Z (fun h2 => ?_) (fun h2 => ?_)
  ·rw [h2]
   simp only [qA] at h2
   refine Qb fun K hK => Qa Z (kc1 hK Z ?_)
   refine Qo (Qj (Qx Z ?_))
   rw [FG Wa]
  ·rw [h2]
   simp only [qA] at h2
   refine Qq (ks2 Z Z (Qb fun K hK => Qe Z Z (QA Z Z Z (Qa Z (QJ Z Z Z Wa (Zt Wa Wa) Z (Zj Z Z (QA Z Z Z (Zd Z Z (QeM Z Z (Q2 Z Z Wb ?_))))))))))
   refine Qv (Jp Wa Wa) Z Z (.inr Z) (Hk Z Z (Tw Wa) (Qa Z (kc1 hK Z ?_)))
   refine Qo (Qx Z ?_)
   rw [NV Wa Wa, List.length_map, Qgj]
theorem Hy {w : Qt} (hw : WSm w) {c : List Int} {u : Int} : Ok Tryz.prog 54 [Yg w, QS c, .int .i64 u] (.int .i64 (XQ w c u)) := by
 refine Ok.ofT ZL Tryz.func54 Qh2 (QiM Z) ?_
 show TW _ _ tf54.body _ _
 refine Qb fun K hK => Zi Z Z Z (Qa Z (kc3 hK Z Z Z ?_))
 refine QB ?_ -- 0
 refine Qb fun K hK => Qa Z (ZT Z Z (Qa Z ?_))
 refine Qp (g := 9) Z (fun h1 => ?_) (fun h1 => ?_)
 ·rw [h1]
  simp only [qA] at h1
  refine gn4 Z Z Z Z (Xd Z (Qg Z Z (Qa Z (gn4 Z Z Z Z (Qg Z Z ?_)))))
  refine kc4 hK Z Z Z Z ?_
  refine Zl Z (Qb fun K hK => Qa Z (kc1 hK Z ?_))
  refine Qo (Qj (Qx Z ?_))
  rw [Jk Wa]
 ·rw [h1]
  simp only [qA] at h1
  refine Qd Z (Qa Z (Qd Z (Qe Z Z (Qd Z (QA Z Z Z (Qd Z (Zd Z Z (Qd Z (GQ Z Z (Qg Z Z (Qa Z ?_)))))))))))
  refine Qp (g := 16) Z (fun h2 => ?_) (fun h2 => ?_)
  ·rw [h2]
   simp only [qA] at h2
   refine gn4 Z Z Z Z (Qg Z Z (kc4 hK Z Z Z Z ?_))
   refine Zl Z (Qb fun K hK => Qa Z (kc1 hK Z ?_))
   refine Qo (Qj (Qx Z ?_))
   rw [Jk Wa]
  ·rw [h2]
   simp only [qA] at h2
   refine Qd Z (Qa Z (Qd Z (Qa Z (Qd Z (Zd Z Z (Qd Z (GQ Z Z (Qg Z Z (kc4 hK Z Z Z Z ?_)))))))))
   refine Qs Z (fun h3 => ?_) (fun h3 => ?_)
   ·rw [h3]
    simp only [qA] at h3
    refine Qb fun K hK => Qa Z (kc1 hK Z ?_)
    refine Qo (Qj (Qx Z ?_))
    rw [Jk Wa]
   ·rw [h3]
    simp only [qA] at h3
    refine Qq (ks3 Z Z Z ?_)
    refine QB ?_ -- 1
    refine Qb fun K hK => mv2 Z Z (QJ Z Z Z Wa (Zt Wa Wa) Z (QP (ds0 := [15, 14, 13, 12, 11, 10, 9, 8, 7, 6, 5, 4, 3, 2, 1, 0]) Z Z Z Z Z (ZT Z Z (Qa Z ?_))))
    refine Qp (g := 27) Z (fun h4 => ?_) (fun h4 => ?_)
    ·rw [h4]
     simp only [qA] at h4
     refine gn4 Z Z Z Z (gn4 Z Z Z Z (gn4 Z Z Z Z ?_))
     refine Xd Z (Qg Z Z (kc3 hK Z Z Z ?_))
     refine Zl Z (Qb fun K hK => Qa Z (kc1 hK Z ?_))
     refine Qo (Qj (Qx Z ?_))
     rw [Kx Wa Wa Wa (by first | exact .inl Wh | exact .inr (by simpa using h5))]
    ·rw [h4]
     simp only [qA] at h4
     refine Qd Z (Qa Z (Qd Z (Qa Z (Qd Z (QJ Z Z Z Wa (Zt Wa Wa) Z (Qd Z (QP (ds0 := [1, 0]) Z Z Z Z Z (Qd Z (Qe Z Z (Qd Z (QP (ds0 := [6, 5, 4, 3, 2, 1, 0]) Z Z Z Z Z ?_)))))))))))
     refine Qd Z (Qa Z (Qd Z (QJ Z Z Z Wa (Zt Wa Wa) Z (Qd Z (Zj Z Z (Qd Z (QP (ds0 := [3, 2, 1, 0]) Z Z Z Z Z (Qd Z (Zd Z Z (Qd Z (QeM Z Z ?_)))))))))))
     refine Qd Z (GQ Z Z (Qg Z Z (kc3 hK Z Z Z ?_)))
     refine Qs Z (fun h5 => ?_) (fun h5 => ?_)
     ·rw [h5]
      simp only [qA] at h5
      refine Qb fun K hK => Qa Z (kc1 hK Z ?_)
      refine Qo (Qj (Qx Z ?_))
      rw [Kx Wa Wa Wa (by first | exact .inl Wh | exact .inr (by simpa using h5))]
     ·rw [h5]
      simp only [qA] at h5
      refine Qq (ks2 Z Z (Qb fun K hK => mv2 Z Z (QJ Z Z Z Wa (Zt Wa Wa) Z (QA Z Z Z (Q2 Z Z Wb (Qv (Jp Wa Wa) Z Z (.inr Z) (Qa Z (kc1 hK Z ?_))))))))
      refine Qo (Qx Z ?_)
      rw [XR Wa Wa Wa Wh (by simpa using h5)]
end Go.Proofs
namespace M25
open Go Go.Abs M3
theorem WSm.csLen {w : Qt} (hw : WSm w) {u : Nat} (hu : u < w.length) : w[u].cs.length <= 16 := hw.cs _ (QiR _)
open Go Go.Abs M3
/-! ### Bits of numbers -/
theorem Sb (e : Int) : IntKind.i64.wrap e = (BitVec.ofInt 64 e).toInt := by
 have hb : (BitVec.ofInt 64 e).toInt = if e % 18446744073709551616 < 9223372036854775808 then e % 18446744073709551616 else e % 18446744073709551616 - 18446744073709551616 := by
  rw [BitVec.toInt_ofInt]; rfl
 rw [hb]
 unfold IntKind.wrap
 simp only [IntKind.bits, IntKind.signed, Bool.true_and]
 split
 ·rename_i h
  have := of_decide_eq_true h
  split <;> omega
 ·rename_i h
  have : ¬ (e % 2 ^ 64 >= 2 ^ (64 - 1)) := fun hh => h (decide_eq_true hh)
  split <;> omega
theorem G5 (b : BitVec 64) : BitVec.ofInt 64 (b.toNat : Int) = b := by
 rw [BitVec.ofInt_natCast, BitVec.ofNat_toNat, BitVec.setWidth_eq]
theorem QeZ (x y : Int) : BitVec.ofInt 64 (KF x y) = BitVec.ofInt 64 x &&& BitVec.ofInt 64 y := by
 show BitVec.ofInt 64 (IntKind.i64.wrap ((BitVec.ofInt 64 x &&& BitVec.ofInt 64 y).toNat : Int)) = _
 rw [Sb, BitVec.ofInt_toInt, G5]
theorem Qf8 (x y : Int) : BitVec.ofInt 64 (bor x y) = BitVec.ofInt 64 x ||| BitVec.ofInt 64 y := by
 show BitVec.ofInt 64 (IntKind.i64.wrap ((BitVec.ofInt 64 x ||| BitVec.ofInt 64 y).toNat : Int)) = _
 rw [Sb, BitVec.ofInt_toInt, G5]
theorem Qe0 (x y : Int) : BitVec.ofInt 64 (PH x y) = BitVec.ofInt 64 x &&& ~~~ BitVec.ofInt 64 y := by
 show BitVec.ofInt 64 (IntKind.i64.wrap ((BitVec.ofInt 64 x &&& ~~~ BitVec.ofInt 64 y).toNat : Int)) = _
 rw [Sb, BitVec.ofInt_toInt, G5]
theorem Qbt {x : Int} (h : I64 x) : IntKind.i64.wrap x = x := Qr h.1 h.2
theorem Qct {x : Int} (h : I64 x) : (BitVec.ofInt 64 x).toInt = x := by rw [<- Sb, Qbt h]
theorem La (x y : Int) : I64 (KF x y) := Pg _
theorem Qfa (x y : Int) : I64 (bor x y) := Pg _
def tb (x : Int) (i : Nat) : Bool := (BitVec.ofInt 64 x).getLsbD i
theorem QaD (x y : Int) (i : Nat) : tb (KF x y) i = (tb x i && tb y i) := by rw [tb, QeZ, BitVec.getLsbD_and]; rfl
theorem QfF (x y : Int) (i : Nat) : tb (bor x y) i = (tb x i || tb y i) := by rw [tb, Qf8, BitVec.getLsbD_or]; rfl
theorem QfE (x y : Int) {i : Nat} : tb (PH x y) i = (tb x i && !tb y i) := by
 rw [tb, Qe0, BitVec.getLsbD_and, BitVec.getLsbD_not]
 by_cases h : i < 64
 ·simp [h, tb]
 ·simp [tb, BitVec.getLsbD_of_ge _ i (by omega : 64 <= i)]
theorem QaF (x : Int) {i : Nat} (h : 64 <= i) : tb x i = false := BitVec.getLsbD_of_ge _ i h
theorem QaE {x y : Int} (hx : I64 x) (hy : I64 y) (h : ∀ i, tb x i = tb y i) : x = y := by
 rw [<- Qct hx, <- Qct hy]
 congr 1
 exact BitVec.eq_of_getLsbD_eq fun i _ => h i
theorem R5 (i : Nat) : tb 0 i = false := by
 show (BitVec.ofInt 64 0).getLsbD i = false
 rw [show BitVec.ofInt 64 0 = 0#64 from rfl, BitVec.getLsbD_zero]
theorem T7 {x : Int} (hx : I64 x) : x = 0 ↔ ∀ i, tb x i = false := by
 constructor
 ·rintro rfl i; exact R5 i
 ·intro h; exact QaE hx ⟨Wa, Wa⟩ fun i => by rw [h i, R5]
theorem DV (n : Nat) {i : Nat} (h : i < 64) : tb (n : Int) i = n.testBit i := by
 rw [tb, BitVec.ofInt_natCast, BitVec.getLsbD_ofNat]; simp [h]
theorem Tt {k : Nat} (hk : k < 64) (i : Nat) : tb ((2 : Int) ^ k) i = decide (i = k) := by
 have e : ((2 ^ k : Nat) : Int) = (2 : Int) ^ k := by simp
 by_cases h : i < 64
 ·rw [<- e, DV _ h, Nat.testBit_two_pow]
  exact decide_eq_decide.2 eq_comm
 ·rw [QaF _ Wa]; exact (decide_eq_false Wa).symm
theorem Qa0 {x m : Int} : KF x m = 0 ↔ ∀ i, tb x i = true -> tb m i = false := by
 rw [T7 (La x m)]
 refine forall_congr' fun i => ?_
 rw [QaD]; cases tb x i <;> cases tb m i <;> simp
def Lo (x : Int) : Prop := 0 <= x /\ x < 131072
theorem JP {x : Int} {k : Nat} (hk : k < 64) : KF x (2 ^ k) = 0 ↔ tb x k = false := by
 rw [Qa0]
 constructor
 ·intro h
  cases hx : tb x k
  ·rfl
  ·have := h k hx; rw [Tt hk] at this; simp at this
 ·intro h i hi
  rw [Tt hk]
  by_cases e : i = k
  ·subst e; rw [h] at hi; cases hi
  ·exact decide_eq_false e
open Go Go.Abs M3
/-! ### Trails: the loops' laws -/
theorem By {w : Qt} {u : Int} : XZ w u = 0 ↔ inW w u = false := by
 constructor
 ·intro h
  cases hw : inW w u
  ·rfl
  ·rw [MH] at hw
   rw [NV hw.1 hw.2] at h
   have h2 : 2 <= (2 : Int) ^ (min (w[u.toNat]'Wa).cs.length 16 + 1) := by
    rw [Int.pow_succ]
    have := Qfv (n := min (w[u.toNat]'Wa).cs.length 16) Wa
    omega
   omega
 ·intro h
  refine FG (Classical.byContradiction fun hn => ?_)
  rw [Qfe Wa Wa] at h; cases h
def QeH (w : Qt) (l : List KJ) : Prop := ∀ s ∈ l, Lo s.m
open Go Go.Abs M3
def Cx : List JF -> Int -> Int
 | [], n => n
 | u :: r, n => if n < 1000000 then Cx r (n * ((u.cs.length : Int) + 1)) else n
def Lk (w : Qt) : Int := Cx w 1
theorem Qgo {w : Qt} {i : Nat} {n : Int} (h : i < w.length) (hn : n < 1000000) : Cx (w.drop i) n = Cx (w.drop (i + 1)) (n * ((w[i].cs.length : Int) + 1)) := by
 rw [Qi3 h, Cx, if_pos hn]
theorem QfC {w : Qt} {i : Nat} {n : Int} (h : w.length <= i) : Cx (w.drop i) n = n := by rw [Qi7 h, Cx]
theorem QfB {w : Qt} {i : Nat} {n : Int} (hn : ¬ n < 1000000) : Cx (w.drop i) n = n := by
 cases h : w.drop i with
 | nil => rfl
 | cons u r => rw [Cx, if_neg hn]
theorem Qcg {n : Int} {k : Nat} (h0 : 1 <= n) (h1 : n < 1000000) (hk : k <= 16) : 1 <= n * ((k : Int) + 1) /\ n * ((k : Int) + 1) <= 17000000 := by
 obtain ⟨m, rfl⟩ := Int.eq_ofNat_of_zero_le (Wa : 0 <= n)
 have h2 : m * (k + 1) <= 1000000 * 17 := Nat.mul_le_mul Wa Wa
 have h3 : 1 * 1 <= m * (k + 1) := Nat.mul_le_mul Wa Wa
 have e : (m : Int) * ((k : Int) + 1) = ((m * (k + 1) : Nat) : Int) := by simp
 rw [e]; omega
def chN (w : Qt) (n : Int) : Nat -> Int
 | 0 => n
 | i + 1 => match w[i]? with
  | some u => (chN w n i).tdiv ((u.cs.length : Int) + 1)
  | none => chN w n i
def chL (w : Qt) (n : Int) : Nat -> List Int
 | 0 => []
 | i + 1 => match w[i]? with
  | some u => chL w n i ++ [(chN w n i).tmod ((u.cs.length : Int) + 1) - 1]
  | none => chL w n i
def RJ (w : Qt) (n : Int) : List Int := chL w n w.length
theorem Qe2 {w : Qt} {n : Int} {i : Nat} (h : i < w.length) : chN w n (i + 1) = (chN w n i).tdiv ((w[i].cs.length : Int) + 1) := by rw [chN, List.getElem?_eq_getElem h]
theorem C8 {w : Qt} {n : Int} {i : Nat} (h : i < w.length) : chL w n (i + 1) = chL w n i ++ [(chN w n i).tmod ((w[i].cs.length : Int) + 1) - 1] := by rw [chL, List.getElem?_eq_getElem h]
theorem QaG {a : Int} {k : Nat} (h0 : 0 <= a) : 0 <= a.tdiv ((k : Int) + 1) /\ a.tdiv ((k : Int) + 1) <= a := by
 obtain ⟨m, rfl⟩ := Int.eq_ofNat_of_zero_le h0
 have : ((m : Int)).tdiv ((k : Int) + 1) = ((m / (k + 1) : Nat) : Int) := by
  rw [show (k : Int) + 1 = ((k + 1 : Nat) : Int) by simp, Int.ofNat_tdiv]
 rw [this]
 have := Nat.div_le_self m (k + 1)
 exact ⟨Int.natCast_nonneg _, Int.ofNat_le.2 this⟩
theorem C9 {w : Qt} {n : Int} (h0 : 0 <= n) : ∀ i, 0 <= chN w n i /\ chN w n i <= n
 | 0 => ⟨h0, Int.le_refl _⟩
 | i + 1 => by
  obtain ⟨h1, h2⟩ := C9 (w := w) h0 i
  rw [chN]
  split
  ·rename_i u _
   have := QaG (k := u.cs.length) h1
   omega
  ·exact ⟨h1, h2⟩
theorem C6 (w : Qt) (n : Int) : ∀ i, (chL w n i).length <= i
 | 0 => Nat.le_refl _
 | i + 1 => by
  have := C6 w n i
  rw [chL]; split <;> simp <;> omega
theorem Qen {a : Int} {k : Nat} (hk : k <= 16) : IntKind.i64.wrap (a.tmod ((k : Int) + 1) - 1) = a.tmod ((k : Int) + 1) - 1 := by
 have h1 := Int.lt_tmod_of_pos a (Wa : (0 : Int) < (k : Int) + 1)
 have h2 := Int.tmod_lt_of_pos a (Wa : (0 : Int) < (k : Int) + 1)
 exact Qr Wa Wa
theorem Qem {a : Int} {k : Nat} (h0 : 0 <= a) (h1 : a <= 9223372036854775807) : IntKind.i64.wrap (a.tdiv ((k : Int) + 1)) = a.tdiv ((k : Int) + 1) := by
 have := QaG (k := k) h0
 exact Qr Wa Wa
theorem FZ {v : Int} (h : (v + 1).toNat <= 61) : IntKind.i64.wrap ((1 : Int) * 2 ^ min (v + 1).toNat IntKind.i64.bits) = 2 ^ (v + 1).toNat := by
 rw [show min (v + 1).toNat IntKind.i64.bits = (v + 1).toNat from by simp only [IntKind.bits]; omega, Int.one_mul]
 have := Lr (i := (v + 1).toNat) Wa
 exact Qr Wa Wa
end M25
namespace Go.Proofs
open Go Go.Abs M3 M25
theorem GS {w : Qt} (hw : WSm w) : Ok Tryz.prog 14 [Yg w] (.int .i64 (Lk w)) := by
 refine Ok.ofT ZL Tryz.func14 QhC (QiM Z) ?_
 show TW _ _ tf14.body _ _
 have hn := hw.len
 refine Qb fun K hK => Zi Z Z Z (Qa Z (kc1 hK Z ?_))
 refine Qb fun K hK => Qa Z (kc2 hK Z Z ?_)
 refine QB ?_ -- 0
 refine Qb fun K hK => Qa Z (kc3 hK Z Z Z ?_)
 refine QC ?_
 refine Zs (ι := Nat × Int) (fun ⟨i, n⟩ => ⟨[(1, .ref 1 0 0), (3, .int .i64 n), (4, .int .i64 i)], [(1, ⟨[[.sl ((w).map Z9)]], 1, 26, true⟩)]⟩) (fun ⟨i, n⟩ => i <= w.length /\ 1 <= n /\ Lk w = Cx (w.drop i) n) (fun ⟨i, n⟩ => w.length - i) (0, 1) ?_ ?_ ?_
 ·exact QW (l := [1, 3, 4]) (lH := [1]) (kp3 rfl rfl rfl) (Qf rfl Qn) rfl rfl rfl
 ·exact ⟨QiY _, Int.le_refl _, rfl⟩
 intro ⟨i, n⟩ hI
 obtain ⟨hI1, hI2, hI3⟩ := hI
 dsimp only
 refine QB ?_ -- 1
 refine Qb fun K hK => Qa Z (Qe Z Z (QA Z Z Z (Zd Z QQ (ZT Z Z (Qa Z ?_)))))
 refine Qp (g := 10) Z (fun h1 => ?_) (fun h1 => ?_)
 ·rw [h1]
  simp only [qA] at h1
  refine Qd Z (Qa Z (Qd Z (ZT Z Z (Qg Z Z (kc4 hK Z Z Z Z ?_)))))
  refine Qs Z (fun h2 => ?_) (fun h2 => ?_)
  ·rw [h2]
   simp only [qA] at h2
   refine Qq (ks3 Z Z Z ?_)
   refine QB ?_ -- 2
   refine QC (QN fun K hK => Qa Z (Qe Z Z (QA Z Z Z (Qa Z (QJ Z Z Z Wa (Q6 Wa) Z (Zj Z Z (QA Z Z Z (Zd Z QQ (Q2 Z Z (Qr (by have := hw.csLen (Wa : i < w.length); omega) (by have := hw.csLen (Wa : i < w.length); omega)) (CL Z Z (Qr (by have := Qcg hI2 h2 (hw.csLen (Wa : i < w.length)); omega) (by have := Qcg hI2 h2 (hw.csLen (Wa : i < w.length)); omega)) ?_))))))))))
   refine Qa Z (hK _ ?_)
   refine Qh (ks3 Z Z Z (QN fun K hK => Qa Z (Q2 Z Z Wb (Qa Z (hK _ ?_)))))
   refine Qk (i + 1, n * (((w[i]'Wa).cs.length : Int) + 1)) ?_ ?_ ?_
   ·exact QW (l := [1, 3, 4]) (lH := [1]) (kp3 rfl rfl rfl) (Qf rfl Qn) rfl rfl rfl
   ·exact ⟨Wa, (Qcg hI2 h2 (hw.csLen Wa)).1, by rw [hI3, Qgo Wa h2]⟩
   ·show w.length - (i + 1) < w.length - i; omega
  ·rw [h2]
   simp only [qA] at h2
   refine Q7 (QF (Qw (QE (ks1 Z (Qb fun K hK => mv2 Z Z (kc1 hK Z ?_))))))
   refine Qo (Qx Z ?_)
   rw [hI3, QfB Wa]
 ·rw [h1]
  simp only [qA] at h1
  refine gn2 Z Z (Qg Z Z (kc4 hK Z Z Z Z ?_))
  refine Zk Z (Q7 (QF (Qw (QE (ks1 Z (Qb fun K hK => mv2 Z Z (kc1 hK Z ?_)))))))
  refine Qo (Qx Z ?_)
  rw [hI3, QfC Wa]
theorem Hs {w : Qt} (hw : WSm w) {n : Int} (h0n : 0 <= n) (h1n : n <= 9223372036854775807) : Ok Tryz.prog 12 [Yg w, .int .i64 n] (QS (RJ w n)) := by
 refine Ok.ofT ZL Tryz.func12 QhA (QiM Z) ?_
 show TW _ _ tf12.body _ _
 have hn := hw.len
 refine Qb fun K hK => Zi Z Z Z (Qa Z (kc2 hK Z Z ?_))
 refine Qb fun K hK => Qa Z (kc3 hK Z Z Z ?_)
 refine QB ?_ -- 0
 refine Qb fun K hK => Qa Z (kc4 hK Z Z Z Z ?_)
 refine QC ?_
 refine Zs (ι := Nat) (fun i => ⟨[(1, .int .i64 (chN w n i)), (2, .ref 2 0 0), (5, .osl 5 (chL w n i).length), (6, .int .i64 i)], [(2, ⟨[[.sl ((w).map Z9)]], 1, 26, true⟩), (5, ⟨(chL w n i).map (fun x => [.int .i64 x]), 1, 3, true⟩)]⟩) (fun i => i <= w.length) (fun i => w.length - i) 0 ?_ ?_ ?_
 ·exact le_trans (Yn 5 5 1 3 rfl rfl) (QW (l := [1, 2, 5, 6]) (lH := [2, 5]) (kp4 rfl rfl rfl rfl) (Qf rfl (Qf rfl Qn)) rfl rfl rfl)
 ·exact QiY _
 intro i hI
 have hlen := C6 w n i
 have hbd := C9 (w := w) h0n i
 refine QB ?_ -- 1
 refine Qb fun K hK => Qa Z (Qe Z Z (QA Z Z Z (Zd Z QQ (ZT Z Z (kc5 hK Z Z Z Z Z ?_)))))
 refine Qs Z (fun h1 => ?_) (fun h1 => ?_)
 ·rw [h1]
  simp only [qA] at h1
  refine Qq (ks4 Z Z Z Z ?_)
  refine QB ?_ -- 2
  refine QC (Qb fun K hK => Qe Z Z (QA Z Z Z (Qa Z (QJ Z Z Z Wa (Q6 Wa) Z (Zj Z Z (QA Z Z Z (Zd Z QQ (Q2 Z Z (Qr Wa (by have := hw.csLen (Wa : i < w.length); omega)) (Qa Z (kc5 hK Z Z Z Z Z ?_))))))))))
  refine Qb fun K hK => mv2 Z Z (Qa Z (QaV Z Z Wa (Hk Z Z (Qen (hw.csLen Wa)) (QK Z Z (XK Z Z (fun _ h => Xt Z Z Z h) Z Wd Z Z Z Wf Wf (Qa Z (kc5 hK Z Z Z Z Z ?_)))))))
  refine QN fun K hK => mv2 Z Z (Qf0 Z Z Wa (Qem hbd.1 Wa) (Qa Z (hK _ ?_)))
  refine Qh (ks4 Z Z Z Z (QN fun K hK => Qa Z (Q2 Z Z Wb (Qa Z (hK _ ?_)))))
  refine Qk (i + 1) ?_ ?_ ?_
  ·exact QW (l := [1, 2, 5, 6]) (lH := [2, 5]) (kp4 rfl rfl rfl rfl) (Qf rfl (Qf rfl Qn)) (by rw [C8 Wa, Qe2 Wa, List.length_append]; rfl) (by rw [C8 Wa, List.map_append]; rfl) rfl
  ·omega
  ·omega
 ·rw [h1]
  simp only [qA] at h1
  refine Q7 (QF (Qw (QE (ks1 Z (Qb fun K hK => mv2 Z Z (kc1 hK Z ?_))))))
  refine Qo ?_
  exact Gq rfl rfl rfl Wd (by rw [RJ, show w.length = i by omega]; rfl)
theorem H7 {v : Int} (h0 : -1 <= v) (h1v : v <= 60) : Ok Tryz.prog 71 [.int .i64 v] (.int .i64 (2 ^ (v + 1).toNat)) := by
 refine Ok.ofT ZL Tryz.func71 Qii (QiM Z) ?_
 show TW _ _ tf71.body _ _
 refine Qb fun K hK => Qa Z (kc1 hK Z ?_)
 refine Qb fun K hK => Qa Z (Q2 Z Z Wb (QaW Z Z Wa (FZ Wa) (Qa Z (kc1 hK Z ?_))))
 refine Qo (Qx Z ?_)
 rfl
theorem PJ {w : Qt} (hw : WSm w) {u : Int} : Ok Tryz.prog 70 [Yg w, .int .i64 u] (.bool (inW w u)) := by
 refine Ok.ofT ZL Tryz.func70 Qih (QiM Z) ?_
 show TW _ _ tf70.body _ _
 refine Qb fun K hK => Zi Z Z Z (Qa Z (kc2 hK Z Z ?_))
 refine Qb fun K hK => Qa Z (GQ Z Z (Qa Z ?_))
 refine Qp (g := 7) Z (fun h1 => ?_) (fun h1 => ?_)
 ·rw [h1]
  simp only [qA] at h1
  refine Qd Z (Qa Z (Qd Z (Qe Z Z (Qd Z (QA Z Z Z (Qd Z (Zd Z QQ (Qd Z (ZT Z Z (Qg Z Z (Qa Z ?_)))))))))))
  refine kc1 hK Z ?_
  refine Qo (Qi Z ?_)
  rw [inW, decide_eq_true h1, Bool.true_and]
 ·rw [h1]
  simp only [qA] at h1
  refine gn4 Z Z Z Z (Xd Z (Qg Z Z (Qa Z (kc1 hK Z ?_))))
  refine Qo (Qi Z ?_)
  (rw [QdA Wa]; done)
theorem Mq {w : Qt} (hw : WSm w) {u : Int} : Ok Tryz.prog 41 [Yg w, .int .i64 u] (.int .i64 (XZ w u)) := by
 refine Ok.ofT ZL Tryz.func41 QhT (QiM Z) ?_
 show TW _ _ tf41.body _ _
 refine Qb fun K hK => Zi Z Z Z (Qa Z (kc2 hK Z Z ?_))
 refine QB ?_ -- 0
 refine Qb fun K hK => Qz (cs := [_]) Z Z Z Z (Qa Z (Qv (PJ hw) Z Z (.inr Z) (ZB Z (kc3 hK Z Z Z ?_))))
 refine Qs Z (fun h1 => ?_) (fun h1 => ?_)
 ·rw [h1]
  simp only [qA] at h1
  try have h1b := MH.1 h1
  refine Qb fun K hK => Qa Z (kc1 hK Z ?_)
  refine Qo (Qj (Qx Z ?_))
  rw [By.2 h1]
 ·rw [h1]
  simp only [qA] at h1
  try have h1b := MH.1 h1
  refine Qq (ks2 Z Z (Qb fun K hK => Qe Z Z (QA Z Z Z (Qa Z (QJ Z Z Z Wa (Zt Wa Wa) Z (Zj Z Z (QA Z Z Z (Zd Z QQ (Qv (H7 Wa (by have := hw.cs _ (QiR (Wa : u.toNat < w.length)); omega)) Z Z (.inr Z) (Hk Z Z (Tw (by have := hw.cs _ (QiR (Wa : u.toNat < w.length)); omega)) ?_))))))))))
  refine Qa Z (kc1 hK Z ?_)
  refine Qo (Qx Z ?_)
  rw [NV h1b.1 h1b.2, show min (w[u.toNat]'Wa).cs.length 16 = (w[u.toNat]'Wa).cs.length from Nat.min_eq_left (hw.cs _ (QiR _)), QfJ]
end Go.Proofs
namespace M25
open Go Go.Abs M3
/-! ### prop: what is left of each unit, scans -/
structure QeG (w : Qt) (db : List (List Ye)) (l : List KJ) (a : Nat) (k : Nat) : Prop where
  ha : a < db.length
  hk : k < db[a].length
  eq : Qgh w db l = ((a : Int), db[a][k].u)
  one : S6 (Py w l db[a][k].u) db[a][k].m = 1
  two : ∀ j, ∀ hj : j < db[a].length, j ≠ k -> S6 (Py w l db[a][j].u) db[a][j].m = 2
def Qhs (w : Qt) (l : List KJ) (t : Ye) (c : Int) : KJ := ⟨t.u, PH (Py w l t.u) t.m, Qfk l, c⟩
open Go Go.Abs M3
/-! ### Sets that are made: moderate sizes -/
theorem Qbr (l : List (Cu × Cu)) (x y : Cu) : (HN l x y).length <= l.length + 1 := S2 l x y
theorem Rw (f : Cu -> Cu -> Bool) : ∀ (c : List Cu) (out : List (Cu × Cu)), (∀ x ∈ c, Cu.sm x) -> (∀ s ∈ out, Cu.sm s.1 /\ Cu.sm s.2) -> (HM f c out).length <= out.length + c.length /\ ∀ s ∈ HM f c out, Cu.sm s.1 /\ Cu.sm s.2
 | [], out, _, h => ⟨by simp [HM], by simpa [HM] using h⟩
 | [x], out, _, h => ⟨by simp [HM], by simpa [HM] using h⟩
 | x :: y :: r, out, hc, h => by
  rw [HM]
  have hxy := Qbr out x y
  split
  ·obtain ⟨h1, h2⟩ := Rw f (y :: r) (HN out x y) (fun z hz => hc z (by simp at hz ⊢; exact .inr hz)) (Dm h (hc x Wd) (hc y Wd))
   exact ⟨by simp only [List.length_cons] at h1 ⊢; omega, h2⟩
  ·obtain ⟨h1, h2⟩ := Rw f (y :: r) out (fun z hz => hc z (by simp at hz ⊢; exact .inr hz)) h
   exact ⟨by simp only [List.length_cons] at h1 ⊢; omega, h2⟩
def SmN (n : Nat) (l : List (Cu × Cu)) : Prop := l.length <= n /\ ∀ s ∈ l, Cu.sm s.1 /\ Cu.sm s.2
theorem SmN.sm {n : Nat} {l : List (Cu × Cu)} (h : SmN n l) (hn : n <= 1000000) : Sm l := ⟨Qi5 h.1 hn, h.2⟩
theorem SmN.up {n m : Nat} {l : List (Cu × Cu)} (h : SmN n l) (hn : n <= m) : SmN m l := ⟨Qi5 h.1 hn, h.2⟩
theorem SmN.nil (n : Nat) : SmN n [] := ⟨QiY _, by simp⟩
theorem QcL {a b : List (Cu × Cu)} {n m : Nat} (ha : SmN n a) (hb : SmN m b) (h : n + m <= 1000000) : SmN (2 + 2 * (n + m)) (QcG a b) := by
 unfold QcG
 split
 ·have hab : Sm (a ++ b) := (ha.sm Wa).app (hb.sm Wa) (by have := ha.1; have := hb.1; omega)
  unfold Lh
  split
  ·obtain ⟨h1, h2⟩ := Rw (mIn (a ++ b)) (YX (a ++ b)) [] (Yz hab) Wd
   have := HL (a ++ b)
   have := ha.1
   have := hb.1
   exact ⟨by simp only [List.length_nil, List.length_append] at *; omega, h2⟩
  ·exact SmN.nil _
 ·exact SmN.nil _
theorem B5 {a : List (Cu × Cu)} {n : Nat} (ha : SmN n a) (h : n <= 1000000) : SmN (2 + 2 * n) (Lj a) := by
 unfold Lj
 split
 ·obtain ⟨h1, h2⟩ := Rw (fun x y => !mIn a x y) (YX a) [] (Yz (ha.sm h)) Wd
  have := HL a
  have := ha.1
  exact ⟨by simp only [List.length_nil] at *; omega, h2⟩
 ·exact SmN.nil _
def Cb (n : Nat) (s : F0) : Prop := SmN n s.1 /\ SmN n s.2
theorem Qfs {a b : F0} {n m : Nat} (ha : Cb n a) (hb : Cb m b) (h : n + m <= 1000000) : Cb (2 + 2 * (n + m)) (QaP a b) := by
 unfold QaP
 split
 ·exact ⟨QcL ha.1 hb.1 h, QcL ha.2 hb.2 h⟩
 ·exact ⟨SmN.nil _, SmN.nil _⟩
theorem B6 {a : F0} {n : Nat} (ha : Cb n a) (h : n <= 1000000) : Cb (2 + 2 * n) (MV a) := by
 unfold MV
 split
 ·exact ⟨B5 ha.1 h, B5 ha.2 h⟩
 ·exact ⟨SmN.nil _, SmN.nil _⟩
theorem Gt (e a b c : Int) (f : Bool) : Cu.sm ⟨e, a, b, c, [], [], f⟩ := ⟨QiY _, QiY _⟩
theorem Gd {a b c : Int} {p q : List UInt8} (hp : p.length <= 1000000) : Cb 1 (Xa a b c p q) := by
 unfold Xa
 split
 ·exact ⟨SmN.nil _, SmN.nil _⟩
 ·split
  ·refine ⟨SmN.nil _, ⟨Nat.le_refl _, fun s hs => ?_⟩⟩
   simp only [QiV] at hs; subst hs
   exact ⟨⟨hp, QiY _⟩, ⟨hp, QiY _⟩⟩
  ·refine ⟨⟨Nat.le_refl _, fun s hs => ?_⟩, SmN.nil _⟩
   simp only [QiV] at hs; subst hs
   constructor
   ·unfold MS; split
    ·exact Gt ..
    ·exact Gt ..
   ·unfold FF; split
    ·exact Gt ..
    ·exact Gt ..
def Mj : F0 := ([(GJ, Pv)], [(GJ, Pv)])
theorem LQ : Cb 1 Mj := by
 have h : SmN 1 [(GJ, Pv)] := ⟨Nat.le_refl _, fun s hs => by simp only [QiV] at hs; subst hs; exact ⟨Gt .., Gt ..⟩⟩
 exact ⟨h, h⟩
def bnd (i : Nat) : Nat := 4 * 2 ^ i
theorem Qcs {i : Nat} (h : i <= 16) : bnd i <= 262144 := by
 have : 2 ^ i <= 2 ^ 16 := Nat.pow_le_pow_right Wa h
 have e : (2 : Nat) ^ 16 = 65536 := by decide
 unfold bnd; omega
theorem Qfy {s : F0} {i : Nat} (h : Cb (bnd i - 4) s) {a b c : Int} {p q : List UInt8} (hp : p.length <= 1000000) (hi : i <= 16) : Cb (bnd (i + 1) - 4) (QaP s (Xa a b c p q)) := by
 have h1 := Qcs hi
 have h4 : 4 <= bnd i := by unfold bnd; have := Nat.one_le_two_pow (n := i); omega
 have := Qfs h (Gd (a := a) (b := b) (c := c) (q := q) hp) Wa
 have e : bnd (i + 1) = 2 * bnd i := by unfold bnd; rw [Nat.pow_succ]; omega
 exact ⟨this.1.up Wa, this.2.up Wa⟩
theorem Qcb {s : F0} {i : Nat} (h : Cb (bnd i - 4) s) : Cb (bnd (i + 1) - 4) s := by
 have e : bnd (i + 1) = 2 * bnd i := by unfold bnd; rw [Nat.pow_succ]; omega
 exact ⟨h.1.up Wa, h.2.up Wa⟩
def SetOk (s : F0) : Prop := Cb 600000 s
theorem SetOk.sm {s : F0} (h : SetOk s) : Sm s.1 /\ Sm s.2 := ⟨h.1.sm Wa, h.2.sm Wa⟩
def v0 : Vr := ⟨0, 0, 0, [], []⟩
/-! ### Made sets may be -/
def exV (v : Vr) : F0 := Xa v.a v.b v.c v.p v.q
def SN (L : List Vr) : F0 := L.foldl (fun s v => QaP s (exV v)) ([], [])
theorem Qbl (L : List Vr) (v : Vr) : SN (L ++ [v]) = QaP (SN L) (exV v) := by simp [SN]
def PD : List Vr -> List (List Vr)
 | [] => [[]]
 | v :: l => PD l ++ (PD l).map (v :: ·)
theorem N7 : ∀ {l L : List Vr}, L.Sublist l -> L ∈ PD l
 | _, _, .slnil => by simp [PD]
 | _, _, .cons a h => by rw [PD, QiX]; exact .inl (N7 h)
 | _, _, .cons_cons a h => by rw [PD, QiX]; exact .inr (Qi0.2 ⟨_, N7 h, rfl⟩)
theorem Qbm : ((PD versions ++ PD [v0]).all fun L => Xz (SN L) && Xz (MV (SN L))) = true := by decide +kernel
theorem Qe8 : ((v0 :: versions).all fun v => Xz (exV v) && Ks v.a v.b v.c v.p v.q) = true := by decide +kernel
theorem Qc9 : Xz Mj = true := by decide +kernel
def VsL (l : List Vr) : Prop := l.Sublist versions \/ l = [v0]
theorem VsL.fold {l L : List Vr} (h : VsL l) (hL : L.Sublist l) : Xz (SN L) = true /\ Xz (MV (SN L)) = true := by
 have hm : L ∈ PD versions ++ PD [v0] := by
  rcases h with h | rfl
  ·exact List.mem_append_left _ (N7 (hL.trans h))
  ·exact Qi1 _ (N7 hL)
 have := QiW.1 Qbm L hm
 rw [QiQ] at this; exact this
theorem VsL.ex {l : List Vr} (h : VsL l) {v : Vr} (hv : v ∈ l) : Xz (exV v) = true /\ Ks v.a v.b v.c v.p v.q = true := by
 have hm : v ∈ v0 :: versions := by
  rcases h with h | rfl
  ·exact List.mem_cons_of_mem _ (h.subset hv)
  ·simp only [QiV] at hv; subst hv; simp
 have := QiW.1 Qe8 v hm
 rw [QiQ] at this; exact this
def SetMay (s : F0) : Prop := SetOk s /\ Xz s = true
theorem SetMay.sm {s : F0} (h : SetMay s) : Sm s.1 /\ Sm s.2 := h.1.sm
structure CR where
 v : Vr
 x : D
 y : D
 z : D
def dCR (r : CR) : List D := [.int .i64 r.v.a, .int .i64 r.v.b, .int .i64 r.v.c, .str r.v.p, .str r.v.q, r.x, r.y, r.z]
def CR.ren (r : CR) : CR := ⟨r.v, r.x.renS upN, r.y.renS upN, r.z.renS upN⟩
def VsOk (zs : List CR) : Prop := VsL (zs.map CR.v)
theorem VsOk.ren {zs : List CR} (h : VsOk zs) : VsOk (zs.map CR.ren) := by
 have e : (zs.map CR.ren).map CR.v = zs.map CR.v := by rw [List.map_map]; rfl
 unfold VsOk; rw [e]; exact h
theorem Bb (l : List CR) : (l.map dCR).map (fun r => r.map (D.renS upN)) = (l.map CR.ren).map dCR := by
 rw [List.map_map, List.map_map]; rfl
structure UR where
 n : List UInt8
 f : List UInt8
 k : Nat
 cs : List CR
def dUR (u : UR) : List D := [.str u.n, .str u.f, .osl u.k u.cs.length]
def UR.ren (u : UR) : UR := ⟨u.n, u.f, upN u.k, u.cs.map CR.ren⟩
theorem Qds (l : List UR) : (l.map dUR).map (fun r => r.map (D.renS upN)) = (l.map UR.ren).map dUR := by
 rw [List.map_map, List.map_map]
 refine List.map_congr_left fun u _ => ?_
 simp [dUR, UR.ren, D.renS]
structure Fam (H : QiJ) (kg ku eu ec : Nat) (us : List UR) : Prop where
 ne : ku ≠ kg
 u : ∃ pr, lk H ku = some ⟨us.map dUR, 3, eu, pr⟩
 c : ∀ y ∈ us, y.k ≠ kg /\ ∃ pr, lk H y.k = some ⟨y.cs.map dCR, 8, ec, pr⟩
 v : ∀ y ∈ us, y.cs.length <= 16 /\ ∀ z ∈ y.cs, Me z.v
 vs : ∀ y ∈ us, VsOk y.cs
theorem Fam.up {H : QiJ} {kg ku eu ec : Nat} {us : List UR} (h : Fam H kg ku eu ec us) : Fam (upH H) (upN kg) (upN ku) eu ec (us.map UR.ren) := by
 obtain ⟨h1, ⟨pu, h2⟩, h3, h4, h5⟩ := h
 refine ⟨fun e => h1 (R7 e), ⟨pu, ?_⟩, fun y hy => ?_, fun y hy => ?_, fun y hy => by
  obtain ⟨u, hu, rfl⟩ := Qi0.1 hy
  exact (h5 u hu).ren⟩
 ·rw [J7, h2, Option.map_some, Box.ren, Qds]
 ·obtain ⟨u, hu, rfl⟩ := Qi0.1 hy
  obtain ⟨q1, pr, q2⟩ := h3 u hu
  refine ⟨fun e => q1 (R7 e), pr, ?_⟩
  show lk (upH H) (upN u.k) = _
  rw [J7, q2, Option.map_some, Box.ren, Bb]; rfl
 ·obtain ⟨u, hu, rfl⟩ := Qi0.1 hy
  obtain ⟨q1, q2⟩ := h4 u hu
  refine ⟨by simpa [UR.ren] using q1, fun z hz => ?_⟩
  obtain ⟨z0, hz0, rfl⟩ := Qi0.1 hz
  exact q2 z0 hz0
theorem Fam.cons {H : QiJ} {kg ku eu ec : Nat} {us : List UR} (h : Fam H kg ku eu ec us) {b : Box} : Fam ((kg, b) :: H) kg ku eu ec us := by
 obtain ⟨h1, ⟨pu, h2⟩, h3, h4, h5⟩ := h
 exact ⟨h1, ⟨pu, Qm (Ne.symm h1) h2⟩, fun y hy => let ⟨q1, pr, q2⟩ := h3 y hy; ⟨q1, pr, Qm (Ne.symm q1) q2⟩, h4, h5⟩
def QeU (n : Nat) (x : WantT) : Prop := 1 <= x.u /\ x.u < n /\ SetOk x.s
def WantMay (n : Nat) (x : WantT) : Prop := QeU n x /\ Xz x.s = true
theorem LG {l L : List Vr} {i : Nat} (hL : L.Sublist (l.take i)) : L.Sublist (l.take (i + 1)) := by
 refine hL.trans ?_
 rw [show l.take i = (l.take (i + 1)).take i by rw [List.take_take, Nat.min_eq_left Wa]]
 exact List.take_sublist _ _
theorem Qhg {zs : List CR} {i : Nat} (h : i < zs.length) {L : List Vr} (hL : L.Sublist ((zs.map CR.v).take i)) : (L ++ [zs[i].v]).Sublist ((zs.map CR.v).take (i + 1)) := by
 rw [List.take_succ_eq_append_getElem (by simpa using h)]
 simp only [List.getElem_map]
 exact hL.append (List.Sublist.refl _)
def Sp (n : Nat) (r : List WantT) : Prop := (1 <= r.length /\ r.length <= 2) /\ ∀ x ∈ r, WantMay n x
def Mb (n : Nat) (m : Int) (ns : List (List WantT)) : Prop := (ns.length : Int) <= m /\ ∀ r ∈ ns, Sp n r
theorem Qd4 {n : Nat} {x : WantT} (h : WantMay n x) : Sp n [x] := ⟨by simp, by intro y hy; simp only [QiV] at hy; subst hy; exact h⟩
theorem Qd5 {n : Nat} {x y : WantT} (h : WantMay n x) (h' : WantMay n y) : Sp n [x, y] := ⟨by simp, by
 intro z hz
 simp only [QiO, QiN, or_false] at hz
 rcases hz with rfl | rfl
 ·exact h
 ·exact h'⟩
theorem Qat {n : Nat} {ns : List (List WantT)} {r : List WantT} (h : ∀ r ∈ ns, Sp n r) (hr : Sp n r) : ∀ x ∈ ns ++ [r], Sp n x := fun x hx => by
 rcases QiX.1 hx with hx | hx
 ·exact h x hx
 ·simp only [QiV] at hx; subst hx; exact hr
end M25
namespace M25
open Go Go.Abs M3
/-! ### The boxes of a world under way -/
def fbx (ec : Nat) (us : List UR) : QiJ := us.map fun u => (u.k, ⟨u.cs.map dCR, 8, ec, true⟩)
def Yf (us : List UR) : Prop := ∀ j, ∀ h : j < us.length, us[j].k = 500001 + j
theorem SV {us : List UR} {u : UR} (h : Yf us) (hu : u.k = 500001 + us.length) : Yf (us ++ [u]) := fun j hj => by
 rw [List.length_append, List.length_singleton] at hj
 by_cases e : j < us.length
 ·rw [List.getElem_append_left e]; exact h j e
 ·have : j = us.length := Wa
  subst this
  rw [List.getElem_append_right (Nat.le_refl _)]; simpa using hu
theorem MA (ec : Nat) (us : List UR) : QaS (fbx ec us) := fun p hp => by
 obtain ⟨u, _, rfl⟩ := Qi0.1 hp; rfl
theorem P0 {ec : Nat} : ∀ {us : List UR} {k : Nat} {b : Box}, lk (fbx ec us) k = some b -> ∃ u ∈ us, k = u.k /\ b = ⟨u.cs.map dCR, 8, ec, true⟩
 | [], _, _, h => by cases h
 | u :: us, k, b, h => by
  simp only [fbx, List.map_cons] at h
  rw [Ql] at h
  split at h
  ·rename_i e; cases h; exact ⟨u, by simp, e.symm, rfl⟩
  ·obtain ⟨v, hv, q⟩ := P0 (us := us) h
   exact ⟨v, by simp [hv], q⟩
theorem KU {us : List UR} (h : Yf us) {u : UR} (hu : u ∈ us) : 500001 <= u.k /\ u.k < 500001 + us.length := by
 obtain ⟨j, hj, rfl⟩ := Qi8 hu
 have := h j hj
 omega
theorem Ru {ec : Nat} {us : List UR} (h : Yf us) : Qhj 500001 (fbx ec us) := fun k b hk => by
 obtain ⟨u, hu, rfl, _⟩ := P0 hk
 exact (KU h hu).1
theorem YV {ec : Nat} {us : List UR} (h : Yf us) {k : Nat} (hk : k < 500001 \/ 500001 + us.length <= k) : lk (fbx ec us) k = none := by
 cases hh : lk (fbx ec us) k with
 | none => rfl
 | some b =>
  obtain ⟨u, hu, rfl, _⟩ := P0 hh
  have := KU h hu
  omega
theorem Bn {ec : Nat} : ∀ {us : List UR} {n : Nat}, (∀ j, ∀ h : j < us.length, us[j].k = n + j) -> ∀ j, ∀ h : j < us.length, lk (fbx ec us) (n + j) = some ⟨us[j].cs.map dCR, 8, ec, true⟩
 | [], _, _, j, hj => by simp at hj
 | u :: us, n, hk, 0, _ => by
  have := hk 0 Wd
  simp only [List.getElem_cons_zero, Nat.add_zero] at this
  simp only [fbx, List.map_cons, Nat.add_zero]
  rw [Ql, if_pos this]; rfl
 | u :: us, n, hk, j + 1, hj => by
  have h0 := hk 0 Wd
  simp only [List.getElem_cons_zero, Nat.add_zero] at h0
  simp only [fbx, List.map_cons]
  rw [Ql, if_neg Wa]
  have := Bn (ec := ec) (us := us) (n := n + 1) (fun i hi => by
   have := hk (i + 1) (by simpa using hi)
   simp only [List.getElem_cons_succ] at this
   omega) j (by simpa using hj)
  rw [show n + 1 + j = n + (j + 1) by omega] at this
  simp only [List.getElem_cons_succ]
  exact this
theorem Bm {ec : Nat} {us : List UR} (h : Yf us) {j : Nat} (hj : j < us.length) : lk (fbx ec us) (500001 + j) = some ⟨us[j].cs.map dCR, 8, ec, true⟩ := Bn h j hj
theorem L3 (ec : Nat) (us : List UR) (u : UR) : fbx ec (us ++ [u]) = fbx ec us ++ [(u.k, ⟨u.cs.map dCR, 8, ec, true⟩)] := by simp [fbx]
theorem Qbi {ec : Nat} {us : List UR} (h : Yf us) {kg : Nat} {x y : Box} {u : UR} (hu : u.k = 500001 + us.length) (hkg : u.k ≠ kg) (k : Nat) :
  lk ((u.k, ⟨u.cs.map dCR, 8, ec, true⟩) :: (500000, x) :: (kg, y) :: fbx ec us) k = lk ((500000, x) :: (kg, y) :: fbx ec (us ++ [u])) k := by
 rw [L3]
 by_cases e : u.k = k
 ·subst e
  rw [QD, Ql, if_neg Wa, Ql, if_neg (Ne.symm hkg), YW (YV h (.inr Wa)), QD]
 ·rw [Ql, if_neg e, Ql, Ql, Ql, Ql]
  split
  ·rfl
  ·split
   ·rfl
   ·rw [ZQ]
    cases h2 : lk (fbx ec us) k with
    | some v => rfl
    | none => rw [Ql, if_neg e]; rfl
def zr (v : Vr) (sh : Int) : CR := ⟨v, .int .i64 sh, .fsl [], .fsl []⟩
def QeD (u : UR) : Prop := u.cs.length <= 4 /\ ∀ z ∈ u.cs, ∃ v sh, z = zr v sh /\ Me v
theorem Qcy {u : UR} : (dUR u).flatMap D.sid = [u.k] := by simp [dUR, D.sid]
theorem K8 {us : List UR} {e et : Nat} {k : Nat} (h : k ∈ (Box.ids ⟨us.map dUR, e, et, false⟩)) : ∃ u ∈ us, k = u.k := by
 simp only [Box.ids, QiU, if_false, QiT, Qi0] at h
 obtain ⟨r, ⟨u, hu, rfl⟩, hk⟩ := h
 have : k ∈ (dUR u).flatMap D.sid := QiT.2 hk
 rw [Qcy] at this
 exact ⟨u, hu, by simpa using this⟩
theorem Qek {us : List UR} (h : Yf us) : ∀ r ∈ us.map dUR, ∀ d ∈ r, 500000 ∉ d.sid := fun r hr d hd hk => by
 obtain ⟨u, hu, rfl⟩ := Qi0.1 hr
 have : 500000 ∈ (dUR u).flatMap D.sid := QiT.2 ⟨d, hd, hk⟩
 rw [Qcy] at this
 have h2 := KU h hu
 simp only [QiV] at this
 omega
theorem Ri {B F : QiJ} {j : Nat} (h : (lk F j).isSome = true) : (lk (B ++ F) j).isSome = true := by
 rw [ZQ]; split
 ·rfl
 ·exact h
theorem Fv {ec : Nat} {us : List UR} (h : Yf us) {u : UR} (hu : u ∈ us) : (lk (fbx ec us) u.k).isSome = true := by
 obtain ⟨j, hj, rfl⟩ := Qi8 hu
 rw [h j hj, Bm h hj]; rfl
theorem Rv {ec : Nat} {us : List UR} {u : UR} (h : Yf us) (hu : u.k = 500001 + us.length) : lk (fbx ec (us ++ [u])) (500001 + us.length) = some ⟨u.cs.map dCR, 8, ec, true⟩ := by
 rw [L3, YW (YV h (.inr (Nat.le_refl _))), <- hu, QD]
section
variable {l : List Nat} {fr fr1 fr' : QiK} {B : QiJ} {kg eg eu ec : Nat} {L : List Int} {J : Int} {us : List UR}
theorem Qhp (hf : Zf l fr = fr1) (ef : fr1 = fr') (hK : Yf us) (hu : lk B 500000 = some ⟨us.map dUR, 3, eu, false⟩) (hg : lk B kg = some (gB L J eg)) (hB : ∀ p ∈ B, 500001 <= p.1 -> p.1 = kg) (hkg : kg ≠ 500000)
  (hfr : ∀ p ∈ fr', ∀ k ∈ p.2.ids, k = 500000 \/ k = kg \/ ∃ u ∈ us, k = u.k) : St.le ⟨fr, B ++ fbx ec us⟩ ⟨fr', [(500000, ⟨us.map dUR, 3, eu, false⟩), (kg, gB L J eg)] ++ fbx ec us⟩ := by
 have s0 : ∀ k, (k = 500000 \/ k = kg \/ ∃ u ∈ us, k = u.k) -> (lk ([(500000, (⟨us.map dUR, 3, eu, false⟩ : Box)), (kg, gB L J eg)] ++ fbx ec us) k).isSome = true := fun k hk => by
  rcases hk with rfl | rfl | ⟨u, hu, rfl⟩
  ·exact QY
  ·exact QU QY
  ·exact Ri (Fv hK hu)
 refine Lf (N := 500001) hf ef (fun p hp => ?_) rfl (fun p hp j hj => s0 j ?_) (fun p hp h => ?_) (Ru hK) (MA ec us) (fun p hp k hk => s0 k (hfr p hp k hk))
 ·simp only [QiO, QiN, or_false] at hp
  rcases hp with rfl | rfl
  ·exact hu
  ·exact hg
 ·simp only [QiO, QiN, or_false] at hp
  rcases hp with rfl | rfl
  ·exact .inr (.inr (K8 hj))
  ·simp [Box.ids, gB] at hj
 ·rw [hB p hp h]; exact QU QY
theorem QeB {cs : List CR} (hf : Zf l fr = fr1) (ef : fr1 = fr') (hK : Yf us) (hc : lk B (500001 + us.length) = some ⟨cs.map dCR, 8, ec, true⟩) (hu : lk B 500000 = some ⟨us.map dUR, 3, eu, false⟩) (hg : lk B kg = some (gB L J eg)) (hB : ∀ p ∈ B, 500001 <= p.1 -> p.1 = kg \/ p.1 = 500001 + us.length)
  (hfr : ∀ p ∈ fr', ∀ k ∈ p.2.ids, k = 500000 \/ k = kg \/ k = 500001 + us.length \/ ∃ u ∈ us, k = u.k) : St.le ⟨fr, B ++ fbx ec us⟩ ⟨fr', [(500001 + us.length, ⟨cs.map dCR, 8, ec, true⟩), (500000, ⟨us.map dUR, 3, eu, false⟩), (kg, gB L J eg)] ++ fbx ec us⟩ := by
 have s0 : ∀ k, (k = 500000 \/ k = kg \/ k = 500001 + us.length \/ ∃ u ∈ us, k = u.k) -> (lk ([(500001 + us.length, (⟨cs.map dCR, 8, ec, true⟩ : Box)), (500000, (⟨us.map dUR, 3, eu, false⟩ : Box)), (kg, gB L J eg)] ++ fbx ec us) k).isSome = true := fun k hk => by
  rcases hk with rfl | rfl | rfl | ⟨u, hu, rfl⟩
  ·exact QU QY
  ·exact QU (QU QY)
  ·exact QY
  ·exact Ri (Fv hK hu)
 refine Lf (N := 500001) hf ef (fun p hp => ?_) rfl (fun p hp j hj => s0 j ?_) (fun p hp h => ?_) (Ru hK) (MA ec us) (fun p hp k hk => s0 k (hfr p hp k hk))
 ·simp only [QiO, QiN, or_false] at hp
  rcases hp with rfl | rfl | rfl
  ·exact hc
  ·exact hu
  ·exact hg
 ·simp only [QiO, QiN, or_false] at hp
  rcases hp with rfl | rfl | rfl
  ·simp [Box.ids] at hj
  ·exact .inr (.inr (.inr (K8 hj)))
  ·simp [Box.ids, gB] at hj
 ·rcases hB p hp h with e | e
  ·rw [e]; exact QU (QU QY)
  ·rw [e]; exact QY
theorem QfH {u : UR} (hf : Zf l fr = fr1) (ef : fr1 = fr') (hK : Yf us) (huk : u.k = 500001 + us.length) (hc : lk B (500001 + us.length) = some ⟨u.cs.map dCR, 8, ec, true⟩) (hu : lk B 500000 = some ⟨(us ++ [u]).map dUR, 3, eu, false⟩) (hg : lk B kg = some (gB L J eg)) (hB : ∀ p ∈ B, 500001 <= p.1 -> p.1 = kg \/ p.1 = 500001 + us.length) (hkg : 1000000 <= kg) (hlen : us.length <= 100)
  (hfr : ∀ p ∈ fr', ∀ k ∈ p.2.ids, k = 500000 \/ k = kg \/ ∃ v ∈ us ++ [u], k = v.k) : St.le ⟨fr, B ++ fbx ec us⟩ ⟨fr', [(500000, ⟨(us ++ [u]).map dUR, 3, eu, false⟩), (kg, gB L J eg)] ++ fbx ec (us ++ [u])⟩ := by
 have hK1 := SV hK huk
 have mv := fun k => Qbi (ec := ec) hK (kg := kg) (x := ⟨(us ++ [u]).map dUR, 3, eu, false⟩) (y := gB L J eg) huk Wa k
 have s0 : ∀ k, (k = 500000 \/ k = kg \/ ∃ v ∈ us ++ [u], k = v.k) -> (lk ([(u.k, (⟨u.cs.map dCR, 8, ec, true⟩ : Box)), (500000, (⟨(us ++ [u]).map dUR, 3, eu, false⟩ : Box)), (kg, gB L J eg)] ++ fbx ec us) k).isSome = true := fun k hk => by
  show (lk ((u.k, _) :: (500000, _) :: (kg, _) :: fbx ec us) k).isSome = true
  rw [mv]
  rcases hk with rfl | rfl | ⟨v, hv, rfl⟩
  ·exact QY
  ·exact QU QY
  ·exact QU (QU (Fv hK1 hv))
 refine le_trans (Lf (N := 500001) (A' := [(u.k, ⟨u.cs.map dCR, 8, ec, true⟩), (500000, ⟨(us ++ [u]).map dUR, 3, eu, false⟩), (kg, gB L J eg)]) hf ef (fun p hp => ?_) rfl (fun p hp j hj => s0 j ?_) (fun p hp h => ?_) (Ru hK) (MA ec us) (fun p hp k hk => s0 k (hfr p hp k hk))) (Le ⟨fun _ => rfl, mv⟩)
 ·simp only [QiO, QiN, or_false] at hp
  rcases hp with rfl | rfl | rfl
  ·rw [huk]; exact hc
  ·exact hu
  ·exact hg
 ·simp only [QiO, QiN, or_false] at hp
  rcases hp with rfl | rfl | rfl
  ·simp [Box.ids] at hj
  ·exact .inr (.inr (K8 hj))
  ·simp [Box.ids, gB] at hj
 ·rcases hB p hp h with e | e
  ·rw [e]; exact QU (QU QY)
  ·rw [e, <- huk]; exact QY
end
def u0 (v : Vr) : UR := ⟨[], [], 500001, [zr v (-1)]⟩
theorem Qcf {kg a b : Nat} (h : 1000000 <= kg) (ha : a < 1000000) (hb : b < 1000000) : JL a b kg = kg := by
 unfold JL; rw [if_neg Wa, if_neg Wa]
theorem BT {l : List Nat} {fr fr1 fr' : QiK} {kg eg eu ec : Nat} {L : List Int} {I : Int} (hkg : 1000000 <= kg) (hf : Zf l fr = fr1) (ef : fr1.map (fun p => (p.1, (p.2.ren (JL 18 500000)).ren (JL 16 500001))) = fr') :
  St.le ⟨fr, [(18, ⟨[[.str [], .str [], .osl 16 1]], 3, eu, false⟩), (16, ⟨[dCR (zr v0 (-1))], 8, ec, true⟩), (kg, gB L I eg)]⟩ ⟨fr', [(500000, ⟨[u0 v0].map dUR, 3, eu, false⟩), (kg, gB L I eg)] ++ fbx ec [u0 v0]⟩ := by
 subst hf ef
 have k1 := Qcf (a := 18) (b := 500000) hkg Wg Wg
 have k2 := Qcf (a := 16) (b := 500001) hkg Wg Wg
 refine le_trans (HJ l fr _) (le_trans (RH 18 500000 Wg Wg _) (le_trans (RH 16 500001 Wg Wg _) ?_))
 have hH : ∀ k, lk ([(500000, (⟨[u0 v0].map dUR, 3, eu, false⟩ : Box)), (kg, gB L I eg)] ++ fbx ec [u0 v0]) k = lk (HZ (JL 16 500001) (HZ (JL 18 500000) [(18, ⟨[[.str [], .str [], .osl 16 1]], 3, eu, false⟩), (16, ⟨[dCR (zr v0 (-1))], 8, ec, true⟩), (kg, gB L I eg)])) k := fun k => by
  have e : HZ (JL 16 500001) (HZ (JL 18 500000) [(18, (⟨[[.str [], .str [], .osl 16 1]], 3, eu, false⟩ : Box)), (16, ⟨[dCR (zr v0 (-1))], 8, ec, true⟩), (kg, gB L I eg)]) = [(500000, ⟨[u0 v0].map dUR, 3, eu, false⟩), (500001, ⟨[dCR (zr v0 (-1))], 8, ec, true⟩), (kg, gB L I eg)] := by
   simp only [HZ, List.map_cons, List.map_nil, k1, k2]; rfl
  rw [e]
  show lk ((500000, _) :: (kg, _) :: (500001, _) :: []) k = _
  rw [Ql, Ql, Ql, Ql, Ql, Ql]
  by_cases h1 : 500000 = k
  ·rw [if_pos h1, if_pos h1]
  ·rw [if_neg h1, if_neg h1]
   by_cases h2 : kg = k
   ·rw [if_pos h2, if_neg Wa, if_pos h2]
   ·rw [if_neg h2, if_neg h2]; rfl
 refine KV (by simp only [St.ren, List.map_map]; rfl) fun k => (hH k).symm
def names5 : List (List UInt8) := [[97, 110, 116], [98, 101, 101], [99, 111, 119], [100, 111, 103], [101, 108, 107]]
theorem Q9 : names5.length = 5 := rfl
theorem Qel : versions.length = 4 := rfl
theorem QfK {i : Nat} (h : i < versions.length) : Me versions[i] := by
 have := LF _ (QiR h)
 exact ⟨Qi5 this.1 Wa, Qi5 this.2 Wa⟩
structure UnitsIn (us : List UR) : Prop where
 keys : Yf us
 fresh : ∀ u ∈ us, QeD u
 first : ∃ z rest, us = ⟨[], [], 500001, [z]⟩ :: rest
theorem UnitsIn.zero : UnitsIn [u0 v0] := by
 refine ⟨fun j hj => ?_, fun u hu => ?_, ⟨zr v0 (-1), [], rfl⟩⟩
 ·have : j = 0 := by simp at hj; exact hj
  subst this; rfl
 ·simp only [QiV] at hu; subst hu
  refine ⟨by simp [u0], fun z hz => ?_⟩
  simp only [u0, QiV] at hz; subst hz
  exact ⟨v0, -1, rfl, ⟨QiY _, QiY _⟩⟩
theorem UnitsIn.snoc {us : List UR} (h : UnitsIn us) {n f : List UInt8} {cs : List CR} (hc : cs.length <= 4) (hz : ∀ z ∈ cs, ∃ v sh, z = zr v sh /\ Me v) : UnitsIn (us ++ [⟨n, f, 500001 + us.length, cs⟩]) := by
 obtain ⟨h1, h2, z, rest, h3⟩ := h
 refine ⟨SV h1 rfl, fun u hu => ?_, z, rest ++ [⟨n, f, 500001 + us.length, cs⟩], by rw [h3]; rfl⟩
 rcases QiX.1 hu with hu | hu
 ·exact h2 u hu
 ·simp only [QiV] at hu; subst hu; exact ⟨hc, hz⟩
def CsIn (n : Nat) (cs : List CR) : Prop := cs.length <= n /\ ∀ z ∈ cs, ∃ v sh, z = zr v sh /\ Me v
theorem CsIn.nil (n : Nat) : CsIn n [] := ⟨QiY _, by simp⟩
theorem CsIn.keep {n : Nat} {cs : List CR} (h : CsIn n cs) : CsIn (n + 1) cs := ⟨Nat.le_succ_of_le h.1, h.2⟩
theorem CsIn.snoc {n : Nat} {cs : List CR} (h : CsIn n cs) {v : Vr} (hv : Me v) {sh : Int} : CsIn (n + 1) (cs ++ [zr v sh]) := by
 refine ⟨by simp; exact h.1, fun z hz => ?_⟩
 rcases QiX.1 hz with hz | hz
 ·exact h.2 z hz
 ·simp only [QiV] at hz; subst hz; exact ⟨v, sh, rfl, hv⟩
theorem CsIn.at {n : Nat} {cs : List CR} (h : CsIn n cs) {i : Nat} (hi : i < cs.length) : Me cs[i].v := by
 obtain ⟨v, sh, e, hv⟩ := h.2 _ (QiR hi)
 rw [e]; exact hv
/-! ### What units are called, and of which versions they are -/
def nmR (r : Nat) : List UInt8 := names5.getD (r / 2) []
def ftR (r : Nat) : List UInt8 := if r % 2 = 1 then [102] else []
def shp (u : UR) : List UInt8 × List UInt8 × List Vr := (u.n, u.f, u.cs.map CR.v)
inductive UL : Nat -> List (List UInt8 × List UInt8 × List Vr) -> Prop
 | base : UL 0 [([], [], [v0])]
 | snoc {b r : Nat} {l : List (List UInt8 × List UInt8 × List Vr)} {vs : List Vr} (h : UL b l) (hb : b <= r) (hr : r < 10) (hf : r % 2 = 1 -> 2 <= l.length) (hc : vs.Sublist versions) : UL (r + 1) (l ++ [(nmR r, ftR r, vs)])
 | up {b b' : Nat} {l : List (List UInt8 × List UInt8 × List Vr)} (h : UL b l) (hb : b <= b') : UL b' l
theorem B4 {n : Nat} (h : n < names5.length) : nmR (2 * n) = names5[n] /\ ftR (2 * n) = [] /\ nmR (2 * n + 1) = names5[n] /\ ftR (2 * n + 1) = [102] := by
 refine ⟨?_, ?_, ?_, ?_⟩
 ·rw [nmR, show 2 * n / 2 = n by omega, List.getD_eq_getElem?_getD, List.getElem?_eq_getElem h]; rfl
 ·rw [ftR, if_neg Wa]
 ·rw [nmR, show (2 * n + 1) / 2 = n by omega, List.getD_eq_getElem?_getD, List.getElem?_eq_getElem h]; rfl
 ·rw [ftR, if_pos Wa]
theorem QaH {n : Nat} {us : List UR} {k : Nat} {cs : List CR} (h : UL (2 * n) (us.map shp)) (hn : n < names5.length) (hc : (cs.map CR.v).Sublist versions) : UL (2 * n + 1) ((us ++ [UR.mk names5[n] [] k cs]).map shp) := by
 obtain ⟨e1, e2, _, _⟩ := B4 hn
 have := UL.snoc h (Nat.le_refl _) (by have := Q9; omega) (fun e => Wa) hc
 rw [List.map_append]
 show UL _ (_ ++ [(names5[n], [], cs.map CR.v)])
 rw [<- e1, <- e2]; exact this
theorem Qhf {n : Nat} {us : List UR} {k : Nat} {cs : List CR} (h : UL (2 * n + 1) (us.map shp)) (hn : n < names5.length) (h2 : 2 <= us.length) (hc : (cs.map CR.v).Sublist versions) : UL (2 * (n + 1)) ((us ++ [UR.mk names5[n] [102] k cs]).map shp) := by
 obtain ⟨_, _, e1, e2⟩ := B4 hn
 have := UL.snoc h (Nat.le_refl _) (by have := Q9; omega) (fun _ => by simpa using h2) hc
 rw [List.map_append]
 show UL (2 * n + 1 + 1) (_ ++ [(names5[n], [102], cs.map CR.v)])
 rw [<- e1, <- e2]; exact this
theorem UL.pos {b : Nat} {l : List (List UInt8 × List UInt8 × List Vr)} (h : UL b l) : 1 <= l.length := by
 induction h with
 | base => exact Nat.le_refl _
 | snoc _ _ _ _ _ ih => rw [List.length_append]; omega
 | up _ _ ih => exact ih
theorem UL.vs {b : Nat} {l : List (List UInt8 × List UInt8 × List Vr)} (h : UL b l) : ∀ s ∈ l, VsL s.2.2 := by
 induction h with
 | base => intro s hs; simp only [QiV] at hs; subst hs; exact .inr rfl
 | snoc _ _ _ _ hc ih =>
  intro s hs
  rcases QiX.1 hs with hs | hs
  ·exact ih s hs
  ·simp only [QiV] at hs; subst hs; exact .inl hc
 | up _ _ ih => exact ih
theorem UL.feat {b : Nat} {l : List (List UInt8 × List UInt8 × List Vr)} (h : UL b l) : ∀ i (hi : i < l.length), l[i].2.1 ≠ [] -> 2 <= i := by
 induction h with
 | base =>
  intro i hi hf
  have : i = 0 := by simp at hi; exact hi
  subst this; exact absurd rfl hf
 | @snoc b r l vs h _ _ hr _ ih =>
  intro i hi hf
  rw [List.length_append, List.length_singleton] at hi
  by_cases e : i < l.length
  ·rw [List.getElem_append_left e] at hf; exact ih i e hf
  ·have : i = l.length := Wa
   subst this
   rw [List.getElem_append_right (Nat.le_refl _)] at hf
   simp only [Nat.sub_self, List.getElem_cons_zero, ftR] at hf
   split at hf
   ·rename_i q; exact hr q
   ·exact absurd rfl hf
 | up _ _ ih => exact ih
theorem QfM {l : List Vr} {cs : List CR} {i : Nat} {x : Int} (h : i < l.length) (hL : (cs.map CR.v).Sublist (l.take i)) : ((cs ++ [zr l[i] x]).map CR.v).Sublist (l.take (i + 1)) := by
 rw [List.map_append, List.take_succ_eq_append_getElem h]
 exact hL.append (List.Sublist.refl _)
theorem QfL {cs c2 : List CR} {m : Nat} {x : Int} (h : m < cs.length) (hL : (c2.map CR.v).Sublist ((cs.map CR.v).take m)) : ((c2 ++ [zr cs[m].v x]).map CR.v).Sublist ((cs.map CR.v).take (m + 1)) := by
 rw [List.map_append, List.take_succ_eq_append_getElem (by simpa using h)]
 simp only [List.getElem_map]
 exact hL.append (List.Sublist.refl _)
theorem DZ {L : List Vr} {i : Nat} (h : L.Sublist (versions.take i)) : L.Sublist versions := h.trans (List.take_sublist _ _)
theorem Dj {α : Type} {k : Nat} {v v' : α} {l : List (Nat × α)} (h : v = v') : lk ((k, v) :: l) k = some v' := by rw [QD, h]
theorem Tn {us : List UR} {e et : Nat} (h : Yf us) : Box.scrub (500001 + us.length) ⟨us.map dUR, e, et, false⟩ = ⟨us.map dUR, e, et, false⟩ := Tm fun hk => by
 obtain ⟨u, hu, e⟩ := K8 hk
 have := KU h hu
 omega
theorem DX {us : List UR} (h : Yf us) {n f : List UInt8} {k m : Nat} (hk : k ≠ 500000) : ∀ r ∈ us.map dUR ++ [[D.str n, D.str f, D.osl k m]], ∀ d ∈ r, 500000 ∉ d.sid := fun r hr d hd => by
 rcases QiX.1 hr with hr | hr
 ·exact Qek h r hr d hd
 ·simp only [QiV] at hr; subst hr
  simp only [QiO, QiN, or_false] at hd
  rcases hd with rfl | rfl | rfl <;> simp [D.sid]
  exact Ne.symm hk
theorem Qej {us : List UR} {u : UR} : (us ++ [u]).map dUR = us.map dUR ++ [dUR u] := by simp
theorem Qdr {cs : List CR} {z : CR} : (cs ++ [z]).map dCR = cs.map dCR ++ [dCR z] := by simp
theorem KE {us : List UR} (h : Yf us) {kg eu ec : Nat} {g1 g2 g3 : Box} (hkg : 1000000 <= kg) (h1 : g1.pr = true) (h2 : g2.pr = true) (hlen : us.length <= 100) :
  (∀ k, 1000000 <= k -> (lk [(kg, g1)] k).isSome = true -> (lk (((500000, (⟨us.map dUR, 3, eu, false⟩ : Box)) :: fbx ec us) ++ [(kg, g2), (kg, g1)]) k).isSome = true) /\
  (∀ k b, lk (((500000, (⟨us.map dUR, 3, eu, false⟩ : Box)) :: fbx ec us) ++ [(kg, g2), (kg, g1)]) k = some b -> 500000 <= k /\ ∀ j ∈ b.ids, (lk (((500000, (⟨us.map dUR, 3, eu, false⟩ : Box)) :: fbx ec us) ++ [(kg, g2), (kg, g1)]) j).isSome = true) /\
  (∀ k b, lk (((500000, (⟨us.map dUR, 3, eu, false⟩ : Box)) :: fbx ec us) ++ [(kg, g2), (kg, g1)]) k = some b -> lk ((kg, g2) :: (500000, ⟨us.map dUR, 3, eu, false⟩) :: (kg, g3) :: fbx ec us) k = some b) := by
 have cs : ∀ k b, lk (((500000, (⟨us.map dUR, 3, eu, false⟩ : Box)) :: fbx ec us) ++ [(kg, g2), (kg, g1)]) k = some b -> (k = 500000 /\ b = ⟨us.map dUR, 3, eu, false⟩) \/ (∃ u ∈ us, k = u.k /\ b = ⟨u.cs.map dCR, 8, ec, true⟩) \/ (k = kg /\ b = g2) := fun k b hk => by
  rw [List.cons_append, Ql] at hk
  split at hk
  ·rename_i e; cases hk; exact .inl ⟨e.symm, rfl⟩
  ·rw [ZQ] at hk
   cases hh : lk (fbx ec us) k with
   | some v =>
    rw [hh] at hk; cases hk
    exact .inr (.inl (P0 hh))
   | none =>
    rw [hh] at hk
    simp only at hk
    rw [Ql] at hk
    split at hk
    ·rename_i e; cases hk; exact .inr (.inr ⟨e.symm, rfl⟩)
    ·rename_i e
     rw [Ql, if_neg e] at hk; cases hk
 refine ⟨fun k _ hk => ?_, fun k b hk => ?_, fun k b hk => ?_⟩
 ·obtain ⟨b, hb⟩ := QiS.1 hk
  obtain ⟨rfl, _⟩ := Ja hb
  exact Ri QY
 ·rcases cs k b hk with ⟨rfl, rfl⟩ | ⟨u, hu, rfl, rfl⟩ | ⟨rfl, rfl⟩
  ·refine ⟨Nat.le_refl _, fun j hj => ?_⟩
   obtain ⟨u, hu, rfl⟩ := K8 hj
   rw [List.cons_append]
   refine QU ?_
   obtain ⟨b, hb⟩ := QiS.1 (Fv (ec := ec) h hu)
   rw [Yt hb]; rfl
  ·have := KU h hu
   exact ⟨Wa, fun j hj => by simp [Box.ids] at hj⟩
  ·exact ⟨Wa, fun j hj => by rw [Jh h2] at hj; cases hj⟩
 ·rcases cs k b hk with ⟨rfl, rfl⟩ | ⟨u, hu, rfl, rfl⟩ | ⟨rfl, rfl⟩
  ·exact Qm Wa QD
  ·have hm := KU h hu
   obtain ⟨j, hj, rfl⟩ := Qi8 hu
   refine Qm Wa (Qm Wa (Qm Wa ?_))
   rw [h j hj]; exact Bm h hj
  ·exact QD
end M25
namespace M25
open Go Go.Abs M3
/-! ### A world under way: one candidate after the other is filled -/
def PureC (z : CR) : Prop := z.x.sid = [] /\ z.y.sid = [] /\ z.z.sid = []
theorem PureC.all {z : CR} (h : PureC z) : ∀ d ∈ dCR z, d.sid = [] := fun d hd => by
 simp only [dCR, QiO, QiN, or_false] at hd
 rcases hd with rfl | rfl | rfl | rfl | rfl | rfl | rfl | rfl
 ·rfl
 ·rfl
 ·rfl
 ·rfl
 ·rfl
 ·exact h.1
 ·exact h.2.1
 ·exact h.2.2
def F1 (u : UR) (k : Nat) (z : CR) : UR := { u with cs := u.cs.set k z }
def H5 (us : List UR) (i k : Nat) (z : CR) : List UR := us.modify i fun u => F1 u k z
theorem ZD (us : List UR) (i k : Nat) (z : CR) : (H5 us i k z).length = us.length := List.length_modify ..
theorem DS (us : List UR) (i k : Nat) (z : CR) : (H5 us i k z).map dUR = us.map dUR := by
 refine List.ext_getElem (by simp [H5]) fun j h1 h2 => ?_
 simp only [List.getElem_map, H5, List.getElem_modify]
 split <;> simp [dUR, F1]
theorem JC {us : List UR} {i k : Nat} {z : CR} {j : Nat} (h : j < us.length) : (H5 us i k z)[j]'(by rw [ZD]; exact h) = if i = j then F1 us[j] k z else us[j] := by
 simp only [H5, List.getElem_modify]
theorem FU {us : List UR} {i k : Nat} {z : CR} (h : Yf us) : Yf (H5 us i k z) := fun j hj => by
 rw [ZD] at hj
 rw [JC hj]
 split
 ·exact h j hj
 ·exact h j hj
def wA (us : List UR) (eu ec eg : Nat) (L : List Int) (J : Int) (b4 : Box) : QiJ := [(500000, ⟨us.map dUR, 3, eu, false⟩), (12, gB L J eg), (4, b4)] ++ fbx ec us
theorem K9 {us : List UR} {eu ec eg : Nat} {L : List Int} {J : Int} {b4 : Box} (h : Yf us) {k : Nat} {b : Box} (hk : lk (wA us eu ec eg L J b4) k = some b) : (k = 500000 /\ b = ⟨us.map dUR, 3, eu, false⟩) \/ (k = 12 /\ b = gB L J eg) \/ (k = 4 /\ b = b4) \/ ∃ j, ∃ hj : j < us.length, k = 500001 + j /\ b = ⟨us[j].cs.map dCR, 8, ec, true⟩ := by
 unfold wA at hk
 rcases MO hk with hk | ⟨_, hk⟩
 ·simp only [QiO, QiN, or_false, Prod.mk.injEq] at hk
  rcases hk with h | h | h
  ·exact .inl h
  ·exact .inr (.inl h)
  ·exact .inr (.inr (.inl h))
 ·obtain ⟨u, hu, e1, e2⟩ := P0 hk
  obtain ⟨j, hj, rfl⟩ := Qi8 hu
  exact .inr (.inr (.inr ⟨j, hj, e1.trans (h j hj), e2⟩))
section
variable {us : List UR} {eu ec eg : Nat} {L : List Int} {J : Int} {b4 : Box}
theorem N8 : lk (wA us eu ec eg L J b4) 500000 = some ⟨us.map dUR, 3, eu, false⟩ := rfl
theorem NE : lk (wA us eu ec eg L J b4) 12 = some (gB L J eg) := rfl
theorem Pn : lk (wA us eu ec eg L J b4) 4 = some b4 := rfl
theorem G9 (h : Yf us) {j : Nat} (hj : j < us.length) : lk (wA us eu ec eg L J b4) (500001 + j) = some ⟨us[j].cs.map dCR, 8, ec, true⟩ := by
 show lk ((500000, _) :: (12, _) :: (4, _) :: fbx ec us) _ = _
 rw [Ql, if_neg Wa, Ql, if_neg Wa, Ql, if_neg Wa]
 exact Bm h hj
theorem ZZ (h : Yf us) {k : Nat} (h1 : k ≠ 500000) (h2 : k ≠ 12) (h3 : k ≠ 4) (h4 : k < 500001 \/ 500001 + us.length <= k) : lk (wA us eu ec eg L J b4) k = none := by
 show lk ((500000, _) :: (12, _) :: (4, _) :: fbx ec us) _ = _
 rw [Ql, if_neg (Ne.symm h1), Ql, if_neg (Ne.symm h2), Ql, if_neg (Ne.symm h3)]
 exact YV h h4
theorem LH (h : Yf us) {k : Nat} (hk : k = 500000 \/ k = 12 \/ k = 4 \/ ∃ u ∈ us, k = u.k) : (lk (wA us eu ec eg L J b4) k).isSome = true := by
 rcases hk with rfl | rfl | rfl | ⟨u, hu, rfl⟩
 ·rfl
 ·rfl
 ·rfl
 ·obtain ⟨j, hj, rfl⟩ := Qi8 hu
  rw [h j hj, G9 h hj]; rfl
theorem JE (h : Yf us) (h4 : b4.pr = true) : Closed (wA us eu ec eg L J b4) := fun k b hk j hj => by
 rcases K9 h hk with ⟨rfl, rfl⟩ | ⟨rfl, rfl⟩ | ⟨rfl, rfl⟩ | ⟨i, hi, rfl, rfl⟩
 ·exact LH h (.inr (.inr (.inr (K8 hj))))
 ·simp [Box.ids, gB] at hj
 ·rw [Jh h4] at hj; cases hj
 ·simp [Box.ids] at hj
theorem Ng {α : Type} : ∀ {l : List α} {k : Nat} {a x : α}, x ∈ l.set k a -> x = a \/ x ∈ l
 | [], k, a, x, h => by simp at h
 | b :: l, 0, a, x, h => by
  simp only [List.set_cons_zero, QiO] at h ⊢
  rcases h with h | h
  ·exact .inl h
  ·exact .inr (.inr h)
 | b :: l, k + 1, a, x, h => by
  simp only [List.set_cons_succ, QiO] at h ⊢
  rcases h with h | h
  ·exact .inr (.inl h)
  ·rcases Ng h with h | h
   ·exact .inl h
   ·exact .inr (.inr h)
theorem MJ {l : List Nat} {fr fr1 fr' : QiK} {H : QiJ} {i k : Nat} {row : List D} {p : Bool} (kk : Nat) (z' : CR) (hf : Zf l fr = fr1) (ef : fr1 = fr') (hK : Yf us) (hi : i < us.length) (hk : k < us[i].cs.length)
  (hKi : lk H (500001 + i) = some ⟨(us[i].cs.map dCR).set k row, 8, ec, p⟩) (hp : p = true -> row.map (D.fzS H (· == kk)) = row) (hrow : (row.map (D.fzS H (· == kk))).map D.canS = dCR z') (hoth : ∀ z ∈ us[i].cs, PureC z) (hz : PureC z')
  (hF : ∀ j, ∀ hj : j < us.length, j ≠ i -> lk H (500001 + j) = some ⟨us[j].cs.map dCR, 8, ec, true⟩) (hu : lk H 500000 = some ⟨us.map dUR, 3, eu, false⟩) (hg : lk H 12 = some (gB L J eg)) (h4 : lk H 4 = some b4) (hb4 : b4.pr = true) (hkk : kk < 500000 /\ kk ≠ 12 /\ kk ≠ 4) (hsm : ∀ j, 1000000 <= j -> lk H j = none) (hlen : us.length <= 100)
  (hfr : ∀ p ∈ fr', ∀ j ∈ p.2.ids, j = 500000 \/ j = 12 \/ j = 4 \/ ∃ u ∈ us, j = u.k) : St.le ⟨fr, H⟩ ⟨fr', wA (H5 us i k z') eu ec eg L J b4⟩ := by
 subst hf ef
 have nokk : ∀ j, (j = 500000 \/ j = 12 \/ j = 4 \/ ∃ u ∈ us, j = u.k) -> j ≠ kk := fun j hj e => by
  subst e
  rcases hj with rfl | rfl | rfl | ⟨u, hu, rfl⟩
  ·omega
  ·exact hkk.2.1 rfl
  ·exact hkk.2.2 rfl
  ·have := (KU hK hu).1; omega
 have eqkk : ∀ j, j ≠ kk -> (j == kk) = false := fun j hj => by simp [hj]
 have some1 : ∀ b j, (j = 500000 \/ j = 12 \/ j = 4 \/ ∃ u ∈ us, j = u.k) -> (lk ((500001 + i, b) :: wA us eu ec eg L J b4) j).isSome = true := fun b j hj => QU (LH hK hj)
 have rowsz : ∀ r ∈ us[i].cs.map dCR, r.map (D.fzS H (· == kk)) = r := fun r hr => by
  obtain ⟨z, hzm, rfl⟩ := Qi0.1 hr
  exact Yo fun d hd => F7 fun j hj => by rw [(hoth z hzm).all d hd] at hj; cases hj
 have mapz : ((us[i].cs.map dCR).set k row).map (fun r => r.map (D.fzS H (· == kk))) = (us[i].cs.map dCR).set k (row.map (D.fzS H (· == kk))) := by
  refine List.ext_getElem Wd fun j h1 h2 => ?_
  simp only [List.getElem_map, List.getElem_set]
  split
  ·rfl
  ·exact rowsz _ (List.mem_map_of_mem (QiR _))
 refine le_trans (HJ l fr H) (le_trans (QcB kk (H' := (500001 + i, ⟨(us[i].cs.map dCR).set k (row.map (D.fzS H (· == kk))), 8, ec, p⟩) :: wA us eu ec eg L J b4) Wa (fr' := Zf l fr) (fun t d h => ⟨d, h, SO fun j hj => eqkk j (nokk j (hfr (t, d) (ZS h) j hj))⟩) (fun j b h => ?_) (fun t d h j hj => some1 _ j (hfr (t, d) (ZS h) j hj)) (fun j b h j2 hj2 => ?_) fun j hj hs => ?_) ?_)
 ·rw [Ql] at h
  split at h
  ·rename_i e; cases h; subst e
   refine ⟨Wa, _, hKi, ?_⟩
   cases p with
   | true => rw [hp rfl]; rfl
   | false => show Box.mk _ _ _ _ = _; rw [mapz]
  ·rename_i e
   rcases K9 hK h with ⟨rfl, rfl⟩ | ⟨rfl, rfl⟩ | ⟨rfl, rfl⟩ | ⟨i2, hi2, rfl, rfl⟩
   ·refine ⟨Wa, _, hu, XM (.inr fun j hj => eqkk j (nokk j (.inr (.inr (.inr (K8 hj))))))⟩
   ·exact ⟨Ne.symm hkk.2.1, _, hg, rfl⟩
   ·exact ⟨Ne.symm hkk.2.2, _, h4, XM (.inl hb4)⟩
   ·exact ⟨Wa, _, hF i2 hi2 (fun e2 => e Wa), rfl⟩
 ·rw [Ql] at h
  split at h
  ·cases h
   cases hpp : p with
   | true => rw [Jh hpp] at hj2; cases hj2
   | false =>
   simp only [Box.ids, hpp, QiU, if_false, QiT] at hj2
   obtain ⟨r, hr, d, hd, hj3⟩ := hj2
   rcases Ng hr with rfl | hr
   ·have : (d.canS).sid = [] := hz.all _ (by rw [<- hrow]; exact List.mem_map_of_mem hd)
    rw [Ga] at this
    rw [this] at hj3; cases hj3
   ·obtain ⟨z, hzm, rfl⟩ := Qi0.1 hr
    rw [(hoth z hzm).all d hd] at hj3; cases hj3
  ·exact QU (JE hK hb4 j b h j2 hj2)
 ·rw [hsm j hj] at hs; cases hs
 ·refine le_trans (Qbz k QD) (le_trans (Ld QD (fun e => ?_) (fun r hr d hd => ?_)) (KV rfl fun j => ?_))
  ·have := congrArg List.length e
   simp only [List.length_modify, List.length_set, List.length_map, List.length_nil] at this
   omega
  ·rcases Ky hr with h | ⟨y, hy, rfl⟩
   ·rcases Ng h with rfl | h
    ·have : (d.canS).sid = [] := hz.all _ (by rw [<- hrow]; exact List.mem_map_of_mem hd)
     rwa [Ga] at this
    ·obtain ⟨z, hzm, rfl⟩ := Qi0.1 h
     exact (hoth z hzm).all d hd
   ·obtain ⟨d0, hd0, rfl⟩ := Qi0.1 hd
    rw [Ga]
    rcases Ng hy with rfl | h
    ·have : (d0.canS).sid = [] := hz.all _ (by rw [<- hrow]; exact List.mem_map_of_mem hd0)
     rwa [Ga] at this
    ·obtain ⟨z, hzm, rfl⟩ := Qi0.1 h
     exact (hoth z hzm).all d0 hd0
  ·have erows : ((us[i].cs.map dCR).set k (row.map (D.fzS H (· == kk)))).modify k (fun r => r.map D.canS) = ((us[i].cs.set k z').map dCR) := by
    refine List.ext_getElem Wd fun m h1 h2 => ?_
    simp only [List.getElem_modify, List.getElem_set, List.getElem_map]
    by_cases e : k = m
    ·subst e
     simp only [if_true]
     exact hrow
    ·simp only [if_neg e]
   have hK' := FU (i := i) (k := k) (z := z') hK
   by_cases e : 500001 + i = j
   ·subst e
    rw [QD, G9 hK' (by rw [ZD]; exact hi)]
    simp only [JC hi, if_true, erows]; rfl
   ·rw [Ql, if_neg e, Ql, if_neg e, Ql, if_neg e]
    cases h : lk (wA us eu ec eg L J b4) j with
    | none =>
     cases h' : lk (wA (H5 us i k z') eu ec eg L J b4) j with
     | none => rfl
     | some b =>
      have : (lk (wA us eu ec eg L J b4) j).isSome = true := by
       rcases K9 hK' h' with ⟨rfl, _⟩ | ⟨rfl, _⟩ | ⟨rfl, _⟩ | ⟨m, hm, rfl, _⟩
       ·rfl
       ·rfl
       ·rfl
       ·rw [ZD] at hm; rw [G9 hK hm]; rfl
      rw [h] at this; cases this
    | some b =>
     rcases K9 hK h with ⟨rfl, rfl⟩ | ⟨rfl, rfl⟩ | ⟨rfl, rfl⟩ | ⟨m, hm, rfl, rfl⟩
     ·rw [N8, DS]
     ·rfl
     ·rfl
     ·rw [G9 hK' (by rw [ZD]; exact hm)]
      simp only [JC hm, if_neg (Wa : ¬ i = m)]
end
theorem FB : ∀ {H : QiJ} {j : Nat}, j ∈ H.map Prod.fst -> (lk H j).isSome = true
 | [], _, h => by cases h
 | (k, b) :: H, j, h => by
  by_cases e : k = j
  ·subst e; exact QY
  ·refine QU (FB ?_)
   simp only [List.map_cons, QiO] at h
   exact h.resolve_left (Ne.symm e)
theorem Qcj {us : List UR} (h : Yf us) {i : Nat} (hi : i < us.length) : (us.map dUR)[((i : Nat) : Int).toNat]? = some [.str us[i].n, .str us[i].f, .osl (500001 + i) us[i].cs.length] := by
 rw [Int.toNat_natCast, List.getElem?_map, List.getElem?_eq_getElem hi, Option.map_some, dUR, h i hi]
theorem Qga {cs : List CR} {k : Nat} (hk : k < cs.length) : (cs.map dCR)[((k : Nat) : Int).toNat]? = some (dCR cs[k]) := by
 rw [Int.toNat_natCast, List.getElem?_map, List.getElem?_eq_getElem hk]; rfl
theorem LC {us : List UR} {eu ec eg : Nat} {L : List Int} {J : Int} {b4 g1 : Box} (h : Yf us) (k : Nat) : lk (((500000, (⟨us.map dUR, 3, eu, false⟩ : Box)) :: fbx ec us) ++ ([(12, gB L J eg)] ++ [(12, g1), (4, b4)])) k = lk (wA us eu ec eg L J b4) k := by
 show lk ((500000, _) :: (fbx ec us ++ [(12, gB L J eg), (12, g1), (4, b4)])) k = lk ((500000, _) :: (12, _) :: (4, _) :: fbx ec us) k
 rw [Ql, Ql]
 split
 ·rfl
 ·rw [ZQ]
  cases hh : lk (fbx ec us) k with
  | some v =>
   have := Ru h k v hh
   simp only
   rw [Ql, if_neg Wa, Ql, if_neg Wa, hh]
  | none =>
   simp only [Ql, hh]
   by_cases e : 12 = k
   ·rw [if_pos e, if_pos e]
   ·rw [if_neg e, if_neg e, if_neg e]; rfl
theorem D1 {us : List UR} {eu ec eg : Nat} {L : List Int} {J : Int} {b4 : Box} (h : Yf us) (hv : ∀ y ∈ us, y.cs.length <= 16 /\ ∀ z ∈ y.cs, Me z.v) (hvs : ∀ y ∈ us, VsOk y.cs) : Fam (wA us eu ec eg L J b4) 12 500000 eu ec us := by
 refine ⟨by decide, ⟨false, rfl⟩, fun y hy => ?_, hv, hvs⟩
 obtain ⟨j, hj, rfl⟩ := Qi8 hy
 refine ⟨by rw [h j hj]; omega, true, by rw [h j hj]; exact G9 h hj⟩
/-! ### Filled candidates -/
def QaY (n : Nat) (x : WantT) : Prop := 0 < x.u /\ x.u < n /\ SetMay x.s
theorem WantMay.w {n : Nat} {x : WantT} (h : WantMay n x) : QaY n x := ⟨by have := h.1.1; omega, h.1.2.1, h.1.2.2, h.2⟩
structure JM (n : Nat) (c : CandT) : Prop where
 v : Me c.v
 nl : c.ns.length <= 10
 nr : ∀ r ∈ c.ns, (1 <= r.length /\ r.length <= 2) /\ ∀ x ∈ r, QaY n x
 bl : c.bs.length <= 1
 bw : ∀ x ∈ c.bs, QaY n x
def Sd (c : CandT) : CR := ⟨c.v, .int .i64 c.sh, Q8 c.ns, Q1 c.bs⟩
def DoneC (n : Nat) (z : CR) : Prop := ∃ c, z = Sd c /\ JM n c
def FreshC (z : CR) : Prop := ∃ v sh, z = zr v sh /\ Me v
theorem DoneC.pure {n : Nat} {z : CR} (h : DoneC n z) : PureC z := by obtain ⟨c, rfl, _⟩ := h; exact ⟨rfl, rfl, rfl⟩
theorem FreshC.pure {z : CR} (h : FreshC z) : PureC z := by obtain ⟨v, sh, rfl, _⟩ := h; exact ⟨rfl, rfl, rfl⟩
theorem DoneC.vr {n : Nat} {z : CR} (h : DoneC n z) : Me z.v := by obtain ⟨c, rfl, q⟩ := h; exact q.v
theorem FreshC.vr {z : CR} (h : FreshC z) : Me z.v := by obtain ⟨v, sh, rfl, q⟩ := h; exact q
structure Prog (n : Nat) (us : List UR) (i k : Nat) : Prop where
 keys : Yf us
 len : us.length = n /\ 2 <= n /\ n <= 11
 cl : ∀ u ∈ us, u.cs.length <= 4
 done : ∀ j, ∀ hj : j < us.length, ∀ m, ∀ hm : m < us[j].cs.length, (j < i \/ (j = i /\ m < k)) -> DoneC n us[j].cs[m]
 fresh : ∀ j, ∀ hj : j < us.length, ∀ m, ∀ hm : m < us[j].cs.length, ¬ (j < i \/ (j = i /\ m < k)) -> FreshC us[j].cs[m]
 ul : ∃ b, UL b (us.map shp)
theorem Prog.vs {n : Nat} {us : List UR} {i k : Nat} (h : Prog n us i k) : ∀ y ∈ us, VsOk y.cs := fun y hy => by
 obtain ⟨b, hb⟩ := h.ul
 exact hb.vs (shp y) (Qi0.2 ⟨y, hy, rfl⟩)
theorem Prog.feat {n : Nat} {us : List UR} {i k j : Nat} (h : Prog n us i k) (hj : j < us.length) (hf : us[j].f ≠ []) : 2 <= j := by
 obtain ⟨b, hb⟩ := h.ul
 refine hb.feat j (by simpa using hj) ?_
 simpa [shp] using hf
theorem Prog.exm {n : Nat} {us : List UR} {i k j m : Nat} (h : Prog n us i k) (hj : j < us.length) (hm : m < us[j].cs.length) : Xz (exV us[j].cs[m].v) = true :=
 (VsL.ex (h.vs us[j] (QiR hj)) (Qi0.2 ⟨_, QiR hm, rfl⟩)).1
theorem R0 {us : List UR} {i k : Nat} {z : CR} (hi : i < us.length) (hk : k < us[i].cs.length) (hv : z.v = us[i].cs[k].v) : (H5 us i k z).map shp = us.map shp := by
 refine List.ext_getElem (by simp [ZD]) fun j h1 h2 => ?_
 simp only [List.getElem_map]
 have hj : j < us.length := by simpa using h2
 rw [JC (i := i) (k := k) (z := z) hj]
 split
 ·rename_i e; subst e
  simp only [shp, F1, List.map_set, hv]
  rw [show us[i].cs[k].v = (us[i].cs.map CR.v)[k]'(by simpa using hk) by simp, List.set_getElem_self]
 ·rfl
theorem Prog.pure {n : Nat} {us : List UR} {i k : Nat} (h : Prog n us i k) {j : Nat} (hj : j < us.length) : ∀ z ∈ us[j].cs, PureC z /\ Me z.v := fun z hz => by
 obtain ⟨m, hm, rfl⟩ := Qi8 hz
 by_cases hd : j < i \/ (j = i /\ m < k)
 ·exact ⟨(h.done j hj m hm hd).pure, (h.done j hj m hm hd).vr⟩
 ·exact ⟨(h.fresh j hj m hm hd).pure, (h.fresh j hj m hm hd).vr⟩
theorem Prog.fam {n : Nat} {us : List UR} {i k : Nat} (h : Prog n us i k) : ∀ y ∈ us, y.cs.length <= 16 /\ ∀ z ∈ y.cs, Me z.v := fun y hy => by
 obtain ⟨j, hj, rfl⟩ := Qi8 hy
 exact ⟨Qi5 (h.cl _ hy) Wa, fun z hz => (h.pure hj z hz).2⟩
theorem Prog.put {n : Nat} {us : List UR} {i k : Nat} (h : Prog n us i k) (hi : i < us.length) (hk : k < us[i].cs.length) {z : CR} (hz : DoneC n z) (hv : z.v = us[i].cs[k].v) : Prog n (H5 us i k z) i (k + 1) := by
 have at' := fun (j : Nat) (hj : j < us.length) => JC (i := i) (k := k) (z := z) hj
 refine ⟨FU h.keys, by rw [ZD]; exact h.len, fun u hu => ?_, fun j hj m hm hd => ?_, fun j hj m hm hd => ?_, by rw [R0 hi hk hv]; exact h.ul⟩
 ·obtain ⟨j, hj, rfl⟩ := Qi8 hu
  rw [ZD] at hj
  rw [at' j hj]
  split
  ·simp only [F1, List.length_set]; exact h.cl _ (QiR _)
  ·exact h.cl _ (QiR _)
 ·rw [ZD] at hj
  have e := at' j hj
  by_cases hij : i = j
  ·subst hij
   rw [if_pos rfl] at e
   have hm' : m < (F1 us[i] k z).cs.length := by rw [<- e]; exact hm
   have e2 : (H5 us i k z)[i].cs[m] = (F1 us[i] k z).cs[m]'hm' := by congr 1; rw [e]
   rw [e2]
   simp only [F1, List.getElem_set]
   split
   ·exact hz
   ·simp only [F1, List.length_set] at hm'
    exact h.done i hi m hm' Wa
  ·rw [if_neg hij] at e
   have hm' : m < us[j].cs.length := by rw [<- e]; exact hm
   have e2 : (H5 us i k z)[j].cs[m] = us[j].cs[m]'hm' := by congr 1; rw [e]
   rw [e2]; exact h.done j hj m hm' Wa
 ·rw [ZD] at hj
  have e := at' j hj
  by_cases hij : i = j
  ·subst hij
   rw [if_pos rfl] at e
   have hm' : m < (F1 us[i] k z).cs.length := by rw [<- e]; exact hm
   have e2 : (H5 us i k z)[i].cs[m] = (F1 us[i] k z).cs[m]'hm' := by congr 1; rw [e]
   rw [e2]
   simp only [F1, List.length_set] at hm'
   simp only [F1, List.getElem_set]
   rw [if_neg Wa]
   exact h.fresh i hi m hm' Wa
  ·rw [if_neg hij] at e
   have hm' : m < us[j].cs.length := by rw [<- e]; exact hm
   have e2 : (H5 us i k z)[j].cs[m] = us[j].cs[m]'hm' := by congr 1; rw [e]
   rw [e2]; exact h.fresh j hj m hm' Wa
theorem Prog.next {n : Nat} {us : List UR} {i k : Nat} (h : Prog n us i k) (hi : i < us.length) (hk : us[i].cs.length <= k) : Prog n us (i + 1) 0 := by
 refine ⟨h.keys, h.len, h.cl, fun j hj m hm hd => h.done j hj m hm ?_, fun j hj m hm hd => h.fresh j hj m hm Wa, h.ul⟩
 by_cases e : j = i
 ·subst e; exact .inr ⟨rfl, Wa⟩
 ·exact .inl Wa
theorem Prog.again {n : Nat} {us : List UR} {i k : Nat} (h : Prog n us i (k + 1)) (hi : i < us.length) (hk : k < us[i].cs.length) {z : CR} (hz : DoneC n z) (hv : z.v = us[i].cs[k].v) : Prog n (H5 us i k z) i (k + 1) := by
 have at' := fun (j : Nat) (hj : j < us.length) => JC (i := i) (k := k) (z := z) hj
 refine ⟨FU h.keys, by rw [ZD]; exact h.len, fun u hu => ?_, fun j hj m hm hd => ?_, fun j hj m hm hd => ?_, by rw [R0 hi hk hv]; exact h.ul⟩
 ·obtain ⟨j, hj, rfl⟩ := Qi8 hu
  rw [ZD] at hj
  rw [at' j hj]
  split
  ·simp only [F1, List.length_set]; exact h.cl _ (QiR _)
  ·exact h.cl _ (QiR _)
 ·rw [ZD] at hj
  have e := at' j hj
  by_cases hij : i = j
  ·subst hij
   rw [if_pos rfl] at e
   have hm' : m < (F1 us[i] k z).cs.length := by rw [<- e]; exact hm
   have e2 : (H5 us i k z)[i].cs[m] = (F1 us[i] k z).cs[m]'hm' := by congr 1; rw [e]
   rw [e2]
   simp only [F1, List.getElem_set]
   split
   ·exact hz
   ·simp only [F1, List.length_set] at hm'
    exact h.done i hi m hm' Wa
  ·rw [if_neg hij] at e
   have hm' : m < us[j].cs.length := by rw [<- e]; exact hm
   have e2 : (H5 us i k z)[j].cs[m] = us[j].cs[m]'hm' := by congr 1; rw [e]
   rw [e2]; exact h.done j hj m hm' Wa
 ·rw [ZD] at hj
  have e := at' j hj
  by_cases hij : i = j
  ·subst hij
   rw [if_pos rfl] at e
   have hm' : m < (F1 us[i] k z).cs.length := by rw [<- e]; exact hm
   have e2 : (H5 us i k z)[i].cs[m] = (F1 us[i] k z).cs[m]'hm' := by congr 1; rw [e]
   rw [e2]
   simp only [F1, List.length_set] at hm'
   simp only [F1, List.getElem_set]
   rw [if_neg Wa]
   exact h.fresh i hi m hm' Wa
  ·rw [if_neg hij] at e
   have hm' : m < us[j].cs.length := by rw [<- e]; exact hm
   have e2 : (H5 us i k z)[j].cs[m] = us[j].cs[m]'hm' := by congr 1; rw [e]
   rw [e2]; exact h.fresh j hj m hm' Wa
theorem BR {l : List Nat} {fr fr1 fr' : QiK} {us : List UR} {eu ec eg e1 e3 : Nat} {L : List Int} {J : Int} {b4 bK : Box} {i : Nat} {x : WantT} (hf : Zf l fr = fr1) (ef : fr1 = fr') (hK : Yf us) (hi : i < us.length) (hb4 : b4.pr = true) (hbK : ∀ j ∈ bK.ids, j = 64)
  (hfr : ∀ p ∈ fr', ∀ j ∈ p.2.ids, j = 500000 \/ j = 12 \/ j = 4 \/ ∃ u ∈ us, j = u.k) :
  St.le ⟨fr, (500001 + i, bK) :: (64, ⟨[[.osl 63 1]], 1, e1, false⟩) :: (63, ⟨[JJ x], 3, e3, true⟩) :: wA us eu ec eg L J b4⟩ ⟨fr', (500001 + i, bK) :: (64, ⟨[[Q1 [x]]], 1, e1, true⟩) :: wA us eu ec eg L J b4⟩ := by
 subst hf ef
 have no63 : ∀ j, (j = 500000 \/ j = 12 \/ j = 4 \/ ∃ u ∈ us, j = u.k) -> j ≠ 63 := fun j hj e => by
  subst e
  rcases hj with h | h | h | ⟨u, hu, h⟩
  ·cases h
  ·cases h
  ·cases h
  ·have := (KU hK hu).1; omega
 have eq63 : ∀ j, j ≠ 63 -> (j == 63) = false := fun j hj => by simp [hj]
 have up : ∀ b b' j, (lk (wA us eu ec eg L J b4) j).isSome = true -> (lk ((500001 + i, b) :: (64, b') :: wA us eu ec eg L J b4) j).isSome = true := fun b b' j hj => QU (QU hj)
 refine le_trans (HJ l fr _) (le_trans (QcB 63 (H' := (500001 + i, bK) :: (64, ⟨[[Q1 [x]]], 1, e1, false⟩) :: wA us eu ec eg L J b4) Wg (fr' := Zf l fr) (fun t d h => ⟨d, h, SO fun j hj => eq63 j (no63 j (hfr (t, d) (ZS h) j hj))⟩) (fun j b h => ?_) (fun t d h j hj => up _ _ j (LH hK (hfr (t, d) (ZS h) j hj))) (fun j b h j2 hj2 => ?_) fun j hj hs => ?_) ?_)
 ·rw [Ql] at h
  split at h
  ·rename_i e; cases h; subst e
   refine ⟨Wa, _, QD, XM (.inr fun j hj => ?_)⟩
   rw [hbK j hj]; rfl
  ·rename_i e
   rw [Ql] at h
   split at h
   ·rename_i e2; cases h; subst e2
    refine ⟨by decide, _, Qm e QD, ?_⟩
    have h63 : lk ((500001 + i, bK) :: (64, (⟨[[.osl 63 1]], 1, e1, false⟩ : Box)) :: (63, ⟨[JJ x], 3, e3, true⟩) :: wA us eu ec eg L J b4) 63 = some ⟨[JJ x], 3, e3, true⟩ := Qm Wa (Qm Wg QD)
    simp only [Box.fz, QiU, if_false, List.map_cons, List.map_nil, D.fzS, beq_self_eq_true, if_true, h63, List.length_singleton, and_self, Q1]
   ·rename_i e2
    have h2 : lk ((500001 + i, bK) :: (64, (⟨[[.osl 63 1]], 1, e1, false⟩ : Box)) :: (63, ⟨[JJ x], 3, e3, true⟩) :: wA us eu ec eg L J b4) j = some b := by
     have hj : j ≠ 63 := by
      rcases K9 hK h with ⟨rfl, _⟩ | ⟨rfl, _⟩ | ⟨rfl, _⟩ | ⟨m, _, rfl, _⟩ <;> omega
     exact Qm e (Qm e2 (Qm (Ne.symm hj) h))
    rcases K9 hK h with ⟨rfl, rfl⟩ | ⟨rfl, rfl⟩ | ⟨rfl, rfl⟩ | ⟨m, hm, rfl, rfl⟩
    ·exact ⟨by decide, _, h2, XM (.inr fun j hj => eq63 j (no63 j (.inr (.inr (.inr (K8 hj))))))⟩
    ·exact ⟨by decide, _, h2, rfl⟩
    ·exact ⟨by decide, _, h2, XM (.inl hb4)⟩
    ·exact ⟨Wa, _, h2, rfl⟩
 ·rw [Ql] at h
  split at h
  ·cases h
   rw [hbK j2 hj2]; exact QU QY
  ·rw [Ql] at h
   split at h
   ·cases h; simp [Box.ids, D.sid, Q1] at hj2
   ·exact up _ _ j2 (JE hK hb4 j b h j2 hj2)
 ·by_cases e : 500001 + i = j
  ·subst e; exact QY
  ·rw [Ql, if_neg e, Ql, if_neg Wa, Ql, if_neg Wa] at hs
   exact up _ _ j hs
 ·have h64 : lk ((500001 + i, bK) :: (64, (⟨[[Q1 [x]]], 1, e1, false⟩ : Box)) :: wA us eu ec eg L J b4) 64 = some ⟨[[Q1 [x]]], 1, e1, false⟩ := Qm Wa QD
  refine le_trans (Ld h64 Wd (by intro r hr d hd; simp only [QiV] at hr; subst hr; simp only [QiV] at hd; subst hd; rfl)) (KV rfl fun j => ?_)
  by_cases e : 64 = j
  ·subst e; rw [QD, Ql, if_neg Wa, QD]
  ·by_cases eK : 500001 + i = j
   ·subst eK; rw [Ql, if_neg e, QD, QD]
   ·rw [Ql, if_neg e, Ql, if_neg eK, Ql, if_neg e, Ql, if_neg eK, Ql, if_neg e]
theorem Bd {n : Nat} : ∀ {cs : List CR}, (∀ z ∈ cs, DoneC n z) -> ∃ l : List CandT, cs = l.map Sd /\ ∀ c ∈ l, JM n c
 | [], _ => ⟨[], rfl, by simp⟩
 | z :: cs, h => by
  obtain ⟨l, h1, h2⟩ := Bd (cs := cs) fun y hy => h y (by simp [hy])
  obtain ⟨c, rfl, hc⟩ := h z Wd
  exact ⟨c :: l, by rw [h1]; rfl, fun y hy => by
   rcases QiO.1 hy with rfl | hy
   ·exact hc
   ·exact h2 y hy⟩
def QeS (n : Nat) (u : UR) (x : JF) : Prop := x.n = u.n /\ x.f = u.f /\ u.cs = x.cs.map Sd /\ ∀ c ∈ x.cs, JM n c
theorem Be {n : Nat} : ∀ {us : List UR}, (∀ u ∈ us, ∀ z ∈ u.cs, DoneC n z) -> ∃ w : Qt, w.length = us.length /\ ∀ j, ∀ h : j < us.length, ∀ h' : j < w.length, QeS n us[j] w[j]
 | [], _ => ⟨[], rfl, fun j h => by simp at h⟩
 | u :: us, h => by
  obtain ⟨w, h1, h2⟩ := Be (us := us) fun y hy => h y (by simp [hy])
  obtain ⟨l, q1, q2⟩ := Bd (h u Wd)
  refine ⟨⟨u.n, u.f, l⟩ :: w, by simp [h1], fun j hj hj' => ?_⟩
  cases j with
  | zero => exact ⟨rfl, rfl, q1, q2⟩
  | succ j => simp only [List.getElem_cons_succ]; exact h2 j (by simpa using hj) (by simpa using hj')
def Qd9 (x : JF) : List UInt8 × List UInt8 × List Vr := (x.n, x.f, x.cs.map CandT.v)
structure WMade (w : Qt) : Prop where
 sm : WSm w
 len : 2 <= w.length /\ w.length <= 11
 cs : ∀ u ∈ w, u.cs.length <= 4
 cand : ∀ u ∈ w, ∀ c ∈ u.cs, JM w.length c
 ul : ∃ b, UL b (w.map Qd9)
theorem QdH {w : Qt} (h2 : 2 <= w.length) (h11 : w.length <= 11) (hc : ∀ u ∈ w, u.cs.length <= 4) (hd : ∀ u ∈ w, ∀ c ∈ u.cs, JM w.length c) (hul : ∃ b, UL b (w.map Qd9)) : WMade w := by
 refine ⟨⟨Wa, fun u hu => Qi5 (hc u hu) Wa, fun u hu c hcm => (hd u hu c hcm).v, fun u hu c hcm => ⟨Qi5 (hd u hu c hcm).nl Wa, Qi5 (hd u hu c hcm).bl Wa⟩, fun u hu c hcm r hr => Qi5 ((hd u hu c hcm).nr r hr).1.2 Wa, fun u hu c hcm r hr x hx => (((hd u hu c hcm).nr r hr).2 x hx).2.2.sm, fun u hu c hcm x hx => ((hd u hu c hcm).bw x hx).2.2.sm⟩, ⟨h2, h11⟩, hc, hd, hul⟩
theorem QbB {n : Nat} {us : List UR} {eu ec eg : Nat} {L : List Int} {J : Int} {b4 : Box} {k : Nat} (h : Prog n us us.length k) (hb4 : b4.pr = true) :
  ∃ w : Qt, w.length = us.length /\ WMade w /\ ∀ {l : List Nat} {fr fr1 fr' : QiK}, Zf l fr = fr1 -> fr1 = fr' -> (∀ p ∈ fr', ∀ j ∈ p.2.ids, j = 500000 \/ j = 4) -> St.le ⟨fr, wA us eu ec eg L J b4⟩ ⟨fr', [(500000, ⟨w.map Z9, 3, eu, true⟩), (4, b4)]⟩ := by
 obtain ⟨w, hw1, hw2⟩ := Be (n := n) (us := us) fun u hu z hz => by
  obtain ⟨j, hj, rfl⟩ := Qi8 hu
  obtain ⟨m, hm, rfl⟩ := Qi8 hz
  exact h.done j hj m hm (.inl hj)
 have hcs : ∀ u ∈ w, u.cs.length <= 4 /\ ∀ c ∈ u.cs, JM n c := fun u hu => by
  obtain ⟨j, hj, rfl⟩ := Qi8 hu
  obtain ⟨_, _, q3, q4⟩ := hw2 j Wa hj
  have := h.cl us[j] (QiR _)
  rw [q3, List.length_map] at this
  exact ⟨this, q4⟩
 have hlen := h.len
 refine ⟨w, hw1, QdH Wa Wa (fun u hu => (hcs u hu).1) (fun u hu c hc => by have := (hcs u hu).2 c hc; rwa [show w.length = n by omega]) (by
  obtain ⟨b, hb⟩ := h.ul
  refine ⟨b, ?_⟩
  have e : w.map Qd9 = us.map shp := by
   refine List.ext_getElem (by simp [hw1]) fun j h1 h2 => ?_
   simp only [List.getElem_map]
   obtain ⟨q1, q2, q3, _⟩ := hw2 j (by simpa using h2) (by simpa using h1)
   simp only [Qd9, shp, q1, q2, q3, List.map_map]; rfl
  rw [e]; exact hb), ?_⟩
 intro l fr fr1 fr' hf ef hfr
 subst hf ef
 have hK := h.keys
 let S : Nat -> Bool := fun k => decide (500001 <= k) && decide (k < 1000000)
 have hS1 : ∀ k, k < 500001 -> S k = false := fun k hk => by
  show (decide (500001 <= k) && decide (k < 1000000)) = false
  rw [decide_eq_false Wa]; rfl
 have hS2 : ∀ k, 500001 <= k -> k < 1000000 -> S k = true := fun k h1 h2 => by
  show (decide (500001 <= k) && decide (k < 1000000)) = true
  rw [decide_eq_true h1, decide_eq_true h2]; rfl
 have hrow : ∀ j, ∀ h1 : j < us.length, ∀ h2 : j < w.length, (dUR us[j]).map (D.fzS (wA us eu ec eg L J b4) S) = Z9 w[j] := fun j h1 h2 => by
  obtain ⟨q1, q2, q3, q4⟩ := hw2 j h1 h2
  have hk := hK j h1
  have hc := G9 (eu := eu) (ec := ec) (eg := eg) (L := L) (J := J) (b4 := b4) hK h1
  generalize us[j] = u at q1 q2 q3 hk hc
  generalize w[j] = x at q1 q2 q3 q4
  obtain ⟨un, uf, uk, ucs⟩ := u
  simp only at q1 q2 q3 hk hc
  subst hk q3
  simp only [dUR, Z9, List.map_cons, List.map_nil, D.fzS]
  rw [hS2 _ Wa Wa, hc]
  simp only [if_true, true_and, List.length_map, q1, q2, Bc, List.map_map]
  rfl
 have hrows : (us.map dUR).map (fun r => r.map (D.fzS (wA us eu ec eg L J b4) S)) = w.map Z9 := by
  refine List.ext_getElem (by simp [hw1]) fun j h1 h2 => ?_
  simp only [List.getElem_map]
  exact hrow j (by simpa using h1) (by simpa using h2)
 refine le_trans (HJ l fr _) (le_trans (QdE S (fun k hk => by
  simp only [S, QiQ, decide_eq_true_eq] at hk; exact hk.2) (fr' := Zf l fr) (H' := [(500000, ⟨w.map Z9, 3, eu, false⟩), (4, b4)]) (fun t d hd => ⟨d, hd, SO fun j hj => ?_⟩) (fun j b hj => ?_) (fun t d hd j hj => ?_) (fun j b hb i hi => ?_) fun j hj hs => ?_) (le_trans (Ld (k := 500000) (b := ⟨w.map Z9, 3, eu, false⟩) rfl (fun e => ?_) (fun r hr d hd => ?_)) (KV rfl fun j => ?_)))
 ·rcases hfr (t, d) (ZS hd) j hj with rfl | rfl
  ·exact hS1 _ Wg
  ·exact hS1 _ Wg
 ·rw [Ql] at hj
  split at hj
  ·rename_i e; cases hj; subst e
   refine ⟨hS1 _ Wg, _, N8, ?_⟩
   simp only [Box.fz, QiU, if_false, hrows]
  ·rw [Ql] at hj
   split at hj
   ·rename_i e; cases hj; subst e
    exact ⟨hS1 _ Wg, _, Pn, XM (.inl hb4)⟩
   ·cases hj
 ·rcases hfr (t, d) (ZS hd) j hj with rfl | rfl
  ·rfl
  ·rfl
 ·rw [Ql] at hb
  split at hb
  ·cases hb
   simp only [Box.ids, QiU, if_false, QiT, Qi0] at hi
   obtain ⟨r, ⟨u, _, rfl⟩, d, hd, hi⟩ := hi
   simp only [Z9, QiO, QiN, or_false] at hd
   rcases hd with rfl | rfl | rfl <;> simp [D.sid, Bc] at hi
  ·rw [Ql] at hb
   split at hb
   ·cases hb; rw [Jh hb4] at hi; cases hi
   ·cases hb
 ·obtain ⟨b, hb⟩ := QiS.1 hs
  rcases K9 hK hb with ⟨rfl, _⟩ | ⟨rfl, _⟩ | ⟨rfl, _⟩ | ⟨m, hm, rfl, _⟩ <;> omega
 ·have := congrArg List.length e
  simp only [List.length_map, List.length_nil] at this
  omega
 ·obtain ⟨u, _, rfl⟩ := Qi0.1 hr
  simp only [Z9, QiO, QiN, or_false] at hd
  rcases hd with rfl | rfl | rfl <;> rfl
 ·by_cases e : 500000 = j
  ·subst e; rfl
  ·rw [Ql, if_neg e, Ql, if_neg e]; rw [Ql (k := 500000), if_neg e]
def T2 (us : List UR) (i : Nat) : Nat := match us[i]? with
 | some u => u.cs.length
 | none => 0
theorem Kk {us : List UR} {i : Nat} (h : i < us.length) : T2 us i = us[i].cs.length := by rw [T2, List.getElem?_eq_getElem h]
theorem JZ (us : List UR) (i k : Nat) (z : CR) : T2 (H5 us i k z) i = T2 us i := by
 by_cases h : i < us.length
 ·rw [Kk h, Kk (by rw [ZD]; exact h), JC h, if_pos rfl]
  simp [F1]
 ·have e : (H5 us i k z).length = us.length := ZD ..
  rw [T2, T2, List.getElem?_eq_none (Wa : us.length <= i), List.getElem?_eq_none (Wa : (H5 us i k z).length <= i)]
theorem To {us : List UR} {i k : Nat} {z : CR} (hi : i < us.length) (hk : k < us[i].cs.length) {us2 : List UR} (e : us2 = H5 us i k z) (hi2 : i < us2.length) (hk2 : k < us2[i].cs.length) : us2[i].cs[k] = z := by
 subst e
 have e1 := JC (i := i) (k := k) (z := z) hi
 rw [if_pos rfl] at e1
 have e2 : (H5 us i k z)[i].cs[k] = (F1 us[i] k z).cs[k]'(by simpa [F1] using hk) := by congr 1; rw [e1]
 rw [e2]; simp [F1]
theorem Qdq {cs : List CR} {k : Nat} {z : CR} (hk : k < cs.length) (hz : cs[k] = z) : (cs.map dCR)[((k : Nat) : Int).toNat]? = some (dCR z) := by rw [Qga hk, hz]
theorem QcS {cs : List CR} {k : Nat} {row : List D} (hk : k < cs.length) : ((cs.map dCR).set ((k : Nat) : Int).toNat row)[((k : Nat) : Int).toNat]? = some row := by
 rw [Int.toNat_natCast, List.getElem?_set_self (by simpa using hk)]
theorem SX {K k e t : Nat} {L : List (List D)} {r1 r2 : List D} {p : Bool} {H : QiJ} : lk ((K, (⟨(L.set k r1).set k r2, e, t, p⟩ : Box)) :: H) K = some ⟨L.set k r2, e, t, p⟩ := by rw [QD, List.set_set]
theorem NR {H : QiJ} {kk m e t : Nat} {ys : List (List D)} {v : Vr} {sh : Int} (h : lk H kk = some ⟨ys, e, t, true⟩) (hm : m = ys.length) : ([D.int .i64 v.a, .int .i64 v.b, .int .i64 v.c, .str v.p, .str v.q, .int .i64 sh, .osl kk m, .fsl []].map (D.fzS H (· == kk))).map D.canS = [.int .i64 v.a, .int .i64 v.b, .int .i64 v.c, .str v.p, .str v.q, .int .i64 sh, .sl ys, .sl []] := by
 simp only [List.map_cons, List.map_nil, D.fzS, beq_self_eq_true, if_true, h, hm, and_self, D.canS]
theorem Bz {H : QiJ} {kk m e t : Nat} {ys : List (List D)} {v : Vr} {sh : Int} {ns : List (List WantT)} (h : lk H kk = some ⟨ys, e, t, true⟩) (hm : m = ys.length) : ([D.int .i64 v.a, .int .i64 v.b, .int .i64 v.c, .str v.p, .str v.q, .int .i64 sh, Q8 ns, .osl kk m].map (D.fzS H (· == kk))).map D.canS = [.int .i64 v.a, .int .i64 v.b, .int .i64 v.c, .str v.p, .str v.q, .int .i64 sh, Q8 ns, .sl ys] := by
 simp only [Q8, List.map_cons, List.map_nil, D.fzS, beq_self_eq_true, if_true, h, hm, and_self, D.canS]
theorem QfR {us : List UR} {eu ec eg : Nat} {L : List Int} {J J2 : Int} {b4 : Box} (k : Nat) : lk ((12, gB L J2 eg) :: wA us eu ec eg L J b4) k = lk (wA us eu ec eg L J2 b4) k := by
 show lk ((12, _) :: (500000, _) :: (12, _) :: (4, _) :: fbx ec us) k = lk ((500000, _) :: (12, _) :: (4, _) :: fbx ec us) k
 by_cases e : 12 = k
 ·subst e; rfl
 ·rw [Ql, if_neg e, Ql, Ql (k := 500000)]
  split
  ·rfl
  ·rw [Ql, if_neg e, Ql (k := 12), if_neg e]
theorem Lv {cs : List CR} {k e t : Nat} {row : List D} (h : ∀ z ∈ cs, PureC z) (hr : ∀ d ∈ row, ∀ j ∈ d.sid, j = 64) : ∀ j ∈ Box.ids ⟨(cs.map dCR).set k row, e, t, false⟩, j = 64 := fun j hj => by
 simp only [Box.ids, QiU, if_false, QiT] at hj
 obtain ⟨r, hrm, d, hd, hj⟩ := hj
 rcases Ng hrm with rfl | hrm
 ·exact hr d hd j hj
 ·obtain ⟨z, hz, rfl⟩ := Qi0.1 hrm
  rw [(h z hz).all d hd] at hj; cases hj
theorem Qht {us : List UR} {eu ec eg : Nat} {L : List Int} {J : Int} {b4 b64 : Box} {n i k : Nat} (h : Prog n us i k) (hi : i < us.length) (hk : k < us[i].cs.length) {zx : CR} (hv : Me zx.v) (hrow : zx.x.sid = [] /\ zx.y.sid = [64] /\ zx.z.sid = []) (hb4 : b4.pr = true) (h64 : b64.pr = true) (hve : zx.v = us[i].cs[k].v) :
  Fam ((500001 + i, ⟨(us[i].cs.map dCR).set k (dCR zx), 8, ec, false⟩) :: (64, b64) :: wA us eu ec eg L J b4) 12 500000 eu ec (H5 us i k zx) /\ Closed ((500001 + i, ⟨(us[i].cs.map dCR).set k (dCR zx), 8, ec, false⟩) :: (64, b64) :: wA us eu ec eg L J b4) := by
 refine ⟨⟨by decide, ⟨false, ?_⟩, fun y hy => ?_, fun y hy => ?_, fun y hy => by
  obtain ⟨b, hb⟩ := h.ul
  refine hb.vs (shp y) ?_
  rw [<- R0 hi hk hve]; exact Qi0.2 ⟨y, hy, rfl⟩⟩, ?_⟩
 ·rw [Ql, if_neg Wa, Ql, if_neg Wg, N8, DS]
 ·obtain ⟨j, hj, rfl⟩ := Qi8 hy
  have hK' := FU (i := i) (k := k) (z := zx) h.keys
  have hj' := hj
  rw [ZD] at hj'
  refine ⟨by rw [hK' j hj]; omega, ?_⟩
  rw [hK' j hj]
  by_cases e : i = j
  ·subst e
   refine ⟨false, ?_⟩
   rw [QD, JC hj', if_pos rfl, F1, List.map_set]
  ·refine ⟨true, ?_⟩
   rw [Ql, if_neg Wa, Ql, if_neg Wa, G9 h.keys hj', JC hj', if_neg e]
 ·obtain ⟨j, hj, rfl⟩ := Qi8 hy
  have hj' := hj
  rw [ZD] at hj'
  rw [JC hj']
  have hfam := h.fam us[j] (QiR _)
  split
  ·refine ⟨by simpa [F1] using hfam.1, fun z hz => ?_⟩
   rcases Ng hz with rfl | hz
   ·exact hv
   ·exact hfam.2 z hz
  ·exact hfam
 ·refine ((JE h.keys hb4).pr h64).cons fun j hj => ?_
  have := Lv (e := 8) (t := ec) (k := k) (row := dCR zx) (fun z hz => (h.pure hi z hz).1) (fun d hd j hj => by
   simp only [dCR, QiO, QiN, or_false] at hd
   rcases hd with rfl | rfl | rfl | rfl | rfl | rfl | rfl | rfl
   ·cases hj
   ·cases hj
   ·cases hj
   ·cases hj
   ·cases hj
   ·rw [hrow.1] at hj; cases hj
   ·rw [hrow.2.1] at hj; simpa using hj
   ·rw [hrow.2.2] at hj; cases hj) j hj
  subst this; exact QY
theorem Prog.start {us : List UR} (h : UnitsIn us) (h2 : 2 <= us.length) (h11 : us.length <= 11) (hul : ∃ b, UL b (us.map shp)) : Prog us.length us 0 0 := by
 refine ⟨h.keys, ⟨rfl, h2, h11⟩, fun u hu => (h.fresh u hu).1, fun j hj m hm hd => Wa, fun j hj m hm _ => ?_, hul⟩
 obtain ⟨v, sh, e, hv⟩ := (h.fresh _ (QiR hj)).2 _ (QiR hm)
 exact ⟨v, sh, e, hv⟩
theorem F5 {n : Nat} {m : Int} {v : Vr} {sh : Int} {ns : List (List WantT)} (hv : Me v) (h : Mb n m ns) (hm : m <= 3) : JM n ⟨v, sh, ns, []⟩ :=
 ⟨hv, by show ns.length <= 10; have := h.1; omega, fun r hr => ⟨(h.2 r hr).1, fun x hx => ((h.2 r hr).2 x hx).w⟩, QiY _, fun x hx => by cases hx⟩
theorem SD {n i : Nat} {m : Int} {v : Vr} {sh : Int} {ns : List (List WantT)} (hv : Me v) (h : Mb n m ns) (hm : m <= 3) (h1 : 2 <= i) (hmm : Xz (exV v) = true) (hi : i < n) : JM n ⟨v, sh, [⟨(i : Int) - 1, Xa v.a v.b v.c v.p v.q⟩] :: ns, []⟩ := by
 refine ⟨hv, by show (_ :: ns).length <= 10; have := h.1; simp only [List.length_cons]; omega, fun r hr => ?_, QiY _, fun x hx => by cases hx⟩
 rcases QiO.1 hr with rfl | hr
 ·refine ⟨by simp, fun x hx => ?_⟩
  simp only [QiV] at hx; subst hx
  have := Gd (a := v.a) (b := v.b) (c := v.c) (q := v.q) hv.1
  exact ⟨by show 0 < (i : Int) - 1; omega, by show (i : Int) - 1 < n; omega, ⟨this.1.up Wa, this.2.up Wa⟩, hmm⟩
 ·exact ⟨(h.2 r hr).1, fun x hx => ((h.2 r hr).2 x hx).w⟩
theorem SC {n : Nat} {v : Vr} {sh : Int} {ns : List (List WantT)} (h : JM n ⟨v, sh, ns, []⟩) {x : WantT} (hx : WantMay n x) : JM n ⟨v, sh, ns, [x]⟩ := ⟨h.v, h.nl, h.nr, by simp, by intro y hy; simp only [QiV] at hy; subst hy; exact hx.w⟩
theorem Tp {us : List UR} {i k : Nat} {z : CR} (hi : i < us.length) (hk : k < us[i].cs.length) {us2 : List UR} (e : H5 us i k z = us2) (hi2 : i < us2.length) : k < us2[i].cs.length := by
 rw [<- Kk hi2, <- e, JZ, Kk hi]; exact hk
theorem QcO {l : List (List WantT)} : ∀ r ∈ l.map (fun r => [Q1 r]), r.length = 1 := fun r hr => by obtain ⟨x, _, rfl⟩ := Qi0.1 hr; rfl
end M25
namespace M25
open Go Go.Abs M3
/-! ### Trails that may be -/
open Go Go.Abs M3
/-! ### What every program says -/
/-! ### A world's facts, and more -/
open Go Go.Abs M3
/-! ### Powers of two -/
/-! ### Steps that may be: the program's -/
/-! ### Deciding -/
open Go Go.Abs M3
/-! ### Back, Sure, When -/
/-! ### What valid trails are -/
/-! ### Levels -/
open Go Go.Abs M3
def QaO {α : Type} (p : α -> Bool) (l : List α) : Int := match l.findIdx? p with
 | some i => i
 | none => -1
theorem J5 {α : Type} {p : α -> Bool} {l : List α} {i : Nat} (h : i < l.length) (ha : (l.take i).any p = false) (hp : p l[i] = true) : QaO p l = i := by
 have e : l.findIdx? p = some i := by
  rw [List.findIdx?_eq_some_iff_getElem]
  refine ⟨h, hp, fun j hj => ?_⟩
  have := List.any_eq_false.1 ha l[j] (by
   rw [List.mem_take_iff_getElem]
   exact ⟨j, Wa, rfl⟩)
  simpa using this
 rw [QaO, e]
theorem Qcz {α : Type} {p : α -> Bool} {l : List α} {i : Nat} (h : l.length <= i) (ha : (l.take i).any p = false) : QaO p l = -1 := by
 have e : l.findIdx? p = none := by
  rw [List.findIdx?_eq_none_iff]
  rw [Qi2 h] at ha
  intro x hx
  simpa using List.any_eq_false.1 ha x hx
 rw [QaO, e]
theorem BJ {α : Type} (p : α -> Bool) (l : List α) : decide (QaO p l >= 0) = l.any p := by
 cases e : l.findIdx? p with
 | none =>
  rw [QaO, e]
  rw [List.findIdx?_eq_none_iff] at e
  have : l.any p = false := List.any_eq_false.2 fun x hx => by simpa using e x hx
  rw [this]; rfl
 | some i =>
  rw [QaO, e]
  rw [List.findIdx?_eq_some_iff_getElem] at e
  obtain ⟨h, hp, _⟩ := e
  rw [TL h hp]
  simp
/-! ### The first row of lefts -/
open Go Go.Abs M3
/-! ### When, Se by Se -/
/-! ### The PC world -/
end M25
namespace M25
open Go Go.Abs M3
/-! ### What a run is: steps, one open after the other -/
inductive CN (w : Qt) (db : List (List Ye)) : List KJ -> List KJ -> Prop
 | nil (l : List KJ) : CN w db l l
 | cons {l x : List KJ} (a k : Nat) (ho : QeG w db l a k) (h : CN w db (l ++ [Qhs w l ((db[a]'ho.ha)[k]'ho.hk) a]) x) : CN w db l x
section
variable {w : Qt} {db : List (List Ye)}
def Below (w : Qt) (b l : List KJ) : Prop := ∀ u i, tb (Py w b u) i = true -> tb (Py w l u) i = true
theorem Below.refl (l : List KJ) : Below w l l := fun _ _ h => h
/-! ### Sound: a choice stays -/
end
end M25
namespace M25
open Go Go.Abs M3
end M25
namespace M25
open Go Go.Abs M3
/-! ### More of runs -/
open Go Go.Abs M3
/-! ### The facts in another order -/
open Go Go.Abs M3
/-! ### How long a run is -/
structure Good (w : Qt) (l : List KJ) : Prop where
 p : QeH w l
 nz : ∀ u, inW w u = true -> Py w l u ≠ 0
 le : ∀ u i, tb (Py w l u) i = true -> tb (XZ w u) i = true
open Go Go.Abs M3
/-! ### Masks are of values that there are -/
/-! ### Each Se of a run -/
end M25
namespace M25
open Go Go.Abs M3
open Go Go.Abs M3
/-! ### Derive again -/
/-! ### Sure, and what holds -/
open Go Go.Abs M3
/-! ### The choice that a trail has decided -/
end M25
namespace Go.Proofs
open Go Go.Abs M3 M25
open Go Go.Abs M3 M25
theorem HR {s : St} {args : List Opd} {kg : Nat} {L : List Int} {I n : Int} {et : Nat} (ha : Zo s args = some [.ref kg 0 0, .int .i64 n]) (hg : lk s.H kg = some (gB L I et)) (hL : ∀ x ∈ L, I64 x) (hn : n <= 9223372036854775807) : Hg Tryz.prog 33 args s [(kg, gB L I et)] [] [(kg, gB L (nxI I) et)] (.int .i64 (nx L I n)) := by
 refine LS (b' := gB L (nxI I) et) (ds' := [.ref (upN kg) 0 0, .int .i64 n]) ha (fun j x h => ?_) (fun k b hk j hj => ?_) (fun x hx j hj => ?_) ?_ Z Z Z Z ?_
 ·obtain ⟨rfl, rfl⟩ := Ja h; exact hg
 ·obtain ⟨rfl, rfl⟩ := Ja hk; simp [Box.ids, gB] at hj
 ·simp only [QiO, QiN, or_false] at hx
  rcases hx with rfl | rfl
  ·simp [D.ids, D.sid] at hj; subst hj; rw [QD]; rfl
  ·simp [D.ids, D.sid] at hj
 ·rw [QD]; rfl
 ·exact XN (by unfold upN; omega) hL hn et
theorem _root_.Wi {p : Prop} (h : p := by first | decide | omega) : p := h
theorem _root_.Ww {p : Prop} (h : p := by simp [Dr.ok, HD]) : p := h
theorem _root_.Wl {p : Prop} (h : p := by repeat (first | exact QD | refine Qm (by first | decide | omega) ?_)) : p := h
theorem Fh {H : QiJ} {kg kc : Nat} {L : List Int} {I : Int} {eg ec : Nat} {pr : Bool} {zs : List CR} (hkg : 1000000 <= kg) (hg : lk H kg = some (gB L I eg)) (hc : lk H kc = some ⟨zs.map dCR, 8, ec, pr⟩) (hne : kg ≠ kc) (hB : Big H) (hC : Closed H) (hL : ∀ x ∈ L, I64 x) (hz : ∀ z ∈ zs, Me z.v) (hn : zs.length <= 16) (hvs : VsOk zs) : ∃ d H2, (∃ s I2, SetMay s /\ d = Mx s /\ H2 = (kg, gB L I2 eg) :: H) /\ OkH Tryz.prog 67 [.ref kg 0 0, .osl kc zs.length] H d H2 := by
 have hkc := hB _ _ hc
 refine OkH.ofX (R := fun d H2 => ∃ s I2, SetMay s /\ d = Mx s /\ H2 = (kg, gB L I2 eg) :: H) ZL Tryz.func67 Qif (QiM Z) ?_
 show TX _ _ tf67.body _ _
 refine Zr fun K hK => ?_
 refine Zz (by repeat (first | exact hB.none Wg | refine Zx Wi ?_)) ?_
 refine hK _ _ (Q3 (kp3 Z Z Z) ?_)
 refine Zr fun K hK => Qa Z (YH (HR (I := I) Z (Qm Wa hg) hL Wa) (Qa Z (hK _ _ (Q3 (kp4 Z Z Z Z) ?_))))
 refine Zr fun K hK => Qv (Z8) Z Z (.inl Z) ?_
 refine Zz (by repeat (first | exact hB.none Wg | refine Zx Wi ?_)) ?_
 refine QZ Z Z Z Z Z Z Z Z (hK _ _ (Q3 (kp5 Z Z Z Z Z) ?_))
 refine JG ?_ -- 0
 refine Zr fun K hK => Qa Z (hK _ _ (Q3 (kp6 Z Z Z Z Z Z) ?_))
 refine Xg ?_
 refine Mf (ι := Nat × F0) (fun ⟨i, s⟩ => ⟨[(0, .ref kg 0 0), (1, .osl kc zs.length), (4, .ref 4 0 0), (5, .int .i64 (nx L I 8)), (6, .ref 6 0 0), (7, .int .i64 i)], [(4, ⟨[[.fsl [], .fsl []]], 2, 66, true⟩), (6, ⟨[[Zm s.1, Zm s.2]], 2, 66, true⟩), (kg, gB L (nxI I) eg)] ++ H⟩) (fun ⟨i, s⟩ => (i <= zs.length /\ Cb (bnd i - 4) s) /\ ∃ L, L.Sublist ((zs.map CR.v).take i) /\ s = SN L) (fun ⟨i, s⟩ => zs.length - i) (0, ([], [])) ?_ ?_ ?_
 ·exact MK (l := [0, 1, 4, 5, 6, 7]) (B := [_, _, _, _]) (kp6 rfl rfl rfl rfl rfl rfl) rfl (by intro p hp; simp only [QiO, QiN, or_false] at hp; rcases hp with rfl | rfl | rfl <;> exact ⟨by repeat (first | exact QD | refine Qm Wi ?_), rfl⟩) rfl (by intro p hp h; simp only [QiO, QiN, or_false] at hp; rcases hp with rfl | rfl | rfl | rfl <;> first | (simp only at h; omega) | (repeat (first | exact QY | refine QU ?_))) hB hC (by intro p hp k hk; simp only [QiO, QiN, or_false] at hp; rcases hp with rfl | rfl | rfl | rfl | rfl | rfl <;> first | (simp [D.ids, D.sid, Q1, Q8, QS] at hk; done) | (simp [D.ids, D.sid, Q1, Q8, QS] at hk; subst hk; repeat (first | exact QY | exact Zv hg | exact Zv hc | refine QU ?_)))
 ·exact ⟨⟨QiY _, SmN.nil _, SmN.nil _⟩, [], List.nil_sublist _, rfl⟩
 intro ⟨i, s⟩ hI
 dsimp only at hI
 have hb16 := Qcs (i := i) Wa
 dsimp only
 refine JG ?_ -- 1
 refine Zr fun K hK => mv2 Z Z (Zd Z Z (ZT Z Z (hK _ _ (Q3 (kp7 Z Z Z Z Z Z Z) ?_))))
 refine Xu Z (fun h1 => ?_) (fun h1 => ?_)
 ·rw [h1]
  simp only [qA] at h1
  refine XL (Ze (kp6 Z Z Z Z Z Z) ?_)
  refine JG ?_ -- 2
  refine Xg (Zr fun K hK => mv2 Z Z (Sl Z (D3 Wa Wa) (QeO Z Z Wa (Md Z Z (Yw Z Z (hK _ _ (Q3 (kp7 Z Z Z Z Z Z Z) ?_)))))))
  refine Xu Z (fun h2 => ?_) (fun h2 => ?_)
  ·rw [h2]
   simp only [qA] at h2
   have hvp := (hz _ (QiR (Wa : i < zs.length))).1
   refine Z3 fun K hK => QL (ds0 := [1, 0]) (cs := [_, _]) Z Z Z Z Ww Z (mv2 Z Z (Fa (ds0 := [4, 3, 2, 1, 0]) Z Z (Qm Wa (Qm Wa (Qm Wa hc))) Wd Wa Wa Z Ww Z (Qe Z (Zv (Qm Wa (Qm Wa (Qm Wa hc)))) (QL (ds0 := [2, 1, 0]) (cs := [_, _, _, _, _]) Z (Ym (Qm Wa (Qm Wa (Qm Wa hc))) (Q6 Wa)) Z Z Ww Z (Q5 (ds0 := [1, 0]) (X6 (hz _ (QiR Wa)).1 (hz _ (QiR Wa)).2) Z Z (.inl Z) Ww Z (Q5 (ds0 := [0]) (F3 (a := s) (b := (Xa (zs[i]'Wa).v.a (zs[i]'Wa).v.b (zs[i]'Wa).v.c (zs[i]'Wa).v.p (zs[i]'Wa).v.q)) (hI.1.2.1.sm Wa) (hI.1.2.2.sm Wa) ((Gd hvp).1.sm Wa) ((Gd hvp).2.sm Wa) (by have := hI.1.2.1.1; have := (Gd (a := (zs[i]'Wa).v.a) (b := (zs[i]'Wa).v.b) (c := (zs[i]'Wa).v.c) (q := (zs[i]'Wa).v.q) hvp).1.1; omega) (by have := hI.1.2.2.1; have := (Gd (a := (zs[i]'Wa).v.a) (b := (zs[i]'Wa).v.b) (c := (zs[i]'Wa).v.c) (q := (zs[i]'Wa).v.q) hvp).2.1; omega)) Z Z (.inl Z) Ww Z (YR (ds0 := []) Z Z Z Z Z Z Z Z Ww Z (hK _ ?_))))))))
   refine Qh (Ze (kp6 Z Z Z Z Z Z) (Z3 fun K hK => Qa Z (Q2 Z Z Wb (Qa Z (hK _ ?_)))))
   refine Qk (i + 1, QaP s (Xa (zs[i]'Wa).v.a (zs[i]'Wa).v.b (zs[i]'Wa).v.c (zs[i]'Wa).v.p (zs[i]'Wa).v.q)) ?_ ?_ ?_
   ·exact MK (l := [0, 1, 4, 5, 6, 7]) (B := [_, _, _, _]) (kp6 rfl rfl rfl rfl rfl rfl) rfl (by intro p hp; simp only [QiO, QiN, or_false] at hp; rcases hp with rfl | rfl | rfl <;> exact ⟨by repeat (first | exact QD | refine Qm Wi ?_), rfl⟩) rfl (by intro p hp h; simp only [QiO, QiN, or_false] at hp; rcases hp with rfl | rfl | rfl | rfl <;> first | (simp only at h; omega) | (repeat (first | exact QY | refine QU ?_))) hB hC (by intro p hp k hk; simp only [QiO, QiN, or_false] at hp; rcases hp with rfl | rfl | rfl | rfl | rfl | rfl <;> first | (simp [D.ids, D.sid, Q1, Q8, QS] at hk; done) | (simp [D.ids, D.sid, Q1, Q8, QS] at hk; subst hk; repeat (first | exact QY | exact Zv hg | exact Zv hc | refine QU ?_)))
   ·exact ⟨⟨by show i + 1 <= _; omega, Qfy hI.1.2 (hz _ (QiR Wa)).1 Wa⟩, by obtain ⟨L, hL, hs⟩ := hI.2; exact ⟨_, Qhg Wa hL, by rw [Qbl, <- hs]; rfl⟩⟩
   ·show zs.length - (i + 1) < zs.length - i; omega
  ·rw [h2]
   simp only [qA] at h2
   have hvp := (hz _ (QiR (Wa : i < zs.length))).1
   refine XL (Qh (Ze (kp6 Z Z Z Z Z Z) (Z3 fun K hK => Qa Z (Q2 Z Z Wb (Qa Z (hK _ ?_))))))
   refine Qk (i + 1, s) ?_ ?_ ?_
   ·exact MK (l := [0, 1, 4, 5, 6, 7]) (B := [_, _, _]) (kp6 rfl rfl rfl rfl rfl rfl) rfl (by intro p hp; simp only [QiO, QiN, or_false] at hp; rcases hp with rfl | rfl | rfl <;> exact ⟨by repeat (first | exact QD | refine Qm Wi ?_), rfl⟩) rfl (by intro p hp h; simp only [QiO, QiN, or_false] at hp; rcases hp with rfl | rfl | rfl <;> first | (simp only at h; omega) | (repeat (first | exact QY | refine QU ?_))) hB hC (by intro p hp k hk; simp only [QiO, QiN, or_false] at hp; rcases hp with rfl | rfl | rfl | rfl | rfl | rfl <;> first | (simp [D.ids, D.sid, Q1, Q8, QS] at hk; done) | (simp [D.ids, D.sid, Q1, Q8, QS] at hk; subst hk; repeat (first | exact QY | exact Zv hg | exact Zv hc | refine QU ?_)))
   ·exact ⟨⟨by show i + 1 <= _; omega, Qcb hI.1.2⟩, by obtain ⟨L, hL, hs⟩ := hI.2; exact ⟨L, LG hL, hs⟩⟩
   ·show zs.length - (i + 1) < zs.length - i; omega
 ·rw [h1]
  simp only [qA] at h1
  refine Ns (XT (Qw (QE (Ze (kp3 Z Z Z) ?_))))
  refine JG ?_ -- 3
  refine Zr fun K hK => Qa Z (YH (HR (I := nxI I) Z (Qm Wa (Qm Wa QD)) hL Wa) (hK _ _ (Q3 (kp3 Z Z Z) ?_)))
  refine Xg (Zr fun K hK => Yw Z Z (Qa Z (hK _ _ (Q3 (kp4 Z Z Z Z) ?_))))
  refine Xu Z (fun h3 => ?_) (fun h3 => ?_)
  ·rw [h3]
   simp only [qA] at h3
   refine Zr fun K hK => Qv (JY) Z Z (.inl Z) (QZ Z (Qm Wa Z) Z Z Z Z Z Z (hK _ _ (Q3 (kp1 Z) ?_)))
   refine Sq (Qu (DR ?_))
   refine ⟨Mx Mj, (kg, gB L (nxI (nxI I)) eg) :: H, ⟨Mj, _, ⟨⟨LQ.1.up Wa, LQ.2.up Wa⟩, Qc9⟩, rfl, rfl⟩, (XI hB hC hkg rfl).1, (XI hB hC hkg rfl).2, ?_⟩
   refine Gp (cs := [Zm Mj.1, Zm Mj.2]) Z (Ym Wl Z) Z Z Z ?_
   exact J6 (B := [_, _, _, _, _]) hB Wl (by intro p hp h; simp only [QiO, QiN, or_false] at hp; rcases hp with rfl | rfl | rfl | rfl | rfl <;> first | rfl | (simp only at h; omega))
  ·rw [h3]
   simp only [qA] at h3
   refine Zr fun K hK => Yw Z Z (Qa Z (hK _ _ (Q3 (kp3 Z Z Z) ?_)))
   refine Xu Z (fun h4 => ?_) (fun h4 => ?_)
   ·rw [h4]
    simp only [qA] at h4
    refine Zr fun K hK => Qz (cs := [_, _]) Z (Ym (Qm Wa Z) Z) Z Z (Qv (Fm (a := s) (hI.1.2.1.sm Wa) (hI.1.2.2.sm Wa)) Z Z (.inl Z) (QZ Z (Qm Wa Z) Z Z Z Z Z Z (hK _ _ (Q3 (kp1 Z) ?_))))
    refine Sq (Qu (DR ?_))
    refine ⟨Mx (MV s), (kg, gB L (nxI (nxI I)) eg) :: H, ⟨(MV s), _, ⟨⟨(B6 hI.1.2 Wa).1.up Wa, (B6 hI.1.2 Wa).2.up Wa⟩, by obtain ⟨L, hL, hs⟩ := hI.2; rw [hs]; exact (VsL.fold hvs (hL.trans (List.take_sublist _ _))).2⟩, rfl, rfl⟩, (XI hB hC hkg rfl).1, (XI hB hC hkg rfl).2, ?_⟩
    refine Gp (cs := [Zm (MV s).1, Zm (MV s).2]) Z (Ym Wl Z) Z Z Z ?_
    exact J6 (B := [_, _, _, _, _]) hB Wl (by intro p hp h; simp only [QiO, QiN, or_false] at hp; rcases hp with rfl | rfl | rfl | rfl | rfl <;> first | rfl | (simp only at h; omega))
   ·rw [h4]
    simp only [qA] at h4
    refine XL (Qh (Ze (kp2 Z Z) (Zr fun K hK => Qz (cs := [_, _]) Z (Ym (Qm Wa Z) Z) Z Z (QZ Z (Qm Wa Z) Z Z Z Z Z Z (hK _ _ (Q3 (kp1 Z) ?_))))))
    refine Sq ?_
    refine ⟨Mx s, (kg, gB L (nxI (nxI I)) eg) :: H, ⟨s, _, ⟨⟨hI.1.2.1.up Wa, hI.1.2.2.up Wa⟩, by obtain ⟨L, hL, hs⟩ := hI.2; rw [hs]; exact (VsL.fold hvs (hL.trans (List.take_sublist _ _))).1⟩, rfl, rfl⟩, (XI hB hC hkg rfl).1, (XI hB hC hkg rfl).2, ?_⟩
    refine Gp (cs := [Zm s.1, Zm s.2]) Z (Ym Wl Z) Z Z Z ?_
    exact J6 (B := [_, _, _, _, _]) hB Wl (by intro p hp h; simp only [QiO, QiN, or_false] at hp; rcases hp with rfl | rfl | rfl | rfl | rfl <;> first | rfl | (simp only at h; omega))
open Go Go.Abs M3 M25
/-- The call of 'set', over boxes that are lent. -/
theorem Qgl {H : QiJ} {kg kc : Nat} {L : List Int} {I : Int} {eg ec : Nat} {pr : Bool} {zs : List CR} (hg : lk H kg = some (gB L I eg)) (hc : lk H kc = some ⟨zs.map dCR, 8, ec, pr⟩) (hne : kg ≠ kc) (hC : Closed H) (hL : ∀ x ∈ L, I64 x) (hz : ∀ z ∈ zs, Me z.v) (hn : zs.length <= 16) (hvs : VsOk zs) :
  ∃ s I2, SetMay s /\ ∀ (st : St) (args : List Opd), Zo st args = some [.ref kg 0 0, .osl kc zs.length] -> (∀ j x, lk H j = some x -> lk st.H j = some x) -> Hg Tryz.prog 67 args st H [] [(kg, gB L I2 eg)] (Mx s) := by
 obtain ⟨d, H2, ⟨s, I2, hs, rfl, rfl⟩, hok⟩ := Fh (H := upH H) (kg := upN kg) (kc := upN kc) (L := L) (I := I) (eg := eg) (ec := ec) (pr := pr) (zs := zs.map CR.ren) (by unfold upN; omega) (by rw [J7, hg]; rfl) (by rw [J7, hc, Option.map_some, Box.ren, Bb]) (fun e => hne (R7 e)) LD (Np hC) hL
  (fun z hz' => by obtain ⟨z0, h0, rfl⟩ := Qi0.1 hz'; exact hz z0 h0) (by simpa using hn) hvs.ren
 refine ⟨s, I2, hs, fun st args ha hF => LS (b' := gB L I2 eg) (ds' := [.ref (upN kg) 0 0, .osl (upN kc) zs.length]) ha hF hC (fun x hx j hj => ?_) (Zv hg) Z Z Z Z ?_⟩
 ·simp only [QiO, QiN, or_false] at hx
  rcases hx with rfl | rfl
  ·simp [D.ids, D.sid] at hj; subst hj; exact Zv hg
  ·simp [D.ids, D.sid] at hj; subst hj; exact Zv hc
 ·rw [List.length_map] at hok; exact hok
theorem GT {H : QiJ} {kg ku : Nat} {L : List Int} {I : Int} {eg eu ec : Nat} {us : List UR} (hkg : 1000000 <= kg) (hg : lk H kg = some (gB L I eg)) (hU : Fam H kg ku eu ec us) (hB : Big H) (hC : Closed H) (hL : ∀ x ∈ L, I64 x) (h2n : 2 <= us.length) (hn : us.length <= 48) : ∃ d H2, (∃ x I2, WantMay us.length x /\ d = .agg (JJ x) /\ H2 = (kg, gB L I2 eg) :: H) /\ OkH Tryz.prog 34 [.ref kg 0 0, .osl ku us.length] H d H2 := by
 obtain ⟨pu, hu⟩ := hU.u
 have hku := hB _ _ hu
 have hne := hU.ne
 have hx0 := Dp (v := SZ L (IntKind.i64.wrap (nxI I - 1))) (n := (us.length : Int) - 1)
 have hx1 := Do (v := SZ L (IntKind.i64.wrap (nxI I - 1))) (n := (us.length : Int) - 1) Wa
 change 0 <= nx L I ((us.length : Int) - 1) at hx0
 change nx L I ((us.length : Int) - 1) < _ at hx1
 obtain ⟨hyk, pr, hy⟩ := hU.c (us[(1 + nx L I ((us.length : Int) - 1)).toNat]'Wa) (QiR _)
 obtain ⟨hv1, hv2⟩ := hU.v (us[(1 + nx L I ((us.length : Int) - 1)).toNat]'Wa) (QiR _)
 obtain ⟨s, I2, hs, hcall⟩ := Qgl (H := (kg, gB L (nxI I) eg) :: H) QD (Qm (Ne.symm hyk) hy) (Ne.symm hyk) (hC.pr rfl) hL hv2 hv1 (hU.vs _ (QiR _))
 refine OkH.ofX (R := fun d H2 => ∃ x I2, WantMay us.length x /\ d = .agg (JJ x) /\ H2 = (kg, gB L I2 eg) :: H) ZL Tryz.func34 QhN (QiM Z) ?_
 show TX _ _ tf34.body _ _
 refine Zr fun K hK => ?_
 refine Zz (by repeat (first | exact hB.none Wg | refine Zx Wi ?_)) ?_
 refine hK _ _ (Q3 (kp3 Z Z Z) ?_)
 refine Zr fun K hK => mv2 Z Z (Zd Z Z (Hk Z Z Wb (YH (HR (I := I) Z (Qm Wa hg) hL Wa) (Q2 Z Z Wb (Qa Z (hK _ _ (Q3 (kp4 Z Z Z Z) ?_)))))))
 refine Zr fun K hK => Qa rfl (Qa rfl (Qa rfl (Qa rfl (KI rfl rfl (Qm Wa (Qm Wa hu)) Wd Wa Wa rfl (Qe rfl (Zv (Qm Wa (Qm Wa hu))) (QA rfl (Ym (Qm Wa (Qm Wa hu)) (Zt Wa Wa)) rfl (YH (hcall _ _ rfl (J6 (B := [_, _]) hB QD (by intro p hp h; simp only [QiO, QiN, or_false] at hp; rcases hp with rfl | rfl <;> first | rfl | (simp only at h; omega)))) (QT rfl rfl (QZ rfl (Qm Wa (Qm Wa rfl)) rfl rfl rfl rfl rfl rfl (hK _ _ (Q3 (kp1 rfl) ?_)))))))))))
 refine Sq ?_
 refine ⟨.agg (JJ ⟨1 + nx L I ((us.length : Int) - 1), s⟩), (kg, gB L I2 eg) :: H, ⟨⟨1 + nx L I ((us.length : Int) - 1), s⟩, _, ⟨⟨by show 1 <= 1 + _; omega, by show 1 + _ < (us.length : Int); omega, hs.1⟩, hs.2⟩, rfl, rfl⟩, (XI hB hC hkg rfl).1, (XI hB hC hkg rfl).2, ?_⟩
 refine Gp (cs := JJ ⟨1 + nx L I ((us.length : Int) - 1), s⟩) Z (Ym Wl Z) Z Z Z ?_
 exact J6 (B := [_, _, _, _]) hB Wl (by intro p hp h; simp only [QiO, QiN, or_false] at hp; rcases hp with rfl | rfl | rfl | rfl <;> first | rfl | (simp only at h; omega))
/-- The call of 'want'. -/
theorem DG {H : QiJ} {kg ku : Nat} {L : List Int} {I : Int} {eg eu ec : Nat} {us : List UR} (hg : lk H kg = some (gB L I eg)) (hU : Fam H kg ku eu ec us) (hC : Closed H) (hL : ∀ x ∈ L, I64 x) (h2 : 2 <= us.length) (hn : us.length <= 48) :
  ∃ x I2, WantMay us.length x /\ ∀ (st : St) (args : List Opd), Zo st args = some [.ref kg 0 0, .osl ku us.length] -> (∀ j x, lk H j = some x -> lk st.H j = some x) -> Hg Tryz.prog 34 args st H [] [(kg, gB L I2 eg)] (.agg (JJ x)) := by
 obtain ⟨d, H2, ⟨x, I2, hx, rfl, rfl⟩, hok⟩ := GT (H := upH H) (kg := upN kg) (ku := upN ku) (L := L) (I := I) (eg := eg) (eu := eu) (ec := ec) (us := us.map UR.ren) (by unfold upN; omega) (by rw [J7, hg]; rfl) hU.up LD (Np hC) hL (by simpa using h2) (by simpa using hn)
 obtain ⟨pu, hu⟩ := hU.u
 rw [List.length_map] at hx hok
 refine ⟨x, I2, hx, fun st args ha hF => LS (b' := gB L I2 eg) (ds' := [.ref (upN kg) 0 0, .osl (upN ku) us.length]) ha hF hC (fun x hx j hj => ?_) (Zv hg) Z Z Z Z hok⟩
 simp only [QiO, QiN, or_false] at hx
 rcases hx with rfl | rfl
 ·simp [D.ids, D.sid] at hj; subst hj; exact Zv hg
 ·simp [D.ids, D.sid] at hj; subst hj; exact Zv hu
open Go Go.Abs M3 M25
theorem _root_.Wq {p : Prop} (h : p := by first | (simp; done) | (simp; omega)) : p := h
theorem Gw {H : QiJ} {kg ku : Nat} {L : List Int} {I most : Int} {eg eu ec : Nat} {us : List UR} (hkg : 1000000 <= kg) (hg : lk H kg = some (gB L I eg)) (hU : Fam H kg ku eu ec us) (hB : Big H) (hC : Closed H) (hL : ∀ x ∈ L, I64 x) (h2n : 2 <= us.length) (hn : us.length <= 48) (hm0 : 0 <= most) (hm1 : most <= 10) : ∃ d H2, (∃ ns I2, Mb us.length most ns /\ d = Q8 ns /\ H2 = (kg, gB L I2 eg) :: H) /\ OkH Tryz.prog 31 [.ref kg 0 0, .osl ku us.length, .int .i64 most] H d H2 := by
 obtain ⟨pu, hu⟩ := hU.u
 have hku := hB _ _ hu
 have hne := hU.ne
 have hk0 : 0 <= nx L I (most + 1) := Dp
 have hk1 : nx L I (most + 1) < most + 1 := Do Wa
 refine OkH.ofX (R := fun d H2 => ∃ ns I2, Mb us.length most ns /\ d = Q8 ns /\ H2 = (kg, gB L I2 eg) :: H) ZL Tryz.func31 QhK (QiM Z) ?_
 show TX _ _ tf31.body _ _
 refine Zr fun K hK => Qa Z (hK _ _ (Q3 (kp3 Z Z Z) ?_))
 refine Zr fun K hK => Qa Z (hK _ _ (Q3 (kp4 Z Z Z Z) ?_))
 refine JG ?_ -- 0
 refine Zr fun K hK => mv2 Z Z (Q2 Z Z Wb (YH (HR (I := I) Z hg hL Wa) (Qa Z (hK _ _ (Q3 (kp4 Z Z Z Z) ?_)))))
 refine Xg ?_
 refine Mf (ι := Nat × List (List WantT) × Int) (fun ⟨k, ns, J⟩ => ⟨[(0, .ref kg 0 0), (1, .osl ku us.length), (7, .osl 7 ns.length), (8, .int .i64 k)], [(7, ⟨(ns).map (fun r => [Q1 r]), 1, 61, true⟩), (kg, gB L J eg)] ++ H⟩) (fun ⟨k, ns, J⟩ => (ns.length : Int) + k <= most /\ ∀ r ∈ ns, Sp us.length r) (fun ⟨k, ns, J⟩ => k) ((nx L I (most + 1)).toNat, [], nxI I) ?_ ?_ ?_
 ·exact le_trans (Yn 7 7 1 61 rfl (by repeat (first | exact hB.none Wg | refine Zx Wi ?_))) (MK (l := [0, 1, 7, 8]) (B := [_, _]) (kp4 rfl rfl rfl rfl) (by simp only [Int.toNat_of_nonneg hk0] <;> rfl) (by intro p hp; simp only [QiO, QiN, or_false] at hp; rcases hp with rfl | rfl <;> exact ⟨by repeat (first | exact QD | refine Qm Wi ?_), rfl⟩) rfl (by intro p hp h; simp only [QiO, QiN, or_false] at hp; rcases hp with rfl | rfl <;> first | (simp only at h; omega) | (repeat (first | exact QY | refine QU ?_))) hB hC (by intro p hp k hk; simp only [QiO, QiN, or_false] at hp; rcases hp with rfl | rfl | rfl | rfl <;> first | (simp [D.ids, D.sid, Q1, Q8, QS] at hk; done) | (simp [D.ids, D.sid, Q1, Q8, QS] at hk; subst hk; repeat (first | exact QY | exact Zv hg | exact Zv hu | refine QU ?_))))
 ·exact ⟨by simp only [List.length_nil]; omega, by simp⟩
 intro ⟨k, ns, J⟩ hI
 dsimp only at hI
 dsimp only
 refine JG ?_ -- 1
 refine Zr fun K hK => Qa Z (Kr Z Z (hK _ _ (Q3 (kp5 Z Z Z Z Z) ?_)))
 refine Xu Z (fun h1 => ?_) (fun h1 => ?_)
 ·rw [h1]
  simp only [qA] at h1
  refine XL (Ze (kp4 Z Z Z Z) ?_)
  refine JG ?_ -- 2
  refine Xg (Zr fun K hK => mv2 Z Z ?_)
  obtain ⟨x1, J1, hx1, hc1⟩ := DG (I := J) (H := (kg, gB L (J) eg) :: H) QD hU.cons (hC.pr rfl) hL h2n hn
  refine YH (hc1 _ _ rfl (J6 (B := [_, _]) hB Wl (by intro p hp h; simp only [QiO, QiN, or_false] at hp; rcases hp with rfl | rfl <;> first | rfl | (simp only at h; omega)))) ?_
  refine QK Z (by repeat (first | exact hB.none Wg | refine Zx Wi ?_)) ?_
  refine Qa Z (hK _ _ (Q3 (kp5 Z Z Z Z Z) ?_))
  refine QeV (ι := List WantT × Int) (fun ⟨r, J4⟩ => ⟨[(0, .ref kg 0 0), (1, .osl ku us.length), (7, .osl 7 ns.length), (8, .int .i64 k), (9, Q1 r)], [(7, ⟨(ns).map (fun r => [Q1 r]), 1, 61, true⟩), (kg, gB L J4 eg)] ++ H⟩) (fun ⟨r, J4⟩ => Sp us.length r) ?_ ?_
  ·skip
   refine Zr fun K hK => Qa Z (YH (HR (I := J1) Z (Qm Wa QD) hL Wa) (Yw Z Z (hK _ _ (Q3 (kp6 Z Z Z Z Z Z) ?_))))
   refine Xu Z (fun h2 => ?_) (fun h2 => ?_)
   ·rw [h2]
    simp only [qA] at h2
    refine Z3 fun K hK => mv2 Z Z (Qa Z ?_)
    obtain ⟨x2, J2, hx2, hc2⟩ := DG (I := nxI J1) (H := (kg, gB L (nxI J1) eg) :: H) QD hU.cons (hC.pr rfl) hL h2n hn
    refine YH (hc2 _ _ rfl (J6 (B := [_, _, _, _, _]) hB Wl (by intro p hp h; simp only [QiO, QiN, or_false] at hp; rcases hp with rfl | rfl | rfl | rfl | rfl <;> first | rfl | (simp only at h; omega)))) ?_
    refine QK Z (by repeat (first | exact hB.none Wg | refine Zx Wi ?_)) ?_
    refine Qc0 Z Z Wp ⟨_, rfl, rfl, rfl, rfl, rfl⟩ (by repeat (first | exact hB.none Wg | refine Zx Wi ?_)) (Qm Wg (Qm Wa (Qm Wa Z))) Z Z Z Wd Wd ?_
    refine Qa Z (hK _ ?_)
    refine Zc ([x1, x2], J2) ?_ ?_
    ·exact le_trans (Lc (l := [0, 1, 7, 8]) (B := [_, _, _, _, _, _, _, _, _]) (A := [(7, ⟨(ns).map (fun r => [Q1 r]), 1, 61, true⟩), (kg, gB L J2 eg)]) 30 9 (kp4 rfl rfl rfl rfl) rfl rfl rfl Wq (by intro p hp hk; simp only [QiO, QiN, or_false] at hp; rcases hp with rfl | rfl | rfl | rfl <;> first | (simp [D.ids, D.sid, Q1, Q8, QS] at hk; done) | (simp [D.ids, D.sid, Q1, Q8, QS] at hk; omega)) (by intro p hp; simp only [QiO, QiN, or_false] at hp; rcases hp with rfl | rfl <;> exact ⟨by first | decide | (simp only; omega), by repeat (first | exact QD | refine Qm Wi ?_), rfl⟩) (by intro p hp h; simp only [QiO, QiN, or_false] at hp; rcases hp with rfl | rfl | rfl | rfl | rfl | rfl | rfl | rfl | rfl <;> first | (simp only at h; omega) | (repeat (first | exact QY | refine QU ?_))) hB hC (by intro p hp k hk; simp only [QiO, QiN, or_false] at hp; rcases hp with rfl | rfl | rfl | rfl <;> first | (simp [D.ids, D.sid, Q1, Q8, QS] at hk; done) | (simp [D.ids, D.sid, Q1, Q8, QS] at hk; subst hk; repeat (first | exact QY | exact Zv hg | exact Zv hu | refine QU ?_)))) (MK (l := [0, 1, 7, 8, 9]) (B := [_, _]) (kp5 rfl rfl rfl rfl rfl) rfl (by intro p hp; simp only [QiO, QiN, or_false] at hp; rcases hp with rfl | rfl <;> exact ⟨by repeat (first | exact QD | refine Qm Wi ?_), rfl⟩) rfl (by intro p hp h; simp only [QiO, QiN, or_false] at hp; rcases hp with rfl | rfl <;> first | (simp only at h; omega) | (repeat (first | exact QY | refine QU ?_))) hB hC (by intro p hp k hk; simp only [QiO, QiN, or_false] at hp; rcases hp with rfl | rfl | rfl | rfl | rfl <;> first | (simp [D.ids, D.sid, Q1, Q8, QS] at hk; done) | (simp [D.ids, D.sid, Q1, Q8, QS] at hk; subst hk; repeat (first | exact QY | exact Zv hg | exact Zv hu | refine QU ?_))))
    ·exact Qd5 hx1 hx2
   ·rw [h2]
    simp only [qA] at h2
    refine XL ?_
    refine Zc ([x1], nxI J1) ?_ ?_
    ·exact le_trans (Lc (l := [0, 1, 7, 8]) (B := [_, _, _, _, _]) (A := [(7, ⟨(ns).map (fun r => [Q1 r]), 1, 61, true⟩), (kg, gB L (nxI J1) eg)]) 21 9 (kp4 rfl rfl rfl rfl) rfl (Qm Wa rfl) rfl Wq (by intro p hp hk; simp only [QiO, QiN, or_false] at hp; rcases hp with rfl | rfl | rfl | rfl <;> first | (simp [D.ids, D.sid, Q1, Q8, QS] at hk; done) | (simp [D.ids, D.sid, Q1, Q8, QS] at hk; omega)) (by intro p hp; simp only [QiO, QiN, or_false] at hp; rcases hp with rfl | rfl <;> exact ⟨by first | decide | (simp only; omega), by repeat (first | exact QD | refine Qm Wi ?_), rfl⟩) (by intro p hp h; simp only [QiO, QiN, or_false] at hp; rcases hp with rfl | rfl | rfl | rfl | rfl <;> first | (simp only at h; omega) | (repeat (first | exact QY | refine QU ?_))) hB hC (by intro p hp k hk; simp only [QiO, QiN, or_false] at hp; rcases hp with rfl | rfl | rfl | rfl <;> first | (simp [D.ids, D.sid, Q1, Q8, QS] at hk; done) | (simp [D.ids, D.sid, Q1, Q8, QS] at hk; subst hk; repeat (first | exact QY | exact Zv hg | exact Zv hu | refine QU ?_)))) (MK (l := [0, 1, 7, 8, 9]) (B := [_, _]) (kp5 rfl rfl rfl rfl rfl) rfl (by intro p hp; simp only [QiO, QiN, or_false] at hp; rcases hp with rfl | rfl <;> exact ⟨by repeat (first | exact QD | refine Qm Wi ?_), rfl⟩) rfl (by intro p hp h; simp only [QiO, QiN, or_false] at hp; rcases hp with rfl | rfl <;> first | (simp only at h; omega) | (repeat (first | exact QY | refine QU ?_))) hB hC (by intro p hp k hk; simp only [QiO, QiN, or_false] at hp; rcases hp with rfl | rfl | rfl | rfl | rfl <;> first | (simp [D.ids, D.sid, Q1, Q8, QS] at hk; done) | (simp [D.ids, D.sid, Q1, Q8, QS] at hk; subst hk; repeat (first | exact QY | exact Zv hg | exact Zv hu | refine QU ?_))))
    ·exact Qd4 hx1
  intro ⟨r, J4⟩ hJ
  dsimp only at hJ
  dsimp only
  refine Z3 fun K hK => mv2 Z Z ?_
  refine QK Z (by repeat (first | exact hB.none Wg | refine Zx Wi ?_)) ?_
  refine XK Z Z (fun _ h => Xt Z Z Z h) Z Wd Z Z Z Wf Wf (Qa Z (hK _ ?_))
  refine Qh (Ze (kp4 Z Z Z Z) (Z3 fun K hK => Qa Z (Hk Z Z Wb (Qa Z (hK _ ?_)))))
  refine Qk (k - 1, ns ++ [r], J4) ?_ ?_ ?_
  ·exact le_trans (Qfi (B := [_, _, _, _]) 7 hB hC) (MK (l := [0, 1, 7, 8]) (A := [(7, ⟨ns.map (fun r => [Q1 r]) ++ [[Q1 r]], 1, 61, true⟩), (kg, gB L J4 eg)]) (B := [_, _, _, _]) (kp4 rfl rfl rfl rfl) (by simp [D.scrub, show ¬ kg = 7 by omega, show ¬ ku = 7 by omega] <;> omega) (by intro p hp; simp only [QiO, QiN, or_false] at hp; rcases hp with rfl | rfl <;> exact ⟨by repeat (first | exact QD | refine Qm Wi ?_), rfl⟩) Wd (by intro p hp h; simp only [QiO, QiN, or_false] at hp; rcases hp with rfl | rfl | rfl | rfl <;> first | (simp only at h; omega) | (repeat (first | exact QY | refine QU ?_))) hB hC (by intro p hp k hk; simp only [QiO, QiN, or_false] at hp; rcases hp with rfl | rfl | rfl | rfl <;> first | (simp [D.ids, D.sid, Q1, Q8, QS] at hk; done) | (simp [D.ids, D.sid, Q1, Q8, QS] at hk; subst hk; repeat (first | exact QY | exact Zv hg | exact Zv hu | refine QU ?_))))
  ·exact ⟨by simp only [List.length_append, List.length_singleton]; omega, Qat hI.2 hJ⟩
  ·show k - 1 < k; omega
 ·rw [h1]
  simp only [qA] at h1
  refine Ns (XT (Qw (QE (Ze (kp1 Z) (Zr fun K hK => mv2 Z Z (hK _ _ (Q3 (kp1 Z) ?_)))))))
  refine Sq ?_
  refine ⟨Q8 ns, (kg, gB L J eg) :: H, ⟨ns, _, ⟨Wa, hI.2⟩, rfl, rfl⟩, (XI hB hC hkg rfl).1, (XI hB hC hkg rfl).2, ?_⟩
  refine JB Z (by simp [QaN, D.fz, D.fzS, PC, lk, D.can, D.canS, Q8]) ?_
  exact J6 (B := [_, _]) hB Wl (by intro p hp h; simp only [QiO, QiN, or_false] at hp; rcases hp with rfl | rfl <;> first | rfl | (simp only at h; omega))
open Go Go.Abs M3 M25
theorem _root_.We {p : Prop} (h : p := by repeat (first | exact QD | refine Qm (by omega) ?_)) : p := h
theorem Gx {kg : Nat} {L : List Int} {I most : Int} {eg eu ec : Nat} (heu : eu = 56) (hec : ec = 63) (hkg : 1000000 <= kg) (hL : ∀ x ∈ L, I64 x) (hm0 : 1 <= most) (hm1 : most <= 5) : ∃ d H2, (∃ us I2, (UnitsIn us /\ 2 <= us.length /\ us.length <= 11 /\ ∃ b, UL b (us.map shp)) /\ d = .osl 500000 us.length /\ H2 = ((500000, ⟨us.map dUR, 3, eu, false⟩) :: fbx ec us) ++ [(kg, gB L I2 eg), (kg, gB L I eg)]) /\ OkH Tryz.prog 30 [.ref kg 0 0, .int .i64 most] [(kg, gB L I eg)] d H2 := by
 subst heu hec
 have e3 : ¬ kg = 500000 := Wa
 have k1 := Qcf (a := 18) (b := 500000) hkg Wg Wg
 have k2 := Qcf (a := 16) (b := 500001) hkg Wg Wg
 refine OkH.ofX (R := fun d H2 => ∃ us I2, (UnitsIn us /\ 2 <= us.length /\ us.length <= 11 /\ ∃ b, UL b (us.map shp)) /\ d = .osl 500000 us.length /\ H2 = ((500000, ⟨us.map dUR, 3, 56, false⟩) :: fbx 63 us) ++ [(kg, gB L I2 eg), (kg, gB L I eg)]) ZL Tryz.func30 QhJ (QiM Z) ?_
 show TX _ _ tf30.body _ _
 refine Zr fun K hK => Qa Z (hK _ _ (Q3 (kp2 Z Z) ?_))
 refine Zr fun K hK => ?_
 refine QK Z (by repeat (first | exact Z | refine Zx Wi ?_)) ?_
 refine Qa Z (hK _ _ (Q3 (kp3 Z Z Z) ?_))
 refine CQ (Lc (l := [0, 1]) (B := [_]) (A := []) (H0 := [(kg, gB L I eg)]) 14 5 (kp2 rfl rfl) rfl rfl rfl rfl (by intro p hp hk; simp only [QiO, QiN, or_false] at hp; rcases hp with rfl | rfl <;> first | (simp [D.ids, D.sid, Q1, Q8, QS] at hk; done) | (simp [D.ids, D.sid, Q1, Q8, QS] at hk; omega)) (by intro p hp; cases hp) (by intro p hp h; simp only [QiV] at hp; subst hp; simp only at h; omega) (fun k b h => by obtain ⟨rfl, rfl⟩ := Ja h; exact hkg) (fun k b h j hj => by obtain ⟨rfl, rfl⟩ := Ja h; simp [Box.ids, gB] at hj) (by intro p hp k hk; simp only [QiO, QiN, or_false] at hp; rcases hp with rfl | rfl <;> first | (simp [D.ids, D.sid, Q1, Q8, QS] at hk; done) | (simp [D.ids, D.sid, Q1, Q8, QS] at hk; subst hk; repeat (first | exact QY | refine QU ?_)))) ?_
 refine Zr fun K hK => QT Z Z ?_
 refine QK Z (by repeat (first | exact Z | refine Zx Wi ?_)) ?_
 refine QT Z Z ?_
 refine QK Z (by repeat (first | exact Z | refine Zx Wi ?_)) ?_
 refine Qa Z (hK _ _ (Q3 (kp4 Z Z Z Z) ?_))
 refine Zr fun K hK => Qv (Xp) Z Z (.inl Z) (Qa Z (hK _ _ (Q3 (kp5 Z Z Z Z Z) ?_)))
 refine JG ?_ -- 0
 refine Zr fun K hK => Qa Z (hK _ _ (Q3 (kp6 Z Z Z Z Z Z) ?_))
 refine Xg ?_
 refine Mf (ι := List UR × Int × Nat) (fun ⟨us, J, n⟩ => ⟨[(0, .ref kg 0 0), (1, .int .i64 most), (5, .sl (YU names5)), (6, .osl 500000 us.length), (7, .sl (versions.map dVr)), (8, .int .i64 n)], [(500000, ⟨(us).map dUR, 3, 56, false⟩), (kg, gB L (J) eg)] ++ fbx 63 (us)⟩) (fun ⟨us, J, n⟩ => UnitsIn us /\ us.length <= 1 + 2 * n /\ n <= 5 /\ 1 + n <= us.length /\ UL (2 * n) (us.map shp)) (fun ⟨us, J, n⟩ => 5 - n) ([u0 v0], I, 0) ?_ ?_ ?_
 ·refine BT (l := [0, 1, 5, 6, 7, 8]) hkg (kp6 Z Z Z Z Z Z) ?_; simp only [List.map_cons, List.map_nil, D.ren, D.renS, k1, k2]; rfl
 ·exact ⟨UnitsIn.zero, by simp, Wa, by simp, UL.base⟩
 intro ⟨us, J, n⟩ hI
 dsimp only at hI
 have e1 : ¬ kg = 500001 + us.length := Wa
 have e2 : ¬ 500000 = 500001 + us.length := Wa
 have e4 : ¬ 500001 + us.length = 500000 := Wa
 have hx0 : 0 <= nx L J most := Dp
 have hx1 : nx L J most < most := Do Wa
 have hn5 := Q9
 have hv4 := Qel
 dsimp only
 refine JG ?_ -- 1
 refine Zr fun K hK => mv2 Z Z (Qa Z ?_)
 refine YH (HR (I := J) Z We hL Wa) ?_
 refine Q2 Z Z Wb (ZT Z Z (Qa Z ?_))
 refine Qp (g := 26) Z (fun h1 => ?_) (fun h1 => ?_)
 ·rw [h1]
  simp only [qA] at h1
  refine Qd Z (Qa Z (Qd Z (Qa Z (Qd Z (Zd Z QQ (Qd Z (ZT Z Z (Qg Z Z (hK _ _ (Q3 (kp7 Z Z Z Z Z Z Z) ?_))))))))))
  refine Xu Z (fun h2 => ?_) (fun h2 => ?_)
  ·rw [h2]
   simp only [qA] at h2
   refine XL (Ze (kp6 Z Z Z Z Z Z) ?_)
   refine JG ?_ -- 2
   refine Xg (Zr fun K hK => Qa Z (hK _ _ (Q3 (kp7 Z Z Z Z Z Z Z) ?_)))
   refine Zr fun K hK => Qa Z ?_
   refine YH (HR (I := nxI J) Z We hL Wa) ?_
   refine Qa Z (hK _ _ (Q3 (kp8 Z Z Z Z Z Z Z Z) ?_))
   refine JG ?_ -- 3
   refine Zr fun K hK => Qa Z (hK _ _ (Q3 (kp9 Z Z Z Z Z Z Z Z Z) ?_))
   refine Xg ?_
   refine Mf (ι := List CR × Nat) (fun ⟨cs, i⟩ => ⟨[(0, .ref kg 0 0), (1, .int .i64 most), (5, .sl (YU names5)), (6, .osl 500000 us.length), (7, .sl (versions.map dVr)), (8, .int .i64 n), (9, .osl (500001 + us.length) cs.length), (10, .int .i64 (nx L (nxI J) 16)), (11, .int .i64 i)], [(500001 + (us).length, ⟨(cs).map dCR, 8, 63, true⟩), (500000, ⟨(us).map dUR, 3, 56, false⟩), (kg, gB L (nxI (nxI J)) eg)] ++ fbx 63 (us)⟩) (fun ⟨cs, i⟩ => (i <= 4 /\ CsIn i cs) /\ (cs.map CR.v).Sublist (versions.take i)) (fun ⟨cs, i⟩ => 4 - i) ([], 0) ?_ ?_ ?_
   ·exact le_trans (Yn 9 (500001 + us.length) 8 63 rfl (by repeat (first | exact YV hI.1.keys (.inr Wa) | refine Zx Wa ?_))) (QeB (l := [0, 1, 5, 6, 7, 8, 9, 10, 11]) (B := [_, _, _, _, _]) (kp9 rfl rfl rfl rfl rfl rfl rfl rfl rfl) rfl hI.1.keys We We We (by intro p hp h; simp only [QiO, QiN, or_false] at hp; rcases hp with rfl | rfl | rfl | rfl | rfl <;> first | (simp only at h; omega) | exact .inl rfl | exact .inr rfl) (by intro p hp k hk; simp only [QiO, QiN, or_false] at hp; rcases hp with rfl | rfl | rfl | rfl | rfl | rfl | rfl | rfl | rfl <;> first | (simp [D.ids, D.sid, Q1, Q8, QS] at hk; done) | (simp [D.ids, D.sid, Q1, Q8, QS] at hk; subst hk; first | exact .inl rfl | exact .inr (.inl rfl) | exact .inr (.inr (.inl rfl)) | (refine .inr (.inr (.inl ?_)); simp; done) | (first | exact .inr (.inr ⟨_, Qi1 _ (QiV.2 rfl), rfl⟩) | exact .inr (.inr (.inr ⟨_, Qi1 _ (QiV.2 rfl), rfl⟩))))))
   ·exact ⟨⟨Wa, CsIn.nil _⟩, List.nil_sublist _⟩
   intro ⟨cs, i⟩ hC
   dsimp only at hC
   have hcl := hC.1.2.1
   dsimp only
   refine JG ?_ -- 4
   refine Zr fun K hK => mv2 Z Z (Zd Z QQ (ZT Z Z (hK _ _ (Q3 (BP Z Z Z Z Z Z Z Z Z Z) ?_))))
   refine Xu Z (fun h3 => ?_) (fun h3 => ?_)
   ·rw [h3]
    simp only [qA] at h3
    refine XL (Ze (kp9 Z Z Z Z Z Z Z Z Z) ?_)
    refine JG ?_ -- 5
    refine Xg (Zr fun K hK => mv2 Z Z (Sl Z (D3 Wa Wa) (QeO Z Z Wa (Md Z Z (Yw Z Z (hK _ _ (Q3 (BP Z Z Z Z Z Z Z Z Z Z) ?_)))))))
    refine Xu Z (fun h4 => ?_) (fun h4 => ?_)
    ·rw [h4]
     simp only [qA] at h4
     refine Z3 fun K hK => mv2 Z Z (Qa Z (QJ Z Z Z Wa (Q6 Wa) Z (Qz (cs := [_, _, _, _, _]) Z Z Z Z (QT Z Z ?_))))
     refine QK Z (by repeat (first | exact YV hI.1.keys (.inl Wa) | exact YV hK1.keys (.inl Wa) | refine Zx Wi ?_)) ?_
     refine XK (hk0 := Wa) Z Z (fun _ h => Xt Z Z Z h) (Qm Wa QD) Wd Z Z Z Wf Wf (Qa Z (hK _ ?_))
     refine Qh (Ze (kp9 Z Z Z Z Z Z Z Z Z) (Z3 fun K hK => Qa Z (Q2 Z Z Wb (Qa Z (hK _ ?_)))))
     refine Qk (cs ++ [zr (versions[i]'Wa) 0], i + 1) ?_ ?_ ?_
     ·exact le_trans (RG (B := [_, _, _, _, _]) (500001 + us.length) (MA _ _)) (QeB (l := [0, 1, 5, 6, 7, 8, 9, 10, 11]) (B := [_, _, _, _, _]) (kp9 rfl rfl rfl rfl rfl rfl rfl rfl rfl) (by simp [D.scrub, e1, e2, e3, e4] <;> omega) hI.1.keys (by rw [List.map_append]; exact QD) (by repeat (first | exact QD | exact Dj (Tn hI.1.keys) | refine Qm Wa ?_)) We (by intro p hp h; simp only [QiO, QiN, or_false] at hp; rcases hp with rfl | rfl | rfl | rfl | rfl <;> first | (simp only at h; omega) | exact .inl rfl | exact .inr rfl) (by intro p hp k hk; simp only [QiO, QiN, or_false] at hp; rcases hp with rfl | rfl | rfl | rfl | rfl | rfl | rfl | rfl | rfl <;> first | (simp [D.ids, D.sid, Q1, Q8, QS] at hk; done) | (simp [D.ids, D.sid, Q1, Q8, QS] at hk; subst hk; first | exact .inl rfl | exact .inr (.inl rfl) | exact .inr (.inr (.inl rfl)) | (refine .inr (.inr (.inl ?_)); simp; done) | (first | exact .inr (.inr ⟨_, Qi1 _ (QiV.2 rfl), rfl⟩) | exact .inr (.inr (.inr ⟨_, Qi1 _ (QiV.2 rfl), rfl⟩))))))
     ·dsimp only
      exact ⟨⟨Wa, hC.1.2.snoc (QfK Wa)⟩, QfM Wa hC.2⟩
     ·show 4 - (i + 1) < 4 - i; omega
    ·rw [h4]
     simp only [qA] at h4
     refine XL (Qh (Ze (kp9 Z Z Z Z Z Z Z Z Z) (Z3 fun K hK => Qa Z (Q2 Z Z Wb (Qa Z (hK _ ?_))))))
     refine Qk (cs, i + 1) ?_ ?_ ?_
     ·exact QeB (l := [0, 1, 5, 6, 7, 8, 9, 10, 11]) (B := [_, _, _]) (kp9 rfl rfl rfl rfl rfl rfl rfl rfl rfl) rfl hI.1.keys We We We (by intro p hp h; simp only [QiO, QiN, or_false] at hp; rcases hp with rfl | rfl | rfl <;> first | (simp only at h; omega) | exact .inl rfl | exact .inr rfl) (by intro p hp k hk; simp only [QiO, QiN, or_false] at hp; rcases hp with rfl | rfl | rfl | rfl | rfl | rfl | rfl | rfl | rfl <;> first | (simp [D.ids, D.sid, Q1, Q8, QS] at hk; done) | (simp [D.ids, D.sid, Q1, Q8, QS] at hk; subst hk; first | exact .inl rfl | exact .inr (.inl rfl) | exact .inr (.inr (.inl rfl)) | (refine .inr (.inr (.inl ?_)); simp; done) | (first | exact .inr (.inr ⟨_, Qi1 _ (QiV.2 rfl), rfl⟩) | exact .inr (.inr (.inr ⟨_, Qi1 _ (QiV.2 rfl), rfl⟩)))))
     ·dsimp only
      exact ⟨⟨Wa, hC.1.2.keep⟩, LG hC.2⟩
     ·show 4 - (i + 1) < 4 - i; omega
   ·rw [h3]
    simp only [qA] at h3
    refine Ns (XT (Qw (QE (Ze (kp7 Z Z Z Z Z Z Z) (Zr fun K hK => mv2 Z Z (Qa Z (QJ Z Z Z Wa (Q6 Wa) Z (QA Z Z Z (Qa Z ?_)))))))))
    refine QT Z Z ?_
    refine QK Z (by repeat (first | exact YV hI.1.keys (.inl Wa) | exact YV hK1.keys (.inl Wa) | refine Zx Wi ?_)) ?_
    refine TH (hk0 := by decide) Z Z (fun _ h => Xt Z Z Z h) (Qm Wa (Qm Wa QD)) Wd Z Z (.inr (DX hI.1.keys Wa)) Wf Wf (Qa Z (hK _ _ (Q3 (kp7 Z Z Z Z Z Z Z) ?_)))
    have hc4 : CsIn 4 cs := ⟨Wa, hC.1.2.2⟩
    refine CQ (le_trans (RG (B := [_, _, _, _, _]) 500000 (MA _ _)) (QfH (u := (UR.mk (names5[n]'(by have := Q9; omega)) [] (500001 + us.length) cs)) (l := [0, 1, 5, 6, 7, 8, 9]) (fr' := [(0, .ref kg 0 0), (1, .int .i64 most), (5, .sl (YU names5)), (6, .osl 500000 (us ++ [(UR.mk (names5[n]'(by have := Q9; omega)) [] (500001 + us.length) cs)]).length), (7, .sl (versions.map dVr)), (8, .int .i64 n), (9, .osl (500001 + us.length) cs.length)]) (B := [_, _, _, _, _]) (kp7 rfl rfl rfl rfl rfl rfl rfl) (by simp [D.scrub, e1, e2, e3, e4]) hI.1.keys rfl We (by rw [List.map_append]; exact QD) We (by intro p hp h; simp only [QiO, QiN, or_false] at hp; rcases hp with rfl | rfl | rfl | rfl | rfl <;> first | (simp only at h; omega) | exact .inl rfl | exact .inr rfl) hkg Wa (by intro p hp k hk; simp only [QiO, QiN, or_false] at hp; rcases hp with rfl | rfl | rfl | rfl | rfl | rfl | rfl <;> first | (simp [D.ids, D.sid, Q1, Q8, QS] at hk; done) | (simp [D.ids, D.sid, Q1, Q8, QS] at hk; subst hk; first | exact .inl rfl | exact .inr (.inl rfl) | (first | exact .inr (.inr ⟨_, Qi1 _ (QiV.2 rfl), rfl⟩) | exact .inr (.inr (.inr ⟨_, Qi1 _ (QiV.2 rfl), rfl⟩))))))) ?_
    have hK1 := hI.1.snoc (n := (names5[n]'(by have := Q9; omega))) (f := []) hc4.1 hc4.2
    have hl1 : (us ++ [(UR.mk (names5[n]'(by have := Q9; omega)) [] (500001 + us.length) cs)]).length = us.length + 1 := by simp
    have f1 : ¬ kg = 500001 + (us ++ [(UR.mk (names5[n]'(by have := Q9; omega)) [] (500001 + us.length) cs)]).length := Wa
    have f2 : ¬ 500000 = 500001 + (us ++ [(UR.mk (names5[n]'(by have := Q9; omega)) [] (500001 + us.length) cs)]).length := Wa
    have f4 : ¬ 500001 + (us ++ [(UR.mk (names5[n]'(by have := Q9; omega)) [] (500001 + us.length) cs)]).length = 500000 := Wa
    have f5 : ¬ 500001 + us.length = 500001 + (us ++ [(UR.mk (names5[n]'(by have := Q9; omega)) [] (500001 + us.length) cs)]).length := Wa
    refine Zr fun K hK => Qa Z (ZT Z Z (Qa Z ?_))
    refine Qp (g := 67) Z (fun h5 => ?_) (fun h5 => ?_)
    ·rw [h5]
     simp only [qA] at h5
     refine Qd Z (Qa Z (Qd Z ?_))
     refine YH (HR (I := nxI (nxI J)) Z We hL Wa) ?_
     refine Qd Z (Yw Z Z (Qg Z Z (hK _ _ (Q3 (kp8 Z Z Z Z Z Z Z Z) ?_))))
     refine Xu Z (fun h6 => ?_) (fun h6 => ?_)
     ·rw [h6]
      simp only [qA] at h6
      refine Zr fun K hK => Qa Z (hK _ _ (Q3 (kp8 Z Z Z Z Z Z Z Z) ?_))
      refine JG ?_ -- 6
      refine Zr fun K hK => Qa Z (hK _ _ (Q3 (kp9 Z Z Z Z Z Z Z Z Z) ?_))
      refine Xg ?_
      refine Mf (ι := List CR × Nat × Int) (fun ⟨c2, m, J3⟩ => ⟨[(0, .ref kg 0 0), (1, .int .i64 most), (5, .sl (YU names5)), (6, .osl 500000 (us ++ [(UR.mk (names5[n]'(by have := Q9; omega)) [] (500001 + us.length) cs)]).length), (7, .sl (versions.map dVr)), (8, .int .i64 n), (9, .osl (500001 + us.length) cs.length), (12, .osl (500001 + (us ++ [(UR.mk (names5[n]'(by have := Q9; omega)) [] (500001 + us.length) cs)]).length) c2.length), (13, .int .i64 m)], [(500001 + (us ++ [(UR.mk (names5[n]'(by have := Q9; omega)) [] (500001 + us.length) cs)]).length, ⟨(c2).map dCR, 8, 63, true⟩), (500000, ⟨(us ++ [(UR.mk (names5[n]'(by have := Q9; omega)) [] (500001 + us.length) cs)]).map dUR, 3, 56, false⟩), (kg, gB L (J3) eg)] ++ fbx 63 (us ++ [(UR.mk (names5[n]'(by have := Q9; omega)) [] (500001 + us.length) cs)])⟩) (fun ⟨c2, m, J3⟩ => (m <= cs.length /\ CsIn m c2) /\ (c2.map CR.v).Sublist ((cs.map CR.v).take m)) (fun ⟨c2, m, J3⟩ => cs.length - m) ([], 0, nxI (nxI (nxI J))) ?_ ?_ ?_
      ·exact le_trans (Yn 12 (500001 + (us ++ [(UR.mk (names5[n]'(by have := Q9; omega)) [] (500001 + us.length) cs)]).length) 8 63 rfl (by repeat (first | exact YV hK1.keys (.inr Wa) | refine Zx Wa ?_))) (QeB (l := [0, 1, 5, 6, 7, 8, 9, 12, 13]) (B := [_, _, _, _]) (kp9 rfl rfl rfl rfl rfl rfl rfl rfl rfl) rfl hK1.keys We We We (by intro p hp h; simp only [QiO, QiN, or_false] at hp; rcases hp with rfl | rfl | rfl | rfl <;> first | (simp only at h; omega) | exact .inl rfl | exact .inr rfl) (by intro p hp k hk; simp only [QiO, QiN, or_false] at hp; rcases hp with rfl | rfl | rfl | rfl | rfl | rfl | rfl | rfl | rfl <;> first | (simp [D.ids, D.sid, Q1, Q8, QS] at hk; done) | (simp [D.ids, D.sid, Q1, Q8, QS] at hk; subst hk; first | exact .inl rfl | exact .inr (.inl rfl) | exact .inr (.inr (.inl rfl)) | (refine .inr (.inr (.inl ?_)); simp; done) | (first | exact .inr (.inr ⟨_, Qi1 _ (QiV.2 rfl), rfl⟩) | exact .inr (.inr (.inr ⟨_, Qi1 _ (QiV.2 rfl), rfl⟩))))))
      ·exact ⟨⟨Wa, CsIn.nil _⟩, List.nil_sublist _⟩
      intro ⟨c2, m, J3⟩ hM
      dsimp only at hM
      have hcl2 := hM.1.2.1
      dsimp only
      refine JG ?_ -- 7
      refine Zr fun K hK => mv2 Z Z (Zd Z Z (ZT Z Z (hK _ _ (Q3 (BP Z Z Z Z Z Z Z Z Z Z) ?_))))
      refine Xu Z (fun h7 => ?_) (fun h7 => ?_)
      ·rw [h7]
       simp only [qA] at h7
       refine XL (Ze (kp9 Z Z Z Z Z Z Z Z Z) ?_)
       refine JG ?_ -- 8
       refine Xg (Zr fun K hK => Qa Z ?_)
       refine YH (HR (I := J3) Z We hL Wa) ?_
       refine Kr Z Z (hK _ _ (Q3 (BP Z Z Z Z Z Z Z Z Z Z) ?_))
       refine Xu Z (fun h8 => ?_) (fun h8 => ?_)
       ·rw [h8]
        simp only [qA] at h8
        refine Z3 fun K hK => mv2 Z Z (Qa Z (KI Z Z (Qm Wa (Qm Wa (Qm Wa (Qm Wa (Rv (u := (UR.mk (names5[n]'(by have := Q9; omega)) [] (500001 + us.length) cs)) hI.1.keys Z))))) Wd Wa Wa Z (Qe Z (Zv (Qm Wa (Qm Wa (Qm Wa (Qm Wa (Rv (u := (UR.mk (names5[n]'(by have := Q9; omega)) [] (500001 + us.length) cs)) hI.1.keys Z)))))) (Qz (cs := [_, _, _, _, _]) Z (Ym (Qm Wa (Qm Wa (Qm Wa (Qm Wa (Rv (u := (UR.mk (names5[n]'(by have := Q9; omega)) [] (500001 + us.length) cs)) hI.1.keys Z))))) (Q6 (l := cs) Wa)) Z Z (QT Z Z ?_)))))
        refine QK Z (by repeat (first | exact YV hI.1.keys (.inl Wa) | exact YV hK1.keys (.inl Wa) | refine Zx Wi ?_)) ?_
        refine XK (hk0 := Wa) Z Z (fun _ h => Xt Z Z Z h) (Qm Wa (Qm Wa QD)) Wd Z Z Z Wf Wf (Qa Z (hK _ ?_))
        refine Qh (Ze (kp9 Z Z Z Z Z Z Z Z Z) (Z3 fun K hK => Qa Z (Q2 Z Z Wb (Qa Z (hK _ ?_)))))
        refine Qk (c2 ++ [zr (cs[m]'Wa).v 0], m + 1, nxI J3) ?_ ?_ ?_
        ·exact le_trans (RG (B := [_, _, _, _, _, _]) (500001 + (us ++ [(UR.mk (names5[n]'(by have := Q9; omega)) [] (500001 + us.length) cs)]).length) (MA _ _)) (QeB (l := [0, 1, 5, 6, 7, 8, 9, 12, 13]) (B := [_, _, _, _, _, _]) (kp9 rfl rfl rfl rfl rfl rfl rfl rfl rfl) (by simp [D.scrub, f1, f2, f4, f5] <;> omega) hK1.keys (by rw [Qdr (cs := c2)]; exact QD) (by repeat (first | exact QD | exact Dj (Tn hK1.keys) | refine Qm Wa ?_)) We (by intro p hp h; simp only [QiO, QiN, or_false] at hp; rcases hp with rfl | rfl | rfl | rfl | rfl | rfl <;> first | (simp only at h; omega) | exact .inl rfl | exact .inr rfl) (by intro p hp k hk; simp only [QiO, QiN, or_false] at hp; rcases hp with rfl | rfl | rfl | rfl | rfl | rfl | rfl | rfl | rfl <;> first | (simp [D.ids, D.sid, Q1, Q8, QS] at hk; done) | (simp [D.ids, D.sid, Q1, Q8, QS] at hk; subst hk; first | exact .inl rfl | exact .inr (.inl rfl) | exact .inr (.inr (.inl rfl)) | (refine .inr (.inr (.inl ?_)); simp; done) | (first | exact .inr (.inr ⟨_, Qi1 _ (QiV.2 rfl), rfl⟩) | exact .inr (.inr (.inr ⟨_, Qi1 _ (QiV.2 rfl), rfl⟩))))))
        ·dsimp only
         exact ⟨⟨Wa, hM.1.2.snoc (hC.1.2.at Wa)⟩, QfL Wa hM.2⟩
        ·show cs.length - (m + 1) < cs.length - m; omega
       ·rw [h8]
        simp only [qA] at h8
        refine XL (Qh (Ze (kp9 Z Z Z Z Z Z Z Z Z) (Z3 fun K hK => Qa Z (Q2 Z Z Wb (Qa Z (hK _ ?_))))))
        refine Qk (c2, m + 1, nxI J3) ?_ ?_ ?_
        ·exact QeB (l := [0, 1, 5, 6, 7, 8, 9, 12, 13]) (B := [_, _, _, _]) (kp9 rfl rfl rfl rfl rfl rfl rfl rfl rfl) rfl hK1.keys We We We (by intro p hp h; simp only [QiO, QiN, or_false] at hp; rcases hp with rfl | rfl | rfl | rfl <;> first | (simp only at h; omega) | exact .inl rfl | exact .inr rfl) (by intro p hp k hk; simp only [QiO, QiN, or_false] at hp; rcases hp with rfl | rfl | rfl | rfl | rfl | rfl | rfl | rfl | rfl <;> first | (simp [D.ids, D.sid, Q1, Q8, QS] at hk; done) | (simp [D.ids, D.sid, Q1, Q8, QS] at hk; subst hk; first | exact .inl rfl | exact .inr (.inl rfl) | exact .inr (.inr (.inl rfl)) | (refine .inr (.inr (.inl ?_)); simp; done) | (first | exact .inr (.inr ⟨_, Qi1 _ (QiV.2 rfl), rfl⟩) | exact .inr (.inr (.inr ⟨_, Qi1 _ (QiV.2 rfl), rfl⟩)))))
        ·dsimp only
         exact ⟨⟨Wa, hM.1.2.keep⟩, LG hM.2⟩
        ·show cs.length - (m + 1) < cs.length - m; omega
      ·rw [h7]
       simp only [qA] at h7
       refine Ns (XT (Qw (QE (Ze (kp7 Z Z Z Z Z Z Z) (Z3 fun K hK => mv2 Z Z (Qa Z (QJ Z Z Z Wa (Q6 Wa) Z (QA Z Z Z (Qa Z ?_)))))))))
       refine QT Z Z ?_
       refine QK Z (by repeat (first | exact YV hI.1.keys (.inl Wa) | exact YV hK1.keys (.inl Wa) | refine Zx Wi ?_)) ?_
       refine TH (hk0 := by decide) Z Z (fun _ h => Xt Z Z Z h) (Qm Wa (Qm Wa QD)) Wd Z Z (.inr (DX hK1.keys Wa)) Wf Wf (Qa Z (hK _ ?_))
       refine Qh (Ze (kp6 Z Z Z Z Z Z) (Z3 fun K hK => Qa Z (Q2 Z Z Wb (Qa Z (hK _ ?_)))))
       refine Qk (us ++ [(UR.mk (names5[n]'(by have := Q9; omega)) [] (500001 + us.length) cs)] ++ [(UR.mk (names5[n]'(by have := Q9; omega)) [102] (500001 + (us ++ [(UR.mk (names5[n]'(by have := Q9; omega)) [] (500001 + us.length) cs)]).length) c2)], J3, n + 1) ?_ ?_ ?_
       ·exact le_trans (RG (B := [_, _, _, _, _]) 500000 (MA _ _)) (QfH (u := (UR.mk (names5[n]'(by have := Q9; omega)) [102] (500001 + (us ++ [(UR.mk (names5[n]'(by have := Q9; omega)) [] (500001 + us.length) cs)]).length) c2)) (l := [0, 1, 5, 6, 7, 8]) (B := [_, _, _, _, _]) (kp6 rfl rfl rfl rfl rfl rfl) (by simp [D.scrub, f1, f2, e3, f4, e4] <;> omega) hK1.keys rfl We (by rw [Qej (u := (UR.mk (names5[n]'(by have := Q9; omega)) [102] (500001 + (us ++ [(UR.mk (names5[n]'(by have := Q9; omega)) [] (500001 + us.length) cs)]).length) c2))]; exact QD) We (by intro p hp h; simp only [QiO, QiN, or_false] at hp; rcases hp with rfl | rfl | rfl | rfl | rfl <;> first | (simp only at h; omega) | exact .inl rfl | exact .inr rfl) hkg Wa (by intro p hp k hk; simp only [QiO, QiN, or_false] at hp; rcases hp with rfl | rfl | rfl | rfl | rfl | rfl <;> first | (simp [D.ids, D.sid, Q1, Q8, QS] at hk; done) | (simp [D.ids, D.sid, Q1, Q8, QS] at hk; subst hk; first | exact .inl rfl | exact .inr (.inl rfl) | (first | exact .inr (.inr ⟨_, Qi1 _ (QiV.2 rfl), rfl⟩) | exact .inr (.inr (.inr ⟨_, Qi1 _ (QiV.2 rfl), rfl⟩))))))
       ·dsimp only
        exact ⟨hK1.snoc Wa hM.1.2.2, by simp; omega, Wa, by simp; omega, Qhf (QaH hI.2.2.2.2 Wa (DZ hC.2)) Wa Wf ((hM.2.trans (List.take_sublist _ _)).trans (DZ hC.2))⟩
       ·show 5 - (n + 1) < 5 - n; omega
     ·rw [h6]
      simp only [qA] at h6
      refine XL (Qh (Ze (kp6 Z Z Z Z Z Z) (Z3 fun K hK => Qa Z (Q2 Z Z Wb (Qa Z (hK _ ?_))))))
      refine Qk (us ++ [(UR.mk (names5[n]'(by have := Q9; omega)) [] (500001 + us.length) cs)], nxI (nxI (nxI J)), n + 1) ?_ ?_ ?_
      ·exact Qhp (l := [0, 1, 5, 6, 7, 8]) (B := [_, _, _]) (kp6 rfl rfl rfl rfl rfl rfl) rfl hK1.keys We We (by intro p hp h; simp only [QiO, QiN, or_false] at hp; rcases hp with rfl | rfl | rfl <;> first | (simp only at h; omega) | rfl) Wa (by intro p hp k hk; simp only [QiO, QiN, or_false] at hp; rcases hp with rfl | rfl | rfl | rfl | rfl | rfl <;> first | (simp [D.ids, D.sid, Q1, Q8, QS] at hk; done) | (simp [D.ids, D.sid, Q1, Q8, QS] at hk; subst hk; first | exact .inl rfl | exact .inr (.inl rfl) | (first | exact .inr (.inr ⟨_, Qi1 _ (QiV.2 rfl), rfl⟩) | exact .inr (.inr (.inr ⟨_, Qi1 _ (QiV.2 rfl), rfl⟩)))))
      ·dsimp only
       exact ⟨hK1, by simp; omega, Wa, by simp; omega, UL.up (QaH hI.2.2.2.2 Wa (DZ hC.2)) Wa⟩
      ·show 5 - (n + 1) < 5 - n; omega
    ·rw [h5]
     simp only [qA] at h5
     refine gn3 Z Z Z (Qg Z Z (hK _ _ (Q3 (kp8 Z Z Z Z Z Z Z Z) ?_)))
     refine CP Z (XL (Qh (Ze (kp6 Z Z Z Z Z Z) (Z3 fun K hK => Qa Z (Q2 Z Z Wb (Qa Z (hK _ ?_)))))))
     refine Qk (us ++ [(UR.mk (names5[n]'(by have := Q9; omega)) [] (500001 + us.length) cs)], nxI (nxI J), n + 1) ?_ ?_ ?_
     ·exact Qhp (l := [0, 1, 5, 6, 7, 8]) (B := [_, _]) (kp6 rfl rfl rfl rfl rfl rfl) rfl hK1.keys We We (by intro p hp h; simp only [QiO, QiN, or_false] at hp; rcases hp with rfl | rfl <;> first | (simp only at h; omega) | rfl) Wa (by intro p hp k hk; simp only [QiO, QiN, or_false] at hp; rcases hp with rfl | rfl | rfl | rfl | rfl | rfl <;> first | (simp [D.ids, D.sid, Q1, Q8, QS] at hk; done) | (simp [D.ids, D.sid, Q1, Q8, QS] at hk; subst hk; first | exact .inl rfl | exact .inr (.inl rfl) | (first | exact .inr (.inr ⟨_, Qi1 _ (QiV.2 rfl), rfl⟩) | exact .inr (.inr (.inr ⟨_, Qi1 _ (QiV.2 rfl), rfl⟩)))))
     ·dsimp only
      exact ⟨hK1, by simp; omega, Wa, by simp; omega, UL.up (QaH hI.2.2.2.2 Wa (DZ hC.2)) Wa⟩
     ·show 5 - (n + 1) < 5 - n; omega
  ·rw [h2]
   simp only [qA] at h2
   refine Ns (XT (Qw (QE (Ze (kp1 Z) (Zr fun K hK => mv2 Z Z (hK _ _ (Q3 (kp1 Z) ?_)))))))
   refine Sq ?_
   refine ⟨.osl 500000 us.length, ((500000, ⟨us.map dUR, 3, 56, false⟩) :: fbx 63 us) ++ [(kg, gB L (nxI J) eg), (kg, gB L I eg)], ⟨us, _, ⟨hI.1, Wa, Wa, _, hI.2.2.2.2⟩, rfl, rfl⟩, (KE (g3 := gB L J eg) hI.1.keys hkg Z Z Wa).1, (KE (g3 := gB L J eg) hI.1.keys hkg Z Z Wa).2.1, JB Z Z (KE (g3 := gB L J eg) hI.1.keys hkg Z Z Wa).2.2⟩
 ·rw [h1]
  simp only [qA] at h1
  refine gn4 Z Z Z Z (Qg Z Z (hK _ _ (Q3 (kp7 Z Z Z Z Z Z Z) ?_)))
  refine CP Z (Ns (XT (Qw (QE (Ze (kp1 Z) (Zr fun K hK => mv2 Z Z (hK _ _ (Q3 (kp1 Z) ?_))))))))
  refine Sq ?_
  refine ⟨.osl 500000 us.length, ((500000, ⟨us.map dUR, 3, 56, false⟩) :: fbx 63 us) ++ [(kg, gB L (nxI J) eg), (kg, gB L I eg)], ⟨us, _, ⟨hI.1, Wa, Wa, _, hI.2.2.2.2⟩, rfl, rfl⟩, (KE (g3 := gB L J eg) hI.1.keys hkg Z Z Wa).1, (KE (g3 := gB L J eg) hI.1.keys hkg Z Z Wa).2.1, JB Z Z (KE (g3 := gB L J eg) hI.1.keys hkg Z Z Wa).2.2⟩
open Go Go.Abs M3 M25
theorem QdU {kg : Nat} {L : List Int} {I most : Int} {eg eu ec : Nat} (heu : eu = 56) (hec : ec = 63) (hL : ∀ x ∈ L, I64 x) (hm0 : 1 <= most) (hm1 : most <= 5) :
  ∃ us I2, (UnitsIn us /\ 2 <= us.length /\ us.length <= 11 /\ ∃ b, UL b (us.map shp)) /\ ∀ (st : St) (args : List Opd), Zo st args = some [.ref kg 0 0, .int .i64 most] -> lk st.H kg = some (gB L I eg) -> (∀ j, 500000 <= j -> lk st.H j = none) -> Hg Tryz.prog 30 args st [(kg, gB L I eg)] ((500000, ⟨us.map dUR, 3, eu, false⟩) :: fbx ec us) [(kg, gB L I2 eg)] (.osl 500000 us.length) := by
 obtain ⟨d, H2, ⟨us, I2, hus, rfl, rfl⟩, hok⟩ := Gx (kg := upN kg) (I := I) (eg := eg) heu hec (by unfold upN; omega) hL hm0 hm1
 refine ⟨us, I2, hus, fun st args ha hg hs => ⟨_, ha, fun k b h => ?_, fun k b h j hj => ?_, fun x hx j hj => ?_, fun k b h => ?_, fun k b h => ?_, fun k hk => ?_, hok⟩⟩
 ·obtain ⟨rfl, rfl⟩ := Ja h; exact hg
 ·obtain ⟨rfl, rfl⟩ := Ja h; simp [Box.ids, gB] at hj
 ·simp only [QiO, QiN, or_false] at hx
  rcases hx with rfl | rfl
  ·simp [D.ids, D.sid] at hj; subst hj; exact QY
  ·simp [D.ids, D.sid] at hj
 ·obtain ⟨rfl, rfl⟩ := Ja h
  exact ⟨QY, fun j hj => by simp [Box.ids, gB] at hj⟩
 ·have hK := hus.1.keys
  rw [Ql] at h
  split at h
  ·rename_i e; cases h; subst e
   refine ⟨by decide, hs _ (Nat.le_refl _), fun j hj => ?_⟩
   obtain ⟨u, hu, rfl⟩ := K8 hj
   exact QU (Fv hK hu)
  ·obtain ⟨u, hu, rfl, rfl⟩ := P0 h
   have := KU hK hu
   exact ⟨Wa, hs _ Wa, fun j hj => by simp [Box.ids] at hj⟩
 ·simp [D.ids, D.sid] at hk; subst hk; exact QY
theorem Lq {H : QiJ} {kg ku : Nat} {L : List Int} {I most : Int} {eg eu ec : Nat} {us : List UR} (hg : lk H kg = some (gB L I eg)) (hU : Fam H kg ku eu ec us) (hC : Closed H) (hL : ∀ x ∈ L, I64 x) (h2 : 2 <= us.length) (hn : us.length <= 48) (hm0 : 0 <= most) (hm1 : most <= 10) :
  ∃ ns I2, Mb us.length most ns /\ ∀ (st : St) (args : List Opd), Zo st args = some [.ref kg 0 0, .osl ku us.length, .int .i64 most] -> (∀ j x, lk H j = some x -> lk st.H j = some x) -> Hg Tryz.prog 31 args st H [] [(kg, gB L I2 eg)] (Q8 ns) := by
 obtain ⟨d, H2, ⟨ns, I2, hx, rfl, rfl⟩, hok⟩ := Gw (H := upH H) (kg := upN kg) (ku := upN ku) (L := L) (I := I) (most := most) (eg := eg) (eu := eu) (ec := ec) (us := us.map UR.ren) (by unfold upN; omega) (by rw [J7, hg]; rfl) hU.up LD (Np hC) hL (by simpa using h2) (by simpa using hn) hm0 hm1
 obtain ⟨pu, hu⟩ := hU.u
 rw [List.length_map] at hx hok
 refine ⟨ns, I2, hx, fun st args ha hF => LS (b' := gB L I2 eg) (ds' := [.ref (upN kg) 0 0, .osl (upN ku) us.length, .int .i64 most]) ha hF hC (fun x hx j hj => ?_) (Zv hg) Z Z Z Z hok⟩
 simp only [QiO, QiN, or_false] at hx
 rcases hx with rfl | rfl | rfl
 ·simp [D.ids, D.sid] at hj; subst hj; exact Zv hg
 ·simp [D.ids, D.sid] at hj; subst hj; exact Zv hu
 ·simp [D.ids, D.sid] at hj
theorem _root_.Wk {p : Prop} (h : p := by ((try simp only [Q8, D.ids, D.sid]); simp only [Dr.ok, Y6, Y7, Y8, List.all_append, List.all_cons, List.all_nil, Bool.and_true, Bool.true_and]; (try rw [XF (by rfl)]); simp [D.ids, D.sid]; done)) : p := h
theorem _root_.Wc {p : Prop} (h : p := by repeat (first | exact QD | exact N8 | exact NE | exact Pn | refine Qm (by omega) ?_)) : p := h
theorem _root_.Wo {p : Prop} (h : p := by ((try simp only [Q8, D.ids, D.sid]); simp only [Dr.ok, Y6, Y7, Y8, List.all_append, List.all_cons, List.all_nil, Bool.and_true, Bool.true_and]; (try rw [XF (by rfl)]); simp [D.ids, D.sid]; omega)) : p := h
theorem _root_.Wj {p : Prop} (h : p := by first | rfl | ((try simp only [Q8, D.ids, D.sid]); simp only [Dr.ok, Y6, Y7, Y8, List.all_append, List.all_cons, List.all_nil, Bool.and_true, Bool.true_and]; (try rw [XF (by rfl)]); simp [D.ids, D.sid]; done) | ((try simp only [Q8, D.ids, D.sid]); simp only [Dr.ok, Y6, Y7, Y8, List.all_append, List.all_cons, List.all_nil, Bool.and_true, Bool.true_and]; (try rw [XF (by rfl)]); simp [D.ids, D.sid]; omega)) : p := h
theorem Gv {ws : List Int} (hL : ∀ x ∈ ws, I64 x) {most : Int} (hm0 : 1 <= most) (hm1 : most <= 5) : ∃ d, (∃ w, WMade w /\ d = Yg w) /\ Ok Tryz.prog 9 [QS ws, .int .i64 most] d := by
 refine Ok.ofX (R := fun d => (∃ w, WMade w /\ d = Yg w)) ZL Tryz.func9 tp9 (QiM Z) ?_
 show TX _ _ tf9.body _ _
 obtain ⟨us0, J0, ⟨hU, hu2, hu11, hul⟩, hc0⟩ := QdU (kg := 12) (L := ws) (I := 0) (most := most) (eg := 73) rfl rfl hL hm0 hm1
 have hU0 := Prog.start hU hu2 hu11 hul
 obtain ⟨z0, rest0, hfirst⟩ := hU.first
 have hi0 : 0 < us0.length := Wa
 have hcl0 : us0[0].cs = [z0] := by subst hfirst; rfl
 have hk0 : 0 < us0[0].cs.length := by rw [hcl0]; exact Nat.zero_lt_one
 obtain ⟨va, sha, hza, hva⟩ := hU0.fresh 0 hi0 0 hk0 Wa
 obtain ⟨ns0, J00, hns0, hc00⟩ := Lq (H := wA (us0) 56 63 73 ws (J0) ⟨[[.fsl []]], 1, 26, true⟩) (most := 3) NE (D1 hU.keys hU0.fam hU0.vs) (JE hU.keys rfl) hL hu2 Wa Wg Wg
 refine Zr fun K hK => Zz Z (hK _ _ (Q3 (kp3 Z Z Z) ?_))
 refine Zr fun K hK => Qa Z (QT Z Z (Zi Z Z Z (Qa Z (hK _ _ (Q3 (kp3 Z Z Z) ?_)))))
 refine Zr fun K hK => Qa rfl (Qa rfl (YH (hc0 _ _ rfl rfl (by intro j hj; rw [Ql, if_neg Wa, Ql, if_neg Wa]; rfl)) (Qa rfl (hK _ _ (Q3 (kp3 rfl rfl rfl) ?_)))))
 refine CQ (KV Z (LC hU.keys)) (Zr fun K hK => Qa Z (Fa (ds0 := [7, 6, 2, 1, 0]) Z Z Z Wd Wa Wa Z Z Z (Qe Z Z (QP (ds0 := [2, 1, 0]) Z (Ym Z (Qcj (i := 0) hU.keys hi0)) Z Z Z (mv2 Z Z (TI (ds0 := [0]) (hc00 _ _ Z (fun _ _ h => h)) (fun j hj => FB hj) Wk Z (Fa (ds0 := [1, 0]) Z Z (Qm Wa (G9 (j := 0) hU.keys hi0)) Wd Wa Wa Z Z Z (Qe Z (Zv (Qm Wa (G9 (j := 0) hU.keys hi0))) (YR (ds0 := []) Z (Qm Wa (G9 (j := 0) hU.keys hi0)) (Qdq (k := 0) hk0 hza) Z Z Z Z Z Wk Z ?_)))))))))
 refine hK _ _ (Q3 (kp3 Z Z Z) ?_)
 refine JG ?_ -- 0
 refine Zr fun K hK => Qa Z (hK _ _ (Q3 (kp4 Z Z Z Z) ?_))
 refine Xg ?_
 have hPs : Prog us0.length (H5 us0 0 0 (Sd (CandT.mk va sha ns0 []))) 1 0 := (hU0.put hi0 hk0 ⟨_, rfl, F5 hva hns0 Wg⟩ (by rw [hza]; rfl)).next (by rw [ZD]; exact hi0) (by rw [<- Kk (by rw [ZD]; exact hi0), JZ, Kk hi0, hcl0]; exact Nat.le_refl 1)
 refine Mf (ι := List UR × Int × Nat) (fun ⟨usA, JA, i⟩ => ⟨[(4, .ref 4 0 0), (5, .ref 12 0 0), (6, .osl 500000 usA.length), (7, .int .i64 i)], wA (usA) 56 63 73 ws (JA) ⟨[[.fsl []]], 1, 26, true⟩⟩) (fun ⟨usA, JA, i⟩ => Prog us0.length usA i 0 /\ 1 <= i /\ i <= us0.length) (fun ⟨usA, JA, i⟩ => us0.length - i) (H5 us0 0 0 (Sd (CandT.mk va sha ns0 [])), J00, 1) ?_ ?_ ?_
 ·exact MJ (l := [4, 5, 6, 7]) (i := 0) (k := 0) (row := [.int .i64 va.a, .int .i64 va.b, .int .i64 va.c, .str va.p, .str va.q, .int .i64 sha, Q8 ns0, .fsl []]) (p := true) 13 (Sd (CandT.mk va sha ns0 [])) (kp4 rfl rfl rfl rfl) (by rw [ZD] <;> rfl) hU.keys hi0 hk0 QD (fun _ => rfl) rfl (fun z hz => (hU0.pure hi0 z hz).1) ⟨rfl, rfl, rfl⟩ (fun j hj hne => (Qm Wa (Qm Wa (G9 hU.keys hj)))) Wc Wc Wc rfl Wg (by intro j hj; repeat (first | exact ZZ hU.keys Wa Wa Wa (.inr Wa) | refine Zx Wa ?_)) Wa (by intro p hp j hj; simp only [QiO, QiN, or_false] at hp; rcases hp with rfl | rfl | rfl | rfl <;> first | (simp [D.ids, D.sid] at hj; done) | (simp [D.ids, D.sid] at hj; subst hj; first | exact .inl rfl | exact .inr (.inl rfl) | exact .inr (.inr (.inl rfl)) | exact .inr (.inr (.inr ⟨us0[0], QiR hi0, rfl⟩))))
 ·exact ⟨hPs, Nat.le_refl _, Wa⟩
 intro ⟨usA, JA, i⟩ hPA
 dsimp only at hPA
 have hlA := hPA.1.len.1
 dsimp only
 refine JG ?_ -- 1
 refine Zr fun K hK => mv2 Z Z (Zd Z Z (ZT Z Z (hK _ _ (Q3 (kp5 Z Z Z Z Z) ?_))))
 refine Xu Z (fun h1 => ?_) (fun h1 => ?_)
 ·rw [h1]
  simp only [qA] at h1
  refine XL (Ze (kp4 Z Z Z Z) ?_)
  refine JG ?_ -- 2
  refine Xg (Zr fun K hK => Qa Z (hK _ _ (Q3 (kp5 Z Z Z Z Z) ?_)))
  refine Xg ?_
  refine Mf (ι := List UR × Int × Nat) (fun ⟨us, J, k⟩ => ⟨[(4, .ref 4 0 0), (5, .ref 12 0 0), (6, .osl 500000 us.length), (7, .int .i64 i), (8, .int .i64 k)], wA (us) 56 63 73 ws (J) ⟨[[.fsl []]], 1, 26, true⟩⟩) (fun ⟨us, J, k⟩ => Prog us0.length us i k) (fun ⟨us, J, k⟩ => T2 us i - k) (usA, JA, 0) ?_ ?_ ?_
  ·exact Q4 (l := [4, 5, 6, 7, 8]) (kp5 rfl rfl rfl rfl rfl)
  ·exact hPA.1
  intro ⟨us, J, k⟩ hP
  dsimp only at hP
  have hl := hP.len.1
  have hi : i < us.length := Wa
  have h1i := hPA.2.1
  have hcl4 := hP.cl us[i] (QiR hi)
  dsimp only
  refine JG ?_ -- 3
  refine Zr fun K hK => mv2 Z Z (Qa Z (KI Z Z Z Wd Wa Wa Z (Qe Z Z (QA Z (Ym Z (Qcj hP.keys hi)) Z (Zd Z Z (ZT Z Z (hK _ _ (Q3 (kp6 Z Z Z Z Z Z) ?_))))))))
  refine Xu Z (fun h2 => ?_) (fun h2 => ?_)
  ·rw [h2]
   simp only [qA] at h2
   try (have hk : k < us[i].cs.length := Wa; obtain ⟨v, sh, hz, hv⟩ := hP.fresh i hi k hk Wa)
   refine XL (Ze (kp5 Z Z Z Z Z) ?_)
   refine JG ?_ -- 4
   refine Xg (Zr fun K hK => mv2 Z Z (KI Z Z Z Wd Wa Wa Z (Qe Z Z (QA Z (Ym Z (Qcj hP.keys hi)) Z (Qa Z (KI Z Z (G9 hP.keys hi) Wd Wa Wa Z (Qa Z (hK _ _ (Q3 (kp6 Z Z Z Z Z Z) ?_)))))))))
   refine JG ?_ -- 5
   refine Zr fun K hK => mv2 Z Z (KI Z Z Z Wd Wa Wa Z (Qe Z Z (QA Z (Ym Z (Qcj hP.keys hi)) Z (TJ Z Z (hK _ _ (Q3 (kp7 Z Z Z Z Z Z Z) ?_))))))
   refine Xu Z (fun h3 => ?_) (fun h3 => ?_)
   ·rw [h3]
    simp only [qA] at h3
    refine Z3 fun K hK => mv2 Z Z (Hk Z Z Wb (Qa Z (Yh Z Z (Qe Z (Zv (G9 hP.keys hi)) (Qz (cs := [_, _, _, _, _]) Z (Ym (G9 hP.keys hi) (Qdq hk hz)) Z Z (Qv (X6 hv.1 hv.2) Z Z (.inl Z) (QT Z Z ?_)))))))
    refine QK Z (by repeat (first | exact ZZ hU.keys Wa Wa Wa (.inl Wa) | exact ZZ hP.keys Wa Wa Wa (.inl Wa) | exact ZZ hP2.keys Wa Wa Wa (.inl Wa) | refine Zx Wa ?_)) ?_
    refine QK Z (by repeat (first | exact ZZ hU.keys Wa Wa Wa (.inl Wa) | exact ZZ hP.keys Wa Wa Wa (.inl Wa) | exact ZZ hP2.keys Wa Wa Wa (.inl Wa) | refine Zx Wa ?_)) ?_
    refine Yh Z Z (Qe Z (Zv (Qm Wa (Qm Wa (G9 hP.keys hi)))) (QZ Z (Qm Wa (Qm Wa (G9 hP.keys hi))) (Qdq hk hz) Z Z Z Z Z (hK _ ?_)))
    refine Ze (kp6 Z Z Z Z Z Z) ?_
    first | (refine CQ (BR (l := [4, 5, 6, 7, 8, 9]) (fr' := [(4, .ref 4 0 0), (5, .ref 12 0 0), (6, .osl 500000 us.length), (7, .int .i64 i), (8, .int .i64 k), (9, .ref (500001 + i) k 0)]) (x := (WantT.mk ((i : Int) - 1) (Xa v.a v.b v.c v.p v.q))) (kp6 rfl rfl rfl rfl rfl rfl) rfl hP.keys hi rfl (Lv (fun z hz => (hP.pure hi z hz).1) (by intro d hd j hj; simp [dCR, setRow, zr] at hd; rcases hd with rfl | rfl | rfl | rfl | rfl | rfl | rfl | rfl <;> simp [D.sid] at hj <;> exact hj)) (by intro p hp j hj; simp only [QiO, QiN, or_false] at hp; rcases hp with rfl | rfl | rfl | rfl | rfl | rfl <;> first | (simp [D.ids, D.sid] at hj; done) | (simp [D.ids, D.sid] at hj; subst hj; first | exact .inl rfl | exact .inr (.inl rfl) | exact .inr (.inr (.inl rfl)) | exact .inr (.inr (.inr ⟨us[i], QiR hi, (hP.keys i hi).symm⟩))))) ?_) | skip
    refine Zr fun K hK => mv2 Z Z (Yh Z Z (Qe Z QY (QP (ds0 := [3, 0]) Z (Ym QD (QcS hk)) Z Z Z (mv2 Z Z ?_))))
    have hfx := Qht (eu := 56) (ec := 63) (eg := 73) (L := ws) (J := J) (b4 := ⟨[[.fsl []]], 1, 26, true⟩) (b64 := ⟨[[Q1 [(WantT.mk ((i : Int) - 1) (Xa v.a v.b v.c v.p v.q))]]], 1, 61, true⟩) (zx := (CR.mk v (.int .i64 sh) (.osl 64 1) (.fsl []))) hP hi hk hv ⟨rfl, rfl, rfl⟩ rfl rfl (by rw [hz]; rfl)
    obtain ⟨ns, J1, hns, hc1⟩ := Lq (H := (500001 + i, ⟨(us[i].cs.map dCR).set k (dCR (CR.mk v (.int .i64 sh) (.osl 64 1) (.fsl []))), 8, 63, false⟩) :: (64, ⟨[[Q1 [(WantT.mk ((i : Int) - 1) (Xa v.a v.b v.c v.p v.q))]]], 1, 61, true⟩) :: wA (us) 56 63 73 ws (J) ⟨[[.fsl []]], 1, 26, true⟩) (most := 2) (Qm Wa (Qm Wa NE)) hfx.1 hfx.2 hL (by (rw [ZD]; omega)) (by (rw [ZD]; omega)) Wg Wg
    rw [ZD] at hns
    refine TI (ds0 := [3, 0]) (hc1 _ _ (by rw [ZD]; rfl) (fun _ _ h => h)) (fun j hj => FB hj) Wo Z ?_
    refine F2 (ds0 := [0]) Z Z (by simp [D.ids, D.sid, Q8]) ⟨rfl, QcO, rfl⟩ (by repeat (first | exact ZZ hU.keys Wa Wa Wa (.inl Wa) | exact ZZ hP.keys Wa Wa Wa (.inl Wa) | exact ZZ hP2.keys Wa Wa Wa (.inl Wa) | refine Zx Wa ?_)) (Qm Wa (Qm Wa QD)) Z Z Z (by have := hns.1; simp; omega) (by have := hns.1; simp; omega) Wj Z ?_
    refine Yh Z Z (Qe Z (Zv (Qm Wa (Qm Wa (Qm Wa QD)))) (YR (ds0 := []) Z (Qm Wa (Qm Wa (Qm Wa QD))) (QcS hk) Z Z Z Z Z Wk Z (hK _ _ (Q3 (kp6 Z Z Z Z Z Z) ?_))))
    first | (refine CQ (MJ (l := [4, 5, 6, 7, 8, 9]) (eu := 56) (ec := 63) (eg := 73) (L := ws) (J := J1) (b4 := ⟨[[.fsl []]], 1, 26, true⟩) (fr' := [(4, .ref 4 0 0), (5, .ref 12 0 0), (6, .osl 500000 us.length), (7, .int .i64 i), (8, .int .i64 k), (9, .ref (500001 + i) k 0)]) (row := [.int .i64 v.a, .int .i64 v.b, .int .i64 v.c, .str v.p, .str v.q, .int .i64 sh, .osl 75 (1 + (ns.map (fun r => [Q1 r])).length), .fsl []]) (p := false) 75 (Sd (CandT.mk v sh ([(WantT.mk ((i : Int) - 1) (Xa v.a v.b v.c v.p v.q))] :: ns) [])) (kp6 rfl rfl rfl rfl rfl rfl) rfl hP.keys hi hk SX (fun h => by cases h) (NR (Qm Wa QD) Wq) (fun z hz => (hP.pure hi z hz).1) ⟨rfl, rfl, rfl⟩ (fun j hj hne => (Qm Wa (Qm Wa (Qm Wa (Qm Wa (Qm Wa (Qm Wa (G9 hP.keys hj)))))))) Wc Wc Wc rfl Wg (by intro j hj; repeat (first | exact ZZ hP.keys Wa Wa Wa (.inr Wa) | refine Zx Wa ?_)) Wa (by intro p hp j hj; simp only [QiO, QiN, or_false] at hp; rcases hp with rfl | rfl | rfl | rfl | rfl | rfl <;> first | (simp [D.ids, D.sid] at hj; done) | (simp [D.ids, D.sid] at hj; subst hj; first | exact .inl rfl | exact .inr (.inl rfl) | exact .inr (.inr (.inl rfl)) | exact .inr (.inr (.inr ⟨us[i], QiR hi, (hP.keys i hi).symm⟩))))) ?_; have hc2 : JM us0.length (CandT.mk v sh ([(WantT.mk ((i : Int) - 1) (Xa v.a v.b v.c v.p v.q))] :: ns) []) := (by rw [<- hl]; exact SD hv hns Wg (hP.feat hi Wh) (by have := hP.exm hi hk; rw [hz] at this; exact this) hi); generalize hns2 : ([(WantT.mk ((i : Int) - 1) (Xa v.a v.b v.c v.p v.q))] :: ns) = ns2 at hc2 ⊢) | (refine CQ (MJ (l := [4, 5, 6, 7, 8, 9]) (eu := 56) (ec := 63) (eg := 73) (L := ws) (J := J1) (b4 := ⟨[[.fsl []]], 1, 26, true⟩) (fr' := [(4, .ref 4 0 0), (5, .ref 12 0 0), (6, .osl 500000 us.length), (7, .int .i64 i), (8, .int .i64 k), (9, .ref (500001 + i) k 0)]) (row := [.int .i64 v.a, .int .i64 v.b, .int .i64 v.c, .str v.p, .str v.q, .int .i64 sh, .osl 75 (0 + (ns.map (fun r => [Q1 r])).length), .fsl []]) (p := false) 75 (Sd (CandT.mk v sh ns [])) (kp6 rfl rfl rfl rfl rfl rfl) rfl hP.keys hi hk QD (fun h => by cases h) (NR (Qm Wa QD) Wq) (fun z hz => (hP.pure hi z hz).1) ⟨rfl, rfl, rfl⟩ (fun j hj hne => (Qm Wa (Qm Wa (Qm Wa (G9 hP.keys hj))))) Wc Wc Wc rfl Wg (by intro j hj; repeat (first | exact ZZ hP.keys Wa Wa Wa (.inr Wa) | refine Zx Wa ?_)) Wa (by intro p hp j hj; simp only [QiO, QiN, or_false] at hp; rcases hp with rfl | rfl | rfl | rfl | rfl | rfl <;> first | (simp [D.ids, D.sid] at hj; done) | (simp [D.ids, D.sid] at hj; subst hj; first | exact .inl rfl | exact .inr (.inl rfl) | exact .inr (.inr (.inl rfl)) | exact .inr (.inr (.inr ⟨us[i], QiR hi, (hP.keys i hi).symm⟩))))) ?_; have hc2 : JM us0.length (CandT.mk v sh ns []) := (by rw [<- hl]; exact F5 hv hns Wg); generalize hns2 : ns = ns2 at hc2 ⊢)
    generalize hus2 : H5 us i k (Sd (CandT.mk v sh ns2 [])) = us2
    have hP2 : Prog us0.length us2 i (k + 1) := hus2 ▸ hP.put hi hk ⟨_, rfl, hc2⟩ (by rw [hz]; rfl)
    have hl2 : us2.length = us.length := by rw [<- hus2, ZD]
    have hi2 : i < us2.length := Wa
    have hk2 : k < us2[i].cs.length := Tp hi hk hus2 hi2
    have hz2 : us2[i].cs[k] = Sd (CandT.mk v sh ns2 []) := To hi hk hus2.symm hi2 hk2
    refine Zr fun K hK => Qa Z (YH (HR (I := J1) Z NE hL Wa) (Yw Z Z (hK _ _ (Q3 (kp7 Z Z Z Z Z Z Z) ?_))))
    refine Xu Z (fun h4 => ?_) (fun h4 => ?_)
    ·rw [h4]
     simp only [qA] at h4
     refine Z3 fun K hK => mv2 Z Z (Qa Z ?_)
     obtain ⟨xb, J3, hxb, hcb⟩ := DG (H := (12, gB ws (nxI J1) 73) :: wA (us2) 56 63 73 ws (J1) ⟨[[.fsl []]], 1, 26, true⟩) QD (D1 hP2.keys hP2.fam hP2.vs).cons ((JE hP2.keys rfl).pr rfl) hL Wa Wa
     refine YH (hcb _ _ (by rw [hl2]; rfl) (fun _ _ h => h)) ?_
     refine QK Z (by repeat (first | exact ZZ hU.keys Wa Wa Wa (.inl Wa) | exact ZZ hP.keys Wa Wa Wa (.inl Wa) | exact ZZ hP2.keys Wa Wa Wa (.inl Wa) | refine Zx Wa ?_)) ?_
     refine Yh Z Z (Qe Z (Zv (Qm Wa (Qm Wa (Qm Wa (G9 hP2.keys hi2))))) (QZ Z (Qm Wa (Qm Wa (Qm Wa (G9 hP2.keys hi2)))) (Qdq hk2 hz2) Z Z Z Z Z (hK _ ?_)))
     refine Qh (Ze (kp5 Z Z Z Z Z) (Z3 fun K hK => Qa Z (Q2 Z Z Wb (Qa Z (hK _ ?_)))))
     refine Qk (H5 us2 i k (Sd (CandT.mk v sh ns2 [xb])), J3, k + 1) ?_ ?_ ?_
     ·exact MJ (l := [4, 5, 6, 7, 8]) (row := [.int .i64 v.a, .int .i64 v.b, .int .i64 v.c, .str v.p, .str v.q, .int .i64 sh, Q8 ns2, .osl 85 1]) (p := false) 85 (Sd (CandT.mk v sh ns2 [xb])) (kp5 rfl rfl rfl rfl rfl) (by rw [ZD, hl2] <;> rfl) hP2.keys hi2 hk2 QD (fun h => by cases h) (Bz (Qm Wa QD) rfl) (fun z hz => (hP2.pure hi2 z hz).1) ⟨rfl, rfl, rfl⟩ (fun j hj hne => (Qm Wa (Qm Wa (Qm Wa (Qm Wa (G9 hP2.keys hj)))))) Wc Wc Wc rfl Wg (by intro j hj; repeat (first | exact ZZ hP2.keys Wa Wa Wa (.inr Wa) | refine Zx Wa ?_)) Wa (by intro p hp j hj; simp only [QiO, QiN, or_false] at hp; rcases hp with rfl | rfl | rfl | rfl | rfl <;> first | (simp [D.ids, D.sid] at hj; done) | (simp [D.ids, D.sid] at hj; subst hj; first | exact .inl rfl | exact .inr (.inl rfl) | exact .inr (.inr (.inl rfl)) | exact .inr (.inr (.inr ⟨us2[i], QiR hi2, (hP2.keys i hi2).symm⟩))))
     ·exact hP2.again hi2 hk2 ⟨_, rfl, SC hc2 (by have := hxb; rwa [hl2, hl] at this)⟩ (by rw [hz2]; rfl)
     ·show T2 (H5 us2 i k _) i - (k + 1) < T2 us i - k; rw [JZ, <- hus2, JZ, Kk hi]; omega
    ·rw [h4]
     simp only [qA] at h4
     refine XL (Qh (Ze (kp5 Z Z Z Z Z) (Z3 fun K hK => Qa Z (Q2 Z Z Wb (Qa Z (hK _ ?_))))))
     refine Qk (us2, nxI J1, k + 1) ?_ ?_ ?_
     ·exact le_trans (Q4 (l := [4, 5, 6, 7, 8]) (kp5 rfl rfl rfl rfl rfl)) (KV (by rw [hl2] <;> rfl) QfR)
     ·exact hP2
     ·show T2 us2 i - (k + 1) < T2 us i - k; rw [<- hus2, JZ, Kk hi]; omega
   ·rw [h3]
    simp only [qA] at h3
    refine XL (Ze (kp6 Z Z Z Z Z Z) ?_)
    first | (refine CQ (BR (l := [4, 5, 6, 7, 8, 9]) (fr' := [(4, .ref 4 0 0), (5, .ref 12 0 0), (6, .osl 500000 us.length), (7, .int .i64 i), (8, .int .i64 k), (9, .ref (500001 + i) k 0)]) (x := (WantT.mk ((i : Int) - 1) (Xa v.a v.b v.c v.p v.q))) (kp6 rfl rfl rfl rfl rfl rfl) rfl hP.keys hi rfl (Lv (fun z hz => (hP.pure hi z hz).1) (by intro d hd j hj; simp [dCR, setRow, zr] at hd; rcases hd with rfl | rfl | rfl | rfl | rfl | rfl | rfl | rfl <;> simp [D.sid] at hj <;> exact hj)) (by intro p hp j hj; simp only [QiO, QiN, or_false] at hp; rcases hp with rfl | rfl | rfl | rfl | rfl | rfl <;> first | (simp [D.ids, D.sid] at hj; done) | (simp [D.ids, D.sid] at hj; subst hj; first | exact .inl rfl | exact .inr (.inl rfl) | exact .inr (.inr (.inl rfl)) | exact .inr (.inr (.inr ⟨us[i], QiR hi, (hP.keys i hi).symm⟩))))) ?_) | skip
    refine Zr fun K hK => mv2 Z Z (Yh Z Z (Qe Z (Zv (G9 hP.keys hi)) (QP (ds0 := [3, 0]) Z (Ym (G9 hP.keys hi) (Qdq hk hz)) Z Z Z (mv2 Z Z ?_))))
    obtain ⟨ns, J1, hns, hc1⟩ := Lq (H := wA (us) 56 63 73 ws (J) ⟨[[.fsl []]], 1, 26, true⟩) (most := 2) NE (D1 hP.keys hP.fam hP.vs) (JE hP.keys rfl) hL Wa Wa Wg Wg
    refine TI (ds0 := [3, 0]) (hc1 _ _ Z (fun _ _ h => h)) (fun j hj => FB hj) Wo Z ?_
    refine TG (ds0 := [0]) Z Z (fun _ h => ⟨QcO, h⟩) (by repeat (first | exact ZZ hU.keys Wa Wa Wa (.inl Wa) | exact ZZ hP.keys Wa Wa Wa (.inl Wa) | exact ZZ hP2.keys Wa Wa Wa (.inl Wa) | refine Zx Wa ?_)) (.inl Z) Wd (by have := hns.1; simp; omega) (by have := hns.1; simp; omega) Wj Z ?_
    refine Yh Z Z (Qe Z (Zv (Qm Wa (Qm Wa (G9 hP.keys hi)))) (YR (ds0 := []) Z (Qm Wa (Qm Wa (G9 hP.keys hi))) (Qdq hk hz) Z Z Z Z Z Wk Z (hK _ _ (Q3 (kp6 Z Z Z Z Z Z) ?_))))
    first | (refine CQ (MJ (l := [4, 5, 6, 7, 8, 9]) (eu := 56) (ec := 63) (eg := 73) (L := ws) (J := J1) (b4 := ⟨[[.fsl []]], 1, 26, true⟩) (fr' := [(4, .ref 4 0 0), (5, .ref 12 0 0), (6, .osl 500000 us.length), (7, .int .i64 i), (8, .int .i64 k), (9, .ref (500001 + i) k 0)]) (row := [.int .i64 v.a, .int .i64 v.b, .int .i64 v.c, .str v.p, .str v.q, .int .i64 sh, .osl 75 (1 + (ns.map (fun r => [Q1 r])).length), .fsl []]) (p := false) 75 (Sd (CandT.mk v sh ([(WantT.mk ((i : Int) - 1) (Xa v.a v.b v.c v.p v.q))] :: ns) [])) (kp6 rfl rfl rfl rfl rfl rfl) rfl hP.keys hi hk SX (fun h => by cases h) (NR (Qm Wa QD) Wq) (fun z hz => (hP.pure hi z hz).1) ⟨rfl, rfl, rfl⟩ (fun j hj hne => (Qm Wa (Qm Wa (Qm Wa (Qm Wa (Qm Wa (Qm Wa (G9 hP.keys hj)))))))) Wc Wc Wc rfl Wg (by intro j hj; repeat (first | exact ZZ hP.keys Wa Wa Wa (.inr Wa) | refine Zx Wa ?_)) Wa (by intro p hp j hj; simp only [QiO, QiN, or_false] at hp; rcases hp with rfl | rfl | rfl | rfl | rfl | rfl <;> first | (simp [D.ids, D.sid] at hj; done) | (simp [D.ids, D.sid] at hj; subst hj; first | exact .inl rfl | exact .inr (.inl rfl) | exact .inr (.inr (.inl rfl)) | exact .inr (.inr (.inr ⟨us[i], QiR hi, (hP.keys i hi).symm⟩))))) ?_; have hc2 : JM us0.length (CandT.mk v sh ([(WantT.mk ((i : Int) - 1) (Xa v.a v.b v.c v.p v.q))] :: ns) []) := (by rw [<- hl]; exact SD hv hns Wg (hP.feat hi Wh) (by have := hP.exm hi hk; rw [hz] at this; exact this) hi); generalize hns2 : ([(WantT.mk ((i : Int) - 1) (Xa v.a v.b v.c v.p v.q))] :: ns) = ns2 at hc2 ⊢) | (refine CQ (MJ (l := [4, 5, 6, 7, 8, 9]) (eu := 56) (ec := 63) (eg := 73) (L := ws) (J := J1) (b4 := ⟨[[.fsl []]], 1, 26, true⟩) (fr' := [(4, .ref 4 0 0), (5, .ref 12 0 0), (6, .osl 500000 us.length), (7, .int .i64 i), (8, .int .i64 k), (9, .ref (500001 + i) k 0)]) (row := [.int .i64 v.a, .int .i64 v.b, .int .i64 v.c, .str v.p, .str v.q, .int .i64 sh, .osl 75 (0 + (ns.map (fun r => [Q1 r])).length), .fsl []]) (p := false) 75 (Sd (CandT.mk v sh ns [])) (kp6 rfl rfl rfl rfl rfl rfl) rfl hP.keys hi hk QD (fun h => by cases h) (NR (Qm Wa QD) Wq) (fun z hz => (hP.pure hi z hz).1) ⟨rfl, rfl, rfl⟩ (fun j hj hne => (Qm Wa (Qm Wa (Qm Wa (G9 hP.keys hj))))) Wc Wc Wc rfl Wg (by intro j hj; repeat (first | exact ZZ hP.keys Wa Wa Wa (.inr Wa) | refine Zx Wa ?_)) Wa (by intro p hp j hj; simp only [QiO, QiN, or_false] at hp; rcases hp with rfl | rfl | rfl | rfl | rfl | rfl <;> first | (simp [D.ids, D.sid] at hj; done) | (simp [D.ids, D.sid] at hj; subst hj; first | exact .inl rfl | exact .inr (.inl rfl) | exact .inr (.inr (.inl rfl)) | exact .inr (.inr (.inr ⟨us[i], QiR hi, (hP.keys i hi).symm⟩))))) ?_; have hc2 : JM us0.length (CandT.mk v sh ns []) := (by rw [<- hl]; exact F5 hv hns Wg); generalize hns2 : ns = ns2 at hc2 ⊢)
    generalize hus2 : H5 us i k (Sd (CandT.mk v sh ns2 [])) = us2
    have hP2 : Prog us0.length us2 i (k + 1) := hus2 ▸ hP.put hi hk ⟨_, rfl, hc2⟩ (by rw [hz]; rfl)
    have hl2 : us2.length = us.length := by rw [<- hus2, ZD]
    have hi2 : i < us2.length := Wa
    have hk2 : k < us2[i].cs.length := Tp hi hk hus2 hi2
    have hz2 : us2[i].cs[k] = Sd (CandT.mk v sh ns2 []) := To hi hk hus2.symm hi2 hk2
    refine Zr fun K hK => Qa Z (YH (HR (I := J1) Z NE hL Wa) (Yw Z Z (hK _ _ (Q3 (kp7 Z Z Z Z Z Z Z) ?_))))
    refine Xu Z (fun h5 => ?_) (fun h5 => ?_)
    ·rw [h5]
     simp only [qA] at h5
     refine Z3 fun K hK => mv2 Z Z (Qa Z ?_)
     obtain ⟨xb, J3, hxb, hcb⟩ := DG (H := (12, gB ws (nxI J1) 73) :: wA (us2) 56 63 73 ws (J1) ⟨[[.fsl []]], 1, 26, true⟩) QD (D1 hP2.keys hP2.fam hP2.vs).cons ((JE hP2.keys rfl).pr rfl) hL Wa Wa
     refine YH (hcb _ _ (by rw [hl2]; rfl) (fun _ _ h => h)) ?_
     refine QK Z (by repeat (first | exact ZZ hU.keys Wa Wa Wa (.inl Wa) | exact ZZ hP.keys Wa Wa Wa (.inl Wa) | exact ZZ hP2.keys Wa Wa Wa (.inl Wa) | refine Zx Wa ?_)) ?_
     refine Yh Z Z (Qe Z (Zv (Qm Wa (Qm Wa (Qm Wa (G9 hP2.keys hi2))))) (QZ Z (Qm Wa (Qm Wa (Qm Wa (G9 hP2.keys hi2)))) (Qdq hk2 hz2) Z Z Z Z Z (hK _ ?_)))
     refine Qh (Ze (kp5 Z Z Z Z Z) (Z3 fun K hK => Qa Z (Q2 Z Z Wb (Qa Z (hK _ ?_)))))
     refine Qk (H5 us2 i k (Sd (CandT.mk v sh ns2 [xb])), J3, k + 1) ?_ ?_ ?_
     ·exact MJ (l := [4, 5, 6, 7, 8]) (row := [.int .i64 v.a, .int .i64 v.b, .int .i64 v.c, .str v.p, .str v.q, .int .i64 sh, Q8 ns2, .osl 85 1]) (p := false) 85 (Sd (CandT.mk v sh ns2 [xb])) (kp5 rfl rfl rfl rfl rfl) (by rw [ZD, hl2] <;> rfl) hP2.keys hi2 hk2 QD (fun h => by cases h) (Bz (Qm Wa QD) rfl) (fun z hz => (hP2.pure hi2 z hz).1) ⟨rfl, rfl, rfl⟩ (fun j hj hne => (Qm Wa (Qm Wa (Qm Wa (Qm Wa (G9 hP2.keys hj)))))) Wc Wc Wc rfl Wg (by intro j hj; repeat (first | exact ZZ hP2.keys Wa Wa Wa (.inr Wa) | refine Zx Wa ?_)) Wa (by intro p hp j hj; simp only [QiO, QiN, or_false] at hp; rcases hp with rfl | rfl | rfl | rfl | rfl <;> first | (simp [D.ids, D.sid] at hj; done) | (simp [D.ids, D.sid] at hj; subst hj; first | exact .inl rfl | exact .inr (.inl rfl) | exact .inr (.inr (.inl rfl)) | exact .inr (.inr (.inr ⟨us2[i], QiR hi2, (hP2.keys i hi2).symm⟩))))
     ·exact hP2.again hi2 hk2 ⟨_, rfl, SC hc2 (by have := hxb; rwa [hl2, hl] at this)⟩ (by rw [hz2]; rfl)
     ·show T2 (H5 us2 i k _) i - (k + 1) < T2 us i - k; rw [JZ, <- hus2, JZ, Kk hi]; omega
    ·rw [h5]
     simp only [qA] at h5
     refine XL (Qh (Ze (kp5 Z Z Z Z Z) (Z3 fun K hK => Qa Z (Q2 Z Z Wb (Qa Z (hK _ ?_))))))
     refine Qk (us2, nxI J1, k + 1) ?_ ?_ ?_
     ·exact le_trans (Q4 (l := [4, 5, 6, 7, 8]) (kp5 rfl rfl rfl rfl rfl)) (KV (by rw [hl2] <;> rfl) QfR)
     ·exact hP2
     ·show T2 us2 i - (k + 1) < T2 us i - k; rw [<- hus2, JZ, Kk hi]; omega
  ·rw [h2]
   simp only [qA] at h2
   try (have hk : k < us[i].cs.length := Wa; obtain ⟨v, sh, hz, hv⟩ := hP.fresh i hi k hk Wa)
   refine Ns (XT (Qw (QE (Qh (Ze (kp4 Z Z Z Z) (Z3 fun K hK => Qa Z (Q2 Z Z Wb (Qa Z (hK _ ?_)))))))))
   refine Qk (us, J, i + 1) ?_ ?_ ?_
   ·exact Q4 (l := [4, 5, 6, 7]) (kp4 rfl rfl rfl rfl)
   ·dsimp only
    exact ⟨hP.next hi Wa, Wa, Wa⟩
   ·show us0.length - (i + 1) < us0.length - i; omega
 ·rw [h1]
  simp only [qA] at h1
  refine Ns (XT (Qw (QE (Ze (kp2 Z Z) ?_))))
  have hend : i = usA.length := by have := hPA.1.len.1; omega
  obtain ⟨w, hwl, hwm, hle⟩ := QbB (eu := 56) (ec := 63) (eg := 73) (L := ws) (J := JA) (b4 := ⟨[[.fsl []]], 1, 26, true⟩) (hend ▸ hPA.1) rfl
  refine CQ (hle (fr' := [(4, .ref 4 0 0), (6, .osl 500000 usA.length)]) (l := [4, 6]) (kp2 rfl rfl) rfl (by intro p hp j hj; simp only [QiO, QiN, or_false] at hp; rcases hp with rfl | rfl <;> (simp [D.ids, D.sid] at hj; subst hj; first | exact .inl rfl | exact .inr rfl))) (Zr fun K hK => Qa rfl (QT rfl rfl (QZ rfl rfl rfl rfl rfl rfl rfl rfl (hK _ _ (Q3 (kp1 rfl) ?_)))))
  refine Sq ?_
  refine ⟨_, ⟨w, hwm, rfl⟩, ?_⟩
  exact ZH (cs := [.osl 500000 usA.length]) (ds := [.sl (w.map Z9)]) rfl rfl rfl rfl (by simp [XV, D.fz, D.fzS, GR, lk, D.can, D.canS, hwl])
end Go.Proofs
namespace M25
open Go Go.Abs M3
/-! ### One without terms -/
open M3
def J8 (e a b c : Int) (p q : List UInt8) (f : Bool) : Bool := !decide (e = 0) || (!f && decide (p = []) && !(decide (a = 0) && (decide (b = 0) && (decide (c = 0) && (decide (p = []) && (decide (q = []) && true))))))
def Xf (x : Cu) : Bool := J8 x.e x.a x.b x.c x.p x.q x.f
theorem Qcv {e a b c : Int} {p q : List UInt8} {f : Bool} (h : XY e a b c p q f = true) : q = [] := by
 unfold XY at h
 split at h
 ·simp at h; exact h.2
 ·simp at h; exact h.1.2.2.2.2.2
theorem FV {x : Cu} (h : x.q = []) : Xf x = Xl x := by
 rw [Xf, Xl, J8, NC, NB, h]
 cases decide (x.e = 0) <;> cases x.f <;> cases hp : decide (x.p = []) <;> cases decide (x.a = 0) <;> cases decide (x.b = 0) <;> cases decide (x.c = 0) <;> simp_all
theorem FS {x : Cu} (h : Xl x = true) : Xf x = true := by
 rw [Xl, NC, NB] at h
 rw [Xf, J8]
 revert h
 cases decide (x.e = 0) <;> cases x.f <;> cases hp : decide (x.p = []) <;> cases decide (x.a = 0) <;> cases decide (x.b = 0) <;> cases decide (x.c = 0) <;> simp
theorem Qfm {l : List (Cu × Cu)} (h : Hj l = true) {s : Cu × Cu} (hs : s ∈ l) : s.1.q = [] /\ s.2.q = [] := by
 obtain ⟨i, hi, rfl⟩ := List.mem_iff_getElem.1 hs
 have := QiW.1 h i (Qi9.2 hi)
 rw [Lm hi, QiQ] at this
 have h1 := this.1
 simp only [GN, MX, QiQ] at h1
 exact ⟨Qcv h1.1.1, Qcv h1.1.2⟩
theorem N1 {s : List (Cu × Cu) × List (Cu × Cu)} {i : Nat} (hi : s.1.length <= i) (h : (s.1.take i).all (fun x => Xf x.1 && Xf x.2) = true) : Xz s = (Hj s.1 && Hj s.2) := by
 rw [Qi2 hi] at h
 rw [Xz]
 cases h1 : Hj s.1 with
 | false => rfl
 | true =>
  have : (s.1.all fun x => Xl x.1 && Xl x.2) = true := by
   rw [QiW] at h ⊢
   intro x hx
   obtain ⟨q1, q2⟩ := Qfm h1 hx
   rw [<- FV q1, <- FV q2]
   exact h x hx
  rw [this, Bool.true_and, Bool.and_true]
theorem J9 {s : List (Cu × Cu) × List (Cu × Cu)} {i : Nat} (hi : i < s.1.length) (h : Xf s.1[i].1 = false \/ Xf s.1[i].2 = false) : Xz s = false :=
 Jz hi (h.imp (fun h => by cases e : Xl s.1[i].1 with
  | false => rfl
  | true => rw [FS e] at h; cases h) (fun h => by cases e : Xl s.1[i].2 with
  | false => rfl
  | true => rw [FS e] at h; cases h))
end M25
namespace Go.Abs
open Go
/-! ### Cells told otherwise -/
theorem CellsC.setW {g : Gh} {c : Array Value} {d d' : D} (hd : d'.isCell = true) (himp : ∀ v, RepS g d v -> RepS g d' v) : ∀ {off : Nat} {row : List D} {j : Nat}, CellsC g c off row -> row[j]? = some d -> CellsC g c off (row.set j d')
 | _, [], j, _, h => by simp at h
 | off, x :: row, 0, hc, h => by
  simp at h; subst h
  simp only [List.set_cons_zero, CellsC] at hc ⊢
  obtain ⟨⟨h1, y, h2, h3⟩, h4⟩ := hc
  exact ⟨⟨hd, y, h2, himp y h3⟩, h4⟩
 | off, x :: row, j + 1, hc, h => by
  simp only [List.set_cons_succ, CellsC] at hc ⊢
  exact ⟨hc.1, CellsC.setW hd himp hc.2 (by simpa using h)⟩
theorem RowsC.setW {g : Gh} {c : Array Value} {d d' : D} (hd : d'.isCell = true) (himp : ∀ v, RepS g d v -> RepS g d' v) : ∀ {off : Nat} {rows : List (List D)} {i j : Nat} {row : List D}, RowsC g c off rows -> rows[i]? = some row -> row[j]? = some d -> RowsC g c off (rows.set i (row.set j d'))
 | _, [], i, _, _, _, h, _ => by simp at h
 | off, r :: rows, 0, j, row, hc, h, hj => by
  simp at h; subst h
  simp only [List.set_cons_zero, RowsC, List.length_set] at hc ⊢
  exact ⟨CellsC.setW hd himp hc.1 hj, hc.2⟩
 | off, r :: rows, i + 1, j, row, hc, h, hj => by
  simp only [List.set_cons_succ, RowsC] at hc ⊢
  exact ⟨hc.1, RowsC.setW hd himp hc.2 (by simpa using h) hj⟩
section
variable {fr : QiK} {H : QiJ}
theorem QdF (k esz et : Nat) (hk : lk H k = none) : St.le ⟨fr, H⟩ ⟨fr, (k, ⟨[], esz, et, true⟩) :: H⟩ := fun E g a w r =>
 let ⟨g', _, _, r'⟩ := r.allocEmpty (esz := esz) (et := et) (t := k) hk
 ⟨g', r'⟩
theorem QbH {rows : List (List D)} {row : List D} {d' : D} {i j : Nat} (hrow : rows[i]? = some row) {r : List D} (hr : r ∈ rows.set i (row.set j d')) {x : D} (hx : x ∈ r) : x = d' \/ ∃ r0 ∈ rows, x ∈ r0 := by
 rcases List.mem_or_eq_of_mem_set hr with h | rfl
 ·exact .inr ⟨r, h, hx⟩
 ·rcases List.mem_or_eq_of_mem_set hx with h | rfl
  ·exact .inr ⟨row, List.mem_of_getElem? hrow, h⟩
  ·exact .inl rfl
theorem QbA {kk i j : Nat} {b : Box} {row : List D} {d : D} (d' : D) (pr' : Bool) (hb : lk H kk = some b) (hrow : b.rows[i]? = some row) (hj : row[j]? = some d) (hd : d'.isCell = true) (himp : ∀ (g : Gh) v, RepS g d v -> RepS g d' v)
  (hs : ∀ x ∈ d'.sid, (lk H x).isSome = true) (hpr : pr' = true -> ∀ r ∈ b.rows.set i (row.set j d'), ∀ x ∈ r, x.sid = []) :
  St.le ⟨fr, H⟩ ⟨fr, (kk, { b with rows := b.rows.set i (row.set j d'), pr := pr' }) :: H⟩ := fun E g a w r => by
 have hsome : ∀ k, (lk ((kk, ({ b with rows := b.rows.set i (row.set j d'), pr := pr' } : Box)) :: H) k).isSome = (lk H k).isSome := fun k => by
  rw [Ql]; split
  ·rename_i e; subst e; rw [hb]; rfl
  ·rfl
 refine ⟨g, r.nt, r.df, r.fr, fun t x h k hk => (hsome k).trans (r.wfF t x h k hk), fun k b' h x hx => (hsome x).trans ?_, fun k b' h => ?_, fun k k' b1 b2 B e e' h1 h2 => ?_, r.kr, r.ext, r.kx, fun k hk => let ⟨h1, h2, h3, h4⟩ := r.kp k hk; ⟨h1, h2, h3, (hsome k).trans h4⟩⟩
 ·rw [Ql] at h
  split at h
  ·cases h
   simp only [Box.ids] at hx
   split at hx
   ·cases hx
   ·obtain ⟨r0, hr0, hx⟩ := QiT.1 hx
    obtain ⟨y, hy, hxy⟩ := QiT.1 hx
    rcases QbH hrow hr0 hy with e | ⟨r1, h1, h2⟩
    ·rw [e] at hxy; exact hs x hxy
    ·exact r.wfB kk b hb r1 h1 y h2 x hxy
  ·exact r.wfH k b' h x hx
 ·rw [Ql] at h
  split at h
  ·rename_i e; subst e; cases h
   obtain ⟨h1, h2, h3⟩ := r.bx kk b hb
   refine ⟨fun r0 hr0 => ?_, hpr, ?_⟩
   ·rcases List.mem_or_eq_of_mem_set hr0 with h | rfl
    ·exact h1 r0 h
    ·rw [List.length_set]; exact h1 row (List.mem_of_getElem? hrow)
   ·rcases h3 with ⟨h3, _⟩ | ⟨h3, B, c, q1, q2, q3, q4, q5⟩
    ·rw [h3] at hrow; simp at hrow
    ·exact .inr ⟨fun h => h3 (by simpa using congrArg List.length h), B, c, q1, q2, q3, RowsC.setW hd (himp g) q4 hrow hj, q5⟩
  ·exact r.bx k b' h
 ·have hx : ∀ k b', lk ((kk, ({ b with rows := b.rows.set i (row.set j d'), pr := pr' } : Box)) :: H) k = some b' -> ∃ b0, lk H k = some b0 := fun k b' h => by
   have := hsome k
   rw [h] at this
   exact QiS.1 this.symm
  obtain ⟨_, h1⟩ := hx k b1 h1
  obtain ⟨_, h2⟩ := hx k' b2 h2
  exact r.inj k k' _ _ B e e' h1 h2
theorem QdI {k : Nat} (g : Gh) (v : Value) (h : RepS g (.fsl []) v) : RepS g (.osl k 0) v := by
 simp only [RepS, RepP] at h
 obtain ⟨a, rfl, _⟩ := h
 exact ⟨a, 0, rfl, Nat.le_refl _, .inl ⟨rfl, rfl⟩⟩
end
end Go.Abs
namespace Go.Abs
abbrev gD : D := .ptr [.int .i64 0, .int .i64 0, .int .i64 0, .str [], .str []]
end Go.Abs
