/- Part 4 of the means of the proof: a verified abstract evaluator, the prepared functions, and contracts of functions. It states nothing of the claim by itself. -/
import Derived.Test.YtoajjnegidhknaaGreatDoorB3
set_option maxRecDepth 4000
set_option linter.unusedSimpArgs false
set_option linter.unusedVariables false
namespace Go.Proofs
open Go Go.Abs M3
theorem R9 {a b : List UInt8} (ha : a.length <= 1000000) (hb : b.length <= 1000000) : Ok Tryz.prog 148 [.str a, .str b] (.int .i64 (Lt a b)) := by
 refine Ok.ofT ZN Tryz.func148 Qhj (QiY Z) ?_
 show TW _ _ tf148.body _ _
 refine Qd fun K hK => Qa Z (kc2 hK Z Z ?_)
 refine Qd fun K hK => Qa Z (Qw (XH Wa) Z Z (.inr Z) (Qa Z (Qw (XH Wa) Z Z (.inr Z) (mv2 Z Z (kc4 hK Z Z Z Z ?_)))))
 refine QB ?_ -- 0
 refine Qd fun K hK => mv2 Z Z ?_
 refine Qu (g := 16) Z (fun h1 => ?_) (fun h1 => ?_)
 ·rw [h1]
  refine Qe Z (Qa Z (Qh Z Z (kc5 hK Z Z Z Z Z ?_)))
  refine Qt Z (fun h2 => ?_) (fun h2 => ?_)
  ·rw [h2]
   refine Qd fun K hK => Qa Z (Qw (Kj Wa) Z Z (.inr Z) (Qa Z (QX Z Z (QX Z Z (mv2 Z Z (kc2 hK Z Z ?_))))))
   refine Qd fun K hK => Qa Z (Qw (Kj Wa) Z Z (.inr Z) (Qa Z (QX Z Z (QX Z Z (mv2 Z Z (kc2 hK Z Z ?_))))))
   refine Qd fun K hK => mv2 Z Z (Qw (ZO) Z Z (.inr Z) (Qa Z (kc1 hK Z ?_)))
   refine Qp (Qj (Qx Z ?_))
   (simp [Lt, h1, h2]; done)
  ·rw [h2]
   refine Qq (ks4 Z Z Z Z ?_)
   refine QB ?_ -- 1
   refine Qd fun K hK => mv2 Z Z (Qe7 Z Z (kc4 hK Z Z Z Z ?_))
   refine Qt Z (fun h3 => ?_) (fun h3 => ?_)
   ·rw [h3]
    simp only [qB] at h3
    refine QB ?_ -- 2
    refine Qd fun K hK => Qa Z (kc1 hK Z ?_)
    refine Zn Z (Qd fun K hK => Qa Z (kc1 hK Z ?_))
    refine Qp (Qj (Qj (Qx Z ?_)))
    (simp [Lt, h1, h2, h3]; done)
   ·rw [h3]
    simp only [qB] at h3
    refine Qq (ks2 Z Z (Qd fun K hK => mv2 Z Z (Qw (X8) Z Z (.inr Z) (Qa Z (kc1 hK Z ?_)))))
    refine Qp (Qx Z ?_)
    (repeat clear hK K); (simp_all [Lt]; done)
 ·rw [h1]
  refine YN Z (Qh Z Z (kc5 hK Z Z Z Z Z ?_))
  refine Zk Z (Qq (ks4 Z Z Z Z ?_))
  refine QB ?_ -- 1
  refine Qd fun K hK => mv2 Z Z (Qe7 Z Z (kc4 hK Z Z Z Z ?_))
  refine Qt Z (fun h4 => ?_) (fun h4 => ?_)
  ·rw [h4]
   simp only [qB] at h4
   refine QB ?_ -- 2
   refine Qd fun K hK => Qa Z (kc1 hK Z ?_)
   refine Zk Z (Qq (QP (Zm) (Qd fun K hK => Qa Z (kc1 hK Z ?_))))
   refine Qp (Qj (Qx Z ?_))
   (repeat clear hK K); (simp_all [Lt]; done)
  ·rw [h4]
   simp only [qB] at h4
   refine Qq (ks2 Z Z (Qd fun K hK => mv2 Z Z (Qw (X8) Z Z (.inr Z) (Qa Z (kc1 hK Z ?_)))))
   refine Qp (Qx Z ?_)
   (repeat clear hK K); (simp_all [Lt]; done)
theorem R8 {s : List UInt8} (hl : s.length <= 1000000) : Ok Tryz.prog 115 [.str s] (.bool (TU s)) := by
 refine Ok.ofT ZN Tryz.func115 QgQ (QiY Z) ?_
 show TW _ _ tf115.body _ _
 refine Qd fun K hK => Qa Z (kc1 hK Z ?_)
 refine QB ?_ -- 0
 refine Qd fun K hK => Qa Z (Qw (Km Wa) Z Z (.inr Z) (ZH Z (kc2 hK Z Z ?_)))
 refine Qt Z (fun h1 => ?_) (fun h1 => ?_)
 ·rw [h1]
  simp only [qB, Qv] at h1
  refine Qd fun K hK => Qa Z (kc1 hK Z ?_)
  refine Qp (Qj (Qk Z ?_))
  (simp [TU, h1]; done)
 ·rw [h1]
  simp only [qB, Qv] at h1
  refine Qq (ks1 Z ?_)
  refine QB ?_ -- 1
  refine Qd fun K hK => Qa Z (Qw (Jm Wa) Z Z (.inl Z) (Zb Z Z (Qa Z (kc3 hK Z Z Z ?_))))
  refine QA ?_
  refine Zg (ι := Nat) (fun i => ⟨[(11, .sl (Y1 (Za s 46))), (12, .int .i64 (Za s 46).length), (13, .int .i64 i)], []⟩) (fun i => i <= (Za s 46).length /\ ((Za s 46).take i).all Rb = true) (fun i => (Za s 46).length - i) 0 ?_ ?_ ?_
  ·exact QZ (l := [11, 12, 13]) (kp3 rfl rfl rfl) Ql (by simp [Qv]) rfl rfl
  ·exact ⟨Qja _, rfl⟩
  intro i hI
  have sl := Nd (s := s) (c := 46)
  refine Qd fun K hK => ZS Z Z (kc4 hK Z Z Z Z ?_)
  refine QB ?_ -- 2
  refine Qt Z (fun h2 => ?_) (fun h2 => ?_)
  ·rw [h2]
   simp only [qB, Qv] at h2
   refine Qq (ks3 Z Z Z ?_)
   refine QB ?_ -- 3
   refine QA (Qd fun K hK => QG Z Z Z Wa (Jo Wa) Z (Qy Z Z Z (Qa Z (kc4 hK Z Z Z Z ?_))))
   refine Qd fun K hK => Qa Z (Qw (Kj (Jq Wa hl)) Z Z (.inr Z) (Qa Z (QX Z Z (QX Z Z (mv2 Z Z (kc5 hK Z Z Z Z Z ?_))))))
   refine Qd fun K hK => Qa Z (Qw (XH (Jq Wa hl)) Z Z (.inr Z) (Qa Z ?_))
   refine Qu (g := 24) Z (fun h3 => ?_) (fun h3 => ?_)
   ·rw [h3]
    refine Qe Z (Qa Z (Qe Z (ZH Z (Qh Z Z (kc4 hK Z Z Z Z ?_)))))
    refine Qt Z (fun h4 => ?_) (fun h4 => ?_)
    ·rw [h4]
     simp only [qB, Qv] at h4
     refine Qd fun K hK => Qa Z (kc1 hK Z ?_)
     refine Qp (Qr (Qj (QR (Qr (Qj (Qk Z ?_))))))
     exact (Qeq (i := i) Wa (by simp [Rb, h1, h2, h3, h4])).symm
    ·rw [h4]
     simp only [qB, Qv] at h4
     refine Qq (Qf (ks3 Z Z Z (QL fun K hK => QW Z Z Wb (Qa Z (hK _ ?_)))))
     refine Qi (i + 1) ?_ ?_ ?_
     ·exact QS (kp3 rfl rfl rfl)
     ·exact ⟨Wa, Zr Wa hI.2 (by simp [Rb, h1, h2, h3, h4])⟩
     ·omega
   ·rw [h3]
    refine gn2 Z Z (Qh Z Z (kc4 hK Z Z Z Z ?_))
    refine Zk Z (Qq (Qf (ks3 Z Z Z (QL fun K hK => QW Z Z Wb (Qa Z (hK _ ?_))))))
    refine Qi (i + 1) ?_ ?_ ?_
    ·exact QS (kp3 rfl rfl rfl)
    ·exact ⟨Wa, Zr Wa hI.2 (by simp [Rb, h1, h2, h3])⟩
    ·omega
  ·rw [h2]
   simp only [qB, Qv] at h2
   refine Q2 (QE (Qs (QC (QP (Zm) (Qd fun K hK => Qa Z (kc1 hK Z ?_))))))
   refine Qp (Qk Z ?_)
   exact (Qcx (i := i) Wh Wa hI.2).symm
theorem Y0 {a b c : Int} {p q : List UInt8} (hp : p.length <= 1000000) (hq : q.length <= 1000000) : Ok Tryz.prog 97 [.agg [.int .i64 a, .int .i64 b, .int .i64 c, .str p, .str q]] (.bool (K7 a b c p q)) := by
 refine Ok.ofT ZN Tryz.func97 QiS (QiY Z) ?_
 show TW _ _ tf97.body _ _
 refine Qd fun K hK => Zp Z Z Z (Qa Z (kc1 hK Z ?_))
 refine Qd fun K hK => Qg Z Z (Qy Z Z Z (Qw (Kl) Z Z (.inr Z) (Qa Z ?_)))
 refine Qu (g := 6) Z (fun h1 => ?_) (fun h1 => ?_)
 ·rw [h1]
  refine Qe Z (Qg Z Z (Qe Z (Qy Z Z Z (Qe Z (Qw (Kl) Z Z (.inr Z) (Qh Z Z (Qa Z ?_)))))))
  refine Qu (g := 11) Z (fun h2 => ?_) (fun h2 => ?_)
  ·rw [h2]
   refine Qe Z (Qg Z Z (Qe Z (Qy Z Z Z (Qe Z (Qw (Kl) Z Z (.inr Z) (Qh Z Z (Qa Z ?_)))))))
   refine Qu (g := 16) Z (fun h3 => ?_) (fun h3 => ?_)
   ·rw [h3]
    refine Qe Z (Qg Z Z (Qe Z (Qy Z Z Z (Qe Z (Hw Z Z (Qe Z (Qa Z ?_)))))))
    refine Qu (g := 20) Z (fun h4 => ?_) (fun h4 => ?_)
    ·rw [h4]
     simp only [qB] at h4
     refine gn3 Z Z Z (Qe Z (Qh Z Z (Qh Z Z (Qa Z (Qe Z (Qg Z Z (Qe Z (Qy Z Z Z (Qe Z ?_)))))))))
     refine Hw Z Z (Qe Z (Qa Z ?_))
     refine Qu (g := 30) Z (fun h5 => ?_) (fun h5 => ?_)
     ·rw [h5]
      simp only [qB] at h5
      refine gn3 Z Z Z (Qe Z (Qh Z Z (Qh Z Z (Qa Z (kc1 hK Z ?_)))))
      refine Qp (Qk Z ?_)
      simp [K7, YX, Xr, h1, h2, h3, h4, h5]
     ·rw [h5]
      simp only [qB] at h5
      refine Qe Z (Qg Z Z (Qe Z (Qy Z Z Z (Qe Z (Qw (Km Wa) Z Z (.inr Z) (Qe Z (Qh Z Z (Qh Z Z (Qa Z (kc1 hK Z ?_))))))))))
      refine Qp (Qk Z ?_)
      simp [K7, YX, Xr, h1, h2, h3, h4, h5]
    ·rw [h4]
     simp only [qB] at h4
     refine Qe Z (Qg Z Z (Qe Z (Qy Z Z Z (Qe Z (Qw (R8 Wa) Z Z (.inr Z) (Qe Z (Qh Z Z (Qh Z Z (Qa Z ?_)))))))))
     refine Qu (g := 26) Z (fun h6 => ?_) (fun h6 => ?_)
     ·rw [h6]
      refine Qe Z (Qg Z Z (Qe Z (Qy Z Z Z (Qe Z (Hw Z Z (Qe Z (Qa Z ?_)))))))
      refine Qu (g := 30) Z (fun h7 => ?_) (fun h7 => ?_)
      ·rw [h7]
       simp only [qB] at h7
       refine gn3 Z Z Z (Qe Z (Qh Z Z (Qh Z Z (Qa Z (kc1 hK Z ?_)))))
       refine Qp (Qk Z ?_)
       simp [K7, YX, Xr, h1, h2, h3, h4, h6, h7]
      ·rw [h7]
       simp only [qB] at h7
       refine Qe Z (Qg Z Z (Qe Z (Qy Z Z Z (Qe Z (Qw (Km Wa) Z Z (.inr Z) (Qe Z (Qh Z Z (Qh Z Z (Qa Z (kc1 hK Z ?_))))))))))
       refine Qp (Qk Z ?_)
       simp [K7, YX, Xr, h1, h2, h3, h4, h6, h7]
     ·rw [h6]
      refine gn4 Z Z Z Z (QH Z (QH Z (QH Z (YN Z (Qh Z Z (Qa Z (kc1 hK Z ?_)))))))
      refine Qp (Qk Z ?_)
      simp [K7, YX, Xr, h1, h2, h3, h4, h6]
   ·rw [h3]
    refine gn4 Z Z Z Z (QH Z (QH Z (QH Z (YN Z (Qh Z Z (Qa Z (gn2 Z Z ?_)))))))
    refine gn2 Z Z (QH Z (QH Z (QH Z (YN Z (Qh Z Z (Qa Z (kc1 hK Z ?_)))))))
    refine Qp (Qk Z ?_)
    simp [K7, YX, Xr, h1, h2, h3]
  ·rw [h2]
   refine gn3 Z Z Z (Qh Z Z (Qa Z (gn4 Z Z Z Z (QH Z (QH Z (QH Z ?_))))))
   refine YN Z (Qh Z Z (Qa Z (gn4 Z Z Z Z (QH Z (QH Z (QH Z (YN Z (Qh Z Z ?_))))))))
   refine Qa Z (kc1 hK Z ?_)
   refine Qp (Qk Z ?_)
   simp [K7, YX, Xr, h1, h2]
 ·rw [h1]
  refine gn3 Z Z Z (Qh Z Z (Qa Z (gn3 Z Z Z (Qh Z Z (Qa Z (gn2 Z Z ?_))))))
  refine gn2 Z Z (QH Z (QH Z (QH Z (YN Z (Qh Z Z (Qa Z (gn4 Z Z Z Z ?_)))))))
  refine QH Z (QH Z (QH Z (YN Z (Qh Z Z (Qa Z (kc1 hK Z ?_))))))
  refine Qp (Qk Z ?_)
  simp [K7, YX, Xr, h1]
theorem KA {a b c : Int} {p q : List UInt8} (hp : p.length <= 1000000) (hq : q.length <= 1000000) {a' b' c' : Int} {p' q' : List UInt8} (hp' : p'.length <= 1000000) (hq' : q'.length <= 1000000) : Ok Tryz.prog 143 [.agg [.int .i64 a, .int .i64 b, .int .i64 c, .str p, .str q], .agg [.int .i64 a', .int .i64 b', .int .i64 c', .str p', .str q']] (.int .i64 (Mj a b c p q a' b' c' p' q')) := by
 refine Ok.ofT ZN Tryz.func143 Qhe (QiY Z) ?_
 show TW _ _ tf143.body _ _
 refine Qd fun K hK => Zp Z Z Z (Zp Z Z Z (Qa Z (kc2 hK Z Z ?_)))
 refine QB ?_ -- 0
 refine Qd fun K hK => QM (ds0 := [13, 12, 11, 10, 9, 8, 7, 6, 5, 4, 3, 2, 1, 0]) (cs := [_, _, _, _, _]) Z Z Z Z Z Z (Q0 (ds0 := [12, 11, 10, 9, 8, 7, 6, 5, 4, 3, 2, 1, 0]) (Y0 Wa Wa) Z Z (.inr Z) Z Z (ZH Z (Qa Z ?_)))
 refine Qu (g := 13) Z (fun h1 => ?_) (fun h1 => ?_)
 ·rw [h1]
  simp only [qB, Qv] at h1
  refine gn3 Z Z Z (Qh Z Z (Qa Z (gn4 Z Z Z Z (YN Z (Qh Z Z (kc3 hK Z Z Z ?_))))))
  refine Zn Z (Qd fun K hK => Qa Z (kc1 hK Z ?_))
  refine Qp (Qj (Qx Z ?_))
  (simp [Mj, h1]; done)
 ·rw [h1]
  simp only [qB, Qv] at h1
  refine Qe Z (QM (ds0 := [9, 8, 7, 6, 5, 4, 3, 2, 1, 0]) (cs := [_, _, _, _, _]) Z Z Z Z Z Z (Qe Z (Q0 (ds0 := [8, 7, 6, 5, 4, 3, 2, 1, 0]) (Y0 Wa Wa) Z Z (.inr Z) Z Z (Qe Z (ZH Z (Qh Z Z (Qa Z ?_)))))))
  refine Qu (g := 18) Z (fun h2 => ?_) (fun h2 => ?_)
  ·rw [h2]
   simp only [qB, Qv] at h2
   refine gn4 Z Z Z Z (YN Z (Qh Z Z (kc3 hK Z Z Z ?_)))
   refine Zn Z (Qd fun K hK => Qa Z (kc1 hK Z ?_))
   refine Qp (Qj (Qx Z ?_))
   (simp [Mj, h1, h2]; done)
  ·rw [h2]
   simp only [qB, Qv] at h2
   refine Qe Z (QM (ds0 := [4, 1, 0]) (cs := [_, _, _, _, _]) Z Z Z Z Z Z (Qe Z (Q0 (ds0 := [1, 0]) (GS) Z Z (.inl Z) Z Z (Qe Z (QM (ds0 := [2, 1, 0]) (cs := [_, _, _, _, _]) Z Z Z Z Z Z (Qe Z (Q0 (ds0 := [1, 0]) (GS) Z Z (.inl Z) Z Z (Qe Z (Fm Z Z Z (Qh Z Z (kc3 hK Z Z Z ?_)))))))))))
   refine Qt Z (fun h3 => ?_) (fun h3 => ?_)
   ·rw [h3]
    simp only [qB, Qv] at h3
    refine Qd fun K hK => Qa Z (kc1 hK Z ?_)
    refine Qp (Qj (Qx Z ?_))
    exact (Qfj Wh Wh Wh).symm
   ·rw [h3]
    simp only [qB, Qv] at h3
    refine Qq (ks2 Z Z ?_)
    refine QB ?_ -- 1
    refine Qd fun K hK => Qg Z Z (QQ (ds0 := [13, 2, 1, 0]) Z Z Z Z Z (Qg Z Z (QQ (ds0 := [13, 2, 1, 0]) Z Z Z Z Z (Q0 (ds0 := [2, 1, 0]) (ZO) Z Z (.inr Z) Z Z (Qg Z Z (QQ (ds0 := [8, 2, 1, 0]) Z Z Z Z Z (Qg Z Z (QQ (ds0 := [8, 2, 1, 0]) Z Z Z Z Z (Q0 (ds0 := [2, 1, 0]) (ZO) Z Z (.inr Z) Z Z (Qg Z Z ?_))))))))))
    refine QQ (ds0 := [3, 2, 1, 0]) Z Z Z Z Z (Qg Z Z (QQ (ds0 := [3, 2, 1, 0]) Z Z Z Z Z (Q0 (ds0 := [2, 1, 0]) (ZO) Z Z (.inr Z) Z Z (QK Z Z (Q0 (ds0 := [0]) (To (l := [ZX a a', ZX b b', ZX c c']) Wd) Z Z (.inr Z) Z Z (Qa Z (kc3 hK Z Z Z ?_)))))))
    refine Qd fun K hK => Qa Z (Ym Z Z (kc4 hK Z Z Z Z ?_))
    refine Qt Z (fun h4 => ?_) (fun h4 => ?_)
    ·rw [h4]
     simp only [qB, Qv] at h4
     refine Qd fun K hK => mv2 Z Z (kc1 hK Z ?_)
     refine Qp (Qj (Qx Z ?_))
     exact QdV Wh Wh Wh
    ·rw [h4]
     simp only [qB, Qv] at h4
     refine Qq (ks2 Z Z ?_)
     refine QB ?_ -- 2
     refine Qd fun K hK => Qg Z Z (Qy Z Z Z (Hw Z Z (kc3 hK Z Z Z ?_)))
     refine Qt Z (fun h5 => ?_) (fun h5 => ?_)
     ·rw [h5]
      simp only [qB, Qv] at h5
      refine Qd fun K hK => Qa Z (kc1 hK Z ?_)
      refine Qp (Qj (Qx Z ?_))
      exact (QbJ Wh Wh Wh Wh Wh).symm
     ·rw [h5]
      simp only [qB, Qv] at h5
      refine Qq (ks2 Z Z ?_)
      refine QB ?_ -- 3
      refine Qd fun K hK => Qg Z Z (Qy Z Z Z (Hw Z Z (kc3 hK Z Z Z ?_)))
      refine Qt Z (fun h6 => ?_) (fun h6 => ?_)
      ·rw [h6]
       simp only [qB, Qv] at h6
       refine Qd fun K hK => Qa Z (kc1 hK Z ?_)
       refine Qp (Qj (Qx Z ?_))
       exact (QbK Wh Wh Wh Wh Wh).symm
      ·rw [h6]
       simp only [qB, Qv] at h6
       refine Qq (ks2 Z Z (Qd fun K hK => Qg Z Z (QQ (ds0 := [5, 1]) Z Z Z Z Z (Q0 (ds0 := [1]) (Jm Wa) Z Z (.inl Z) Z Z (Qg Z Z (QQ (ds0 := [2, 0]) Z Z Z Z Z (Q0 (ds0 := [0]) (Jm Wa) Z Z (.inl Z) Z Z (mv2 Z Z (kc2 hK Z Z ?_)))))))))
       refine QB ?_ -- 4
       refine Qd fun K hK => Qa Z (kc3 hK Z Z Z ?_)
       refine QA ?_
       refine Zg (ι := Nat) (fun i => ⟨[(6, .sl (Y1 (Za p 46))), (7, .sl (Y1 (Za p' 46))), (8, .int .i64 i)], []⟩) (fun i => i <= (Za p 46).length /\ i <= (Za p' 46).length /\ Mj a b c p q a' b' c' p' q' = Cc ((Za p 46).drop i) ((Za p' 46).drop i)) (fun i => (Za p 46).length - i) 0 ?_ ?_ ?_
       ·exact QZ (l := [6, 7, 8]) (kp3 rfl rfl rfl) Ql rfl rfl rfl
       ·exact ⟨Qja _, Qja _, QdW Wh Wh Wh Wh Wh Wh⟩
       intro i hI
       have sl := Nd (s := p) (c := 46)
       refine QB ?_ -- 5
       refine Qd fun K hK => mv2 Z Z (Zb Z Z (ZS Z Z (Qa Z ?_)))
       refine Qu (g := 61) Z (fun h7 => ?_) (fun h7 => ?_)
       ·rw [h7]
        simp only [qB, Qv] at h7
        refine Qe Z (Qa Z (Qe Z (Qa Z (Qe Z (Zb Z Z (Qe Z (ZS Z Z (Qh Z Z (kc4 hK Z Z Z Z ?_)))))))))
        refine Qt Z (fun h8 => ?_) (fun h8 => ?_)
        ·rw [h8]
         simp only [qB, Qv] at h8
         refine Qq (ks3 Z Z Z ?_)
         refine QB ?_ -- 6
         refine QA (Qd fun K hK => mv2 Z Z (QG Z Z Z Wa (Jo Wa) Z (QQ (ds0 := [1, 0]) Z Z Z Z Z (mv2 Z Z (QG Z Z Z Wa (Jo Wa) Z (QQ (ds0 := [1, 0]) Z Z Z Z Z (Q0 (ds0 := [0]) (R9 (Jq Wa hp) (Jq Wa hp')) Z Z (.inr Z) Z Z (Qa Z ?_))))))))
         refine kc4 hK Z Z Z Z ?_
         refine Qd fun K hK => Qa Z (Ym Z Z (kc5 hK Z Z Z Z Z ?_))
         refine Qt Z (fun h9 => ?_) (fun h9 => ?_)
         ·rw [h9]
          simp only [qB, Qv] at h9
          refine Qd fun K hK => mv2 Z Z (kc1 hK Z ?_)
          refine Qp (Qr (Qj (QR (Qr (Qj (Qx Z ?_))))))
          rw [hI.2.2, Cd Wa Wa Wh]
         ·rw [h9]
          simp only [qB, Qv] at h9
          refine Qq (Qf (ks3 Z Z Z (QL fun K hK => Qa Z (QW Z Z Wb (Qa Z (hK _ ?_))))))
          refine Qi (i + 1) ?_ ?_ ?_
          ·exact QS (kp3 rfl rfl rfl)
          ·exact ⟨Wa, Wa, by rw [hI.2.2, TV Wa Wa Wh]⟩
          ·omega
        ·rw [h8]
         simp only [qB, Qv] at h8
         refine Q2 (QE (Qs (QC (ks2 Z Z (Qd fun K hK => Qa Z (Zb Z Z (Qa Z (Zb Z Z (Qw (ZO) Z Z (.inr Z) (Qa Z ?_))))))))))
         refine kc1 hK Z ?_
         refine Qp (Qx Z ?_)
         (rw [hI.2.2, Mo Wa Wa Wa]; simp [Qv])
       ·rw [h7]
        simp only [qB, Qv] at h7
        refine gn4 Z Z Z Z (Qh Z Z (kc4 hK Z Z Z Z ?_))
        refine Zk Z (Q2 (QE (Qs (QC (ks2 Z Z (Qd fun K hK => Qa Z (Zb Z Z (Qa Z (Zb Z Z (Qw (ZO) Z Z (.inr Z) ?_))))))))))
        refine Qa Z (kc1 hK Z ?_)
        refine Qp (Qx Z ?_)
        (rw [hI.2.2, Mo Wa Wa Wa]; simp [Qv])
theorem HC {e a b c : Int} {p q : List UInt8} {f : Bool} (hp : p.length <= 1000000) (hq : q.length <= 1000000) : Ok Tryz.prog 141 [.agg [.int .i64 e, .int .i64 a, .int .i64 b, .int .i64 c, .str p, .str q, .bool f]] (.bool (X4 e a b c p q f)) := by
 refine Ok.ofT ZN Tryz.func141 Qhc (QiY Z) ?_
 show TW _ _ tf141.body _ _
 refine Qd fun K hK => Zp Z Z Z (Qa Z (kc1 hK Z ?_))
 refine QB ?_ -- 0
 refine Qd fun K hK => Qg Z Z (Qy Z Z Z (Yt Z Z (Qa Z ?_)))
 refine Qu (g := 6) Z (fun h1 => ?_) (fun h1 => ?_)
 ·rw [h1]
  simp only [qB] at h1
  refine gn3 Z Z Z (Qh Z Z (kc2 hK Z Z ?_))
  refine Zn Z (Qd fun K hK => Qg Z Z (QD (cs := [_, _, _, _, _]) Z Z Z Z (Q1 Z Z (Fm Z Z Z (Qa Z ?_)))))
  refine Qu (g := 15) Z (fun h2 => ?_) (fun h2 => ?_)
  ·rw [h2]
   simp only [qB] at h2
   refine Qe Z (Qg Z Z (Qe Z (Qy Z Z Z (Qe Z (ZH Z (Qh Z Z (Qa Z (kc1 hK Z ?_))))))))
   refine Qp (Qj (Qk Z ?_))
   (repeat clear hK K); (simp_all [X4]; done)
  ·rw [h2]
   simp only [qB] at h2
   refine gn3 Z Z Z (Qh Z Z (Qa Z (kc1 hK Z ?_)))
   refine Qp (Qj (Qk Z ?_))
   (repeat clear hK K); (simp_all [X4]; done)
 ·rw [h1]
  simp only [qB] at h1
  refine Qe Z (Qg Z Z (Qe Z (Qy Z Z Z (Qe Z (Yt Z Z (Qh Z Z (kc2 hK Z Z ?_)))))))
  refine Qt Z (fun h3 => ?_) (fun h3 => ?_)
  ·rw [h3]
   simp only [qB] at h3
   refine Qd fun K hK => Qg Z Z (QD (cs := [_, _, _, _, _]) Z Z Z Z (Q1 Z Z (Fm Z Z Z (Qa Z ?_))))
   refine Qu (g := 15) Z (fun h4 => ?_) (fun h4 => ?_)
   ·rw [h4]
    simp only [qB] at h4
    refine Qe Z (Qg Z Z (Qe Z (Qy Z Z Z (Qe Z (ZH Z (Qh Z Z (Qa Z (kc1 hK Z ?_))))))))
    refine Qp (Qj (Qk Z ?_))
    (repeat clear hK K); (simp_all [X4]; done)
   ·rw [h4]
    simp only [qB] at h4
    refine gn3 Z Z Z (Qh Z Z (Qa Z (kc1 hK Z ?_)))
    refine Qp (Qj (Qk Z ?_))
    (repeat clear hK K); (simp_all [X4]; done)
  ·rw [h3]
   simp only [qB] at h3
   refine Qd fun K hK => Qg Z Z (Qy Z Z Z (Ym Z Z (kc2 hK Z Z ?_)))
   refine Qt Z (fun h5 => ?_) (fun h5 => ?_)
   ·rw [h5]
    simp only [qB] at h5
    refine Qd fun K hK => Qa Z (kc1 hK Z ?_)
    refine Qp (Qj (Qk Z ?_))
    (repeat clear hK K); (simp_all [X4]; done)
   ·rw [h5]
    simp only [qB] at h5
    refine Qq (ks1 Z (Qd fun K hK => Qg Z Z (QD (cs := [_, _, _, _, _]) Z Z Z Z (Qw (Y0 Wa Wa) Z Z (.inr Z) (Qa Z ?_)))))
    refine Qu (g := 26) Z (fun h6 => ?_) (fun h6 => ?_)
    ·rw [h6]
     refine Qe Z (Qg Z Z (Qe Z (Qg Z Z (Qe Z (Qy Z Z Z (Qe Z (Hw Z Z (Qh Z Z (Qa Z (kc1 hK Z ?_))))))))))
     refine Qp (Qk Z ?_)
     (repeat clear hK K); (simp_all [X4]; done)
    ·rw [h6]
     refine gn4 Z Z Z Z (Qh Z Z (Qa Z (kc1 hK Z ?_)))
     refine Qp (Qk Z ?_)
     (repeat clear hK K); (simp_all [X4]; done)
theorem Fu {e a b c : Int} {p q : List UInt8} {f : Bool} (hp : p.length <= 1000000) (hq : q.length <= 1000000) {e' a' b' c' : Int} {p' q' : List UInt8} {f' : Bool} (hp' : p'.length <= 1000000) (hq' : q'.length <= 1000000) : Ok Tryz.prog 130 [.agg [.int .i64 e, .int .i64 a, .int .i64 b, .int .i64 c, .str p, .str q, .bool f], .agg [.int .i64 e', .int .i64 a', .int .i64 b', .int .i64 c', .str p', .str q', .bool f']] (.int .i64 (Kr e a b c p q f e' a' b' c' p' q' f')) := by
 refine Ok.ofT ZN Tryz.func130 Qg3 (QiY Z) ?_
 show TW _ _ tf130.body _ _
 refine Qd fun K hK => Zp Z Z Z (Zp Z Z Z (Qa Z (kc2 hK Z Z ?_)))
 refine QB ?_ -- 0
 refine Qd fun K hK => QD (cs := [_, _, _, _, _, _, _]) Z Z Z Z (Qw (HC Wa Wa) Z Z (.inr Z) (ZH Z (Qa Z ?_)))
 refine Qu (g := 9) Z (fun h1 => ?_) (fun h1 => ?_)
 ·rw [h1]
  simp only [qB] at h1
  refine gn3 Z Z Z (Qh Z Z (kc3 hK Z Z Z ?_))
  refine Zn Z (Qd fun K hK => Qa Z (kc1 hK Z ?_))
  refine Qp (Qj (Qx Z ?_))
  (simp [Kr, h1]; done)
 ·rw [h1]
  simp only [qB] at h1
  refine Qe Z (QD (cs := [_, _, _, _, _, _, _]) Z Z Z Z (Qe Z (Qw (HC Wa Wa) Z Z (.inr Z) (Qe Z (ZH Z (Qh Z Z (kc3 hK Z Z Z ?_)))))))
  refine Qt Z (fun h2 => ?_) (fun h2 => ?_)
  ·rw [h2]
   simp only [qB] at h2
   refine Qd fun K hK => Qa Z (kc1 hK Z ?_)
   refine Qp (Qj (Qx Z ?_))
   (simp [Kr, h1, h2]; done)
  ·rw [h2]
   simp only [qB] at h2
   refine Qd fun K hK => Qg Z Z (Qy Z Z Z (Ym Z Z (Qa Z ?_)))
   refine Qu (g := 17) Z (fun h3 => ?_) (fun h3 => ?_)
   ·rw [h3]
    simp only [qB] at h3
    refine gn3 Z Z Z (Qh Z Z (kc3 hK Z Z Z ?_))
    refine Zn Z (Qd fun K hK => Qg Z Z (Qy Z Z Z (Qg Z Z (Qy Z Z Z (Qw (ZO) Z Z (.inr Z) (Qa Z (kc1 hK Z ?_)))))))
    refine Qp (Qj (Qx Z ?_))
    (simp [Kr, h1, h2, h3]; done)
   ·rw [h3]
    simp only [qB] at h3
    refine Qe Z (Qg Z Z (Qe Z (Qy Z Z Z (Qe Z (Ym Z Z (Qh Z Z (kc3 hK Z Z Z ?_)))))))
    refine Qt Z (fun h4 => ?_) (fun h4 => ?_)
    ·rw [h4]
     simp only [qB] at h4
     refine Qd fun K hK => Qg Z Z (Qy Z Z Z (Qg Z Z (Qy Z Z Z (Qw (ZO) Z Z (.inr Z) (Qa Z (kc1 hK Z ?_))))))
     refine Qp (Qj (Qx Z ?_))
     exact (QbI Wh Wh (by first | (left; assumption) | (right; assumption))).symm
    ·rw [h4]
     simp only [qB] at h4
     refine Qd fun K hK => Qg Z Z (QD (cs := [_, _, _, _, _]) Z Z Z Z (Qg Z Z (QD (cs := [_, _, _, _, _]) Z Z Z Z (Qw (KA Wa Wa Wa Wa) Z Z (.inr Z) (Qa Z (kc3 hK Z Z Z ?_))))))
     refine Qd fun K hK => Qa Z (Ym Z Z (kc4 hK Z Z Z Z ?_))
     refine Qt Z (fun h5 => ?_) (fun h5 => ?_)
     ·rw [h5]
      simp only [qB] at h5
      refine Qd fun K hK => mv2 Z Z (kc1 hK Z ?_)
      refine Qp (Qj (Qx Z ?_))
      (repeat clear hK K); (simp_all [Kr]; done)
     ·rw [h5]
      simp only [qB] at h5
      refine Qd fun K hK => Qg Z Z (Qy Z Z Z (Qg Z Z (Qy Z Z Z (QdE Z Z (kc2 hK Z Z ?_)))))
      refine Qt Z (fun h6 => ?_) (fun h6 => ?_)
      ·rw [h6]
       simp only [qB] at h6
       refine Qd fun K hK => Qa Z (kc1 hK Z ?_)
       refine Qp (Qj (Qx Z ?_))
       (simp [Kr, h1, h2, h3, h4, h5, h6]; done)
      ·rw [h6]
       simp only [qB] at h6
       refine Qd fun K hK => Qg Z Z (Qy Z Z Z (kc1 hK Z ?_))
       refine Qt Z (fun h7 => ?_) (fun h7 => ?_)
       ·rw [h7]
        refine Qd fun K hK => Qa Z (kc1 hK Z ?_)
        refine Qp (Qj (Qx Z ?_))
        (repeat clear hK K); (simp_all [Kr]; done)
       ·rw [h7]
        refine Qq (QP (Zm) (Qd fun K hK => Qa Z (kc1 hK Z ?_)))
        refine Qp (Qx Z ?_)
        (repeat clear hK K); (simp_all [Kr]; done)
theorem MP {e a b c : Int} {p q : List UInt8} {f : Bool} (hp : p.length <= 1000000) (hq : q.length <= 1000000) {a' b' c' : Int} {p' q' : List UInt8} (hp' : p'.length <= 1000000) (hq' : q'.length <= 1000000) : Ok Tryz.prog 134 [.agg [.int .i64 e, .int .i64 a, .int .i64 b, .int .i64 c, .str p, .str q, .bool f], .agg [.int .i64 a', .int .i64 b', .int .i64 c', .str p', .str q']] (.bool (Ji e a b c p q f a' b' c' p' q')) := by
 refine Ok.ofT ZN Tryz.func134 Qg7 (QiY Z) ?_
 show TW _ _ tf134.body _ _
 refine Qd fun K hK => Zp Z Z Z (Zp Z Z Z (Qa Z (kc2 hK Z Z ?_)))
 refine QB ?_ -- 0
 refine Qd fun K hK => QD (cs := [_, _, _, _, _, _, _]) Z Z Z Z (Qw (HC Wa Wa) Z Z (.inr Z) (ZH Z (Qa Z ?_)))
 refine Qu (g := 9) Z (fun h1 => ?_) (fun h1 => ?_)
 ·rw [h1]
  simp only [qB] at h1
  refine gn3 Z Z Z (Qh Z Z (kc3 hK Z Z Z ?_))
  refine Zn Z (Qd fun K hK => Qa Z (kc1 hK Z ?_))
  refine Qp (Qj (Qk Z ?_))
  (simp [Ji, h1]; done)
 ·rw [h1]
  simp only [qB] at h1
  refine Qe Z (QD (cs := [_, _, _, _, _]) Z Z Z Z (Qe Z (Qw (Y0 Wa Wa) Z Z (.inr Z) (Qe Z (ZH Z (Qh Z Z (kc3 hK Z Z Z ?_)))))))
  refine Qt Z (fun h2 => ?_) (fun h2 => ?_)
  ·rw [h2]
   simp only [qB] at h2
   refine Qd fun K hK => Qa Z (kc1 hK Z ?_)
   refine Qp (Qj (Qk Z ?_))
   (simp [Ji, h1, h2]; done)
  ·rw [h2]
   simp only [qB] at h2
   refine Qd fun K hK => Qg Z Z (Qy Z Z Z (Ym Z Z (kc3 hK Z Z Z ?_)))
   refine Qt Z (fun h3 => ?_) (fun h3 => ?_)
   ·rw [h3]
    simp only [qB] at h3
    refine Qd fun K hK => Qg Z Z (Qy Z Z Z (ZS Z Z (Qa Z (kc1 hK Z ?_))))
    refine Qp (Qj (Qk Z ?_))
    (simp [Ji, h1, h2, h3]; done)
   ·rw [h3]
    simp only [qB] at h3
    refine Qq (ks2 Z Z (Qd fun K hK => Qg Z Z (QD (cs := [_, _, _, _, _]) Z Z Z Z (QD (cs := [_, _, _, _, _]) Z Z Z Z (Qw (KA Wa Wa Wa Wa) Z Z (.inr Z) (Qa Z (kc2 hK Z Z ?_)))))))
    refine Qd fun K hK => Qa Z (ZS Z Z (Qa Z ?_))
    refine Qu (g := 26) Z (fun h4 => ?_) (fun h4 => ?_)
    ·rw [h4]
     simp only [qB] at h4
     refine gn3 Z Z Z (QH Z (QH Z (QH Z (YN Z (Qh Z Z (Qa Z (kc1 hK Z ?_)))))))
     refine Qp (Qk Z ?_)
     (repeat clear hK K); (simp_all [Ji]; done)
    ·rw [h4]
     simp only [qB] at h4
     refine Qe Z (Qa Z (Qe Z (Yt Z Z (Qe Z (Qa Z ?_)))))
     refine Qu (g := 29) Z (fun h5 => ?_) (fun h5 => ?_)
     ·rw [h5]
      simp only [qB] at h5
      refine Qe Z (Qg Z Z (Qe Z (Qy Z Z Z (Qe Z (ZH Z (Qe Z (Qh Z Z (Qh Z Z (Qa Z (kc1 hK Z ?_))))))))))
      refine Qp (Qk Z ?_)
      (repeat clear hK K); (simp_all [Ji]; done)
     ·rw [h5]
      simp only [qB] at h5
      refine gn3 Z Z Z (Qe Z (Qh Z Z (Qh Z Z (Qa Z (kc1 hK Z ?_)))))
      refine Qp (Qk Z ?_)
      (simp [Ji, h1, h2, h3, h4, h5]; done)
theorem Fv {e a b c : Int} {p q : List UInt8} {f : Bool} (hp : p.length <= 1000000) (hq : q.length <= 1000000) {e' a' b' c' : Int} {p' q' : List UInt8} {f' : Bool} (hp' : p'.length <= 1000000) (hq' : q'.length <= 1000000) : Ok Tryz.prog 129 [.agg [.int .i64 e, .int .i64 a, .int .i64 b, .int .i64 c, .str p, .str q, .bool f, .int .i64 e', .int .i64 a', .int .i64 b', .int .i64 c', .str p', .str q', .bool f']] (.bool (Ps e a b c p q f e' a' b' c' p' q' f')) := by
 refine Ok.ofT ZN Tryz.func129 Qg2 (QiY Z) ?_
 show TW _ _ tf129.body _ _
 refine Qd fun K hK => Zp Z Z Z (Qa Z (kc1 hK Z ?_))
 refine Qd fun K hK => Qg Z Z (QD (cs := [_, _, _, _, _, _, _]) Z Z Z Z (Qw (HC Wa Wa) Z Z (.inr Z) (Qa Z ?_)))
 refine Qu (g := 6) Z (fun h1 => ?_) (fun h1 => ?_)
 ·rw [h1]
  refine Qe Z (Qg Z Z (Qe Z (QD (cs := [_, _, _, _, _, _, _]) Z Z Z Z (Qe Z (Qw (HC Wa Wa) Z Z (.inr Z) (Qh Z Z (Qa Z ?_)))))))
  refine Qu (g := 11) Z (fun h2 => ?_) (fun h2 => ?_)
  ·rw [h2]
   refine Qe Z (Qg Z Z (Qe Z (QD (cs := [_, _, _, _, _, _, _]) Z Z Z Z (Qe Z (Qg Z Z (Qe Z (QD (cs := [_, _, _, _, _, _, _]) Z Z Z Z (Qe Z (Qw (Fu Wa Wa Wa Wa) Z Z (.inr Z) (Qe Z (ZS Z Z ?_)))))))))))
   refine Qh Z Z (Qa Z (kc1 hK Z ?_))
   refine Qp (Qk Z ?_)
   (simp [Ps, h1, h2]; done)
  ·rw [h2]
   refine gn4 Z Z Z Z (gn2 Z Z (Qh Z Z (Qa Z (kc1 hK Z ?_))))
   refine Qp (Qk Z ?_)
   (simp [Ps, h1, h2]; done)
 ·rw [h1]
  refine gn3 Z Z Z (Qh Z Z (Qa Z (gn4 Z Z Z Z (gn2 Z Z (Qh Z Z ?_)))))
  refine Qa Z (kc1 hK Z ?_)
  refine Qp (Qk Z ?_)
  (simp [Ps, h1]; done)
theorem LG {e a b c : Int} {p q : List UInt8} {f : Bool} (hp : p.length <= 1000000) (hq : q.length <= 1000000) {e' a' b' c' : Int} {p' q' : List UInt8} {f' : Bool} (hp' : p'.length <= 1000000) (hq' : q'.length <= 1000000) {x y z : Int} {r s : List UInt8} (hr : r.length <= 1000000) (hs : s.length <= 1000000) : Ok Tryz.prog 117 [.agg [.int .i64 e, .int .i64 a, .int .i64 b, .int .i64 c, .str p, .str q, .bool f, .int .i64 e', .int .i64 a', .int .i64 b', .int .i64 c', .str p', .str q', .bool f'], .agg [.int .i64 x, .int .i64 y, .int .i64 z, .str r, .str s]] (.bool (HX e a b c p q f e' a' b' c' p' q' f' x y z r s)) := by
 refine Ok.ofT ZN Tryz.func117 QgS (QiY Z) ?_
 show TW _ _ tf117.body _ _
 refine Qd fun K hK => Zp Z Z Z (Zp Z Z Z (Qa Z (kc2 hK Z Z ?_)))
 refine Qd fun K hK => QD (cs := [_, _, _, _, _, _, _, _, _, _, _, _, _, _]) Z Z Z Z (Qw (Fv Wa Wa Wa Wa) Z Z (.inr Z) (Qa Z ?_))
 refine Qu (g := 7) Z (fun h1 => ?_) (fun h1 => ?_)
 ·rw [h1]
  refine Qe Z (QD (cs := [_, _, _, _, _]) Z Z Z Z (Qe Z (Qw (Y0 Wa Wa) Z Z (.inr Z) (Qh Z Z (Qa Z ?_)))))
  refine Qu (g := 11) Z (fun h2 => ?_) (fun h2 => ?_)
  ·rw [h2]
   refine Qe Z (Qg Z Z (Qe Z (QD (cs := [_, _, _, _, _, _, _]) Z Z Z Z (Qe Z (QD (cs := [_, _, _, _, _]) Z Z Z Z (Qe Z (Qw (MP Wa Wa Wa Wa) Z Z (.inr Z) (Qh Z Z (Qa Z ?_)))))))))
   refine Qu (g := 17) Z (fun h3 => ?_) (fun h3 => ?_)
   ·rw [h3]
    refine Qe Z (Qg Z Z (Qe Z (QD (cs := [_, _, _, _, _, _, _]) Z Z Z Z (Qe Z (QD (cs := [_, _, _, _, _]) Z Z Z Z (Qe Z (Qw (MP Wa Wa Wa Wa) Z Z (.inr Z) (Qe Z (ZH Z (Qh Z Z (Qa Z ?_)))))))))))
    refine kc1 hK Z ?_
    refine Qp (Qk Z ?_)
    (simp [HX, h1, h2, h3]; done)
   ·rw [h3]
    refine gn4 Z Z Z Z (YN Z (Qh Z Z (Qa Z (kc1 hK Z ?_))))
    refine Qp (Qk Z ?_)
    (simp [HX, h1, h2, h3]; done)
  ·rw [h2]
   refine gn4 Z Z Z Z (Qh Z Z (Qa Z (gn4 Z Z Z Z (YN Z (Qh Z Z ?_)))))
   refine Qa Z (kc1 hK Z ?_)
   refine Qp (Qk Z ?_)
   (simp [HX, h1, h2]; done)
 ·rw [h1]
  refine gn2 Z Z (Qh Z Z (Qa Z (gn4 Z Z Z Z (Qh Z Z (Qa Z (gn2 Z Z ?_))))))
  refine gn3 Z Z Z (Qh Z Z (Qa Z (kc1 hK Z ?_)))
  refine Qp (Qk Z ?_)
  (simp [HX, h1]; done)
end Go.Proofs
namespace M3
open Go Go.Abs
open Go Go.Abs
end M3
namespace M3
open Go Go.Abs
end M3
namespace M25
open Go Go.Abs M3
def NX (a b c : Int) : Bool := decide (a = 0) && decide (b = 0) && decide (c = 0)
def Fb (a b c : Int) (p q : List UInt8) (part : Int) : Option (Int × Int × Int) :=
 if K7 a b c p q = false \/ part < 0 \/ 2 < part then none
 else
  let o := if part = 0 then (a + 1, 0, 0) else if part = 1 then (a, b + 1, 0) else (a, b, c + 1)
  if K7 o.1 o.2.1 o.2.2 [] [] = true then some o else none
def dOV (o : Option (Int × Int × Int)) : D := .tup [.agg [.int .i64 (o.getD (0, 0, 0)).1, .int .i64 (o.getD (0, 0, 0)).2.1, .int .i64 (o.getD (0, 0, 0)).2.2, .str [], .str []], .bool o.isSome]
def XP (a b c : Int) (p q : List UInt8) : Nat -> Option (Int × Int × Int)
 | 0 => none
 | n + 1 => if (Fb a b c p q n).isSome = true then Fb a b c p q n else XP a b c p q n
def TS (a b c : Int) (p q : List UInt8) : Option (Int × Int × Int) :=
 if K7 a b c p q = false then none else if p ≠ [] then some (a, b, c) else XP a b c p q 3
theorem Gx {a b c : Int} {p q : List UInt8} (h : K7 a b c p q = true) : (0 <= a /\ a <= 9999) /\ (0 <= b /\ b <= 9999) /\ (0 <= c /\ c <= 9999) := by
 simp only [K7, P7, Qi2, decide_eq_true_eq] at h
 omega
theorem LF {a b c : Int} {p q : List UInt8} {m : Nat} (hm : 0 < m) (h : (Fb a b c p q ((m : Int) - 1)).isSome = false) : XP a b c p q m = XP a b c p q (m - 1) := by
 obtain ⟨n, rfl⟩ : ∃ n, m = n + 1 := ⟨m - 1, Wa⟩
 rw [show ((n + 1 : Nat) : Int) - 1 = (n : Int) by omega] at h
 rw [XP, if_neg (by rw [h]; simp)]; rfl
theorem Tn {a b c : Int} {p q : List UInt8} {m : Nat} (hm : 0 < m) (h : (Fb a b c p q ((m : Int) - 1)).isSome = true) : XP a b c p q m = Fb a b c p q ((m : Int) - 1) := by
 obtain ⟨n, rfl⟩ : ∃ n, m = n + 1 := ⟨m - 1, Wa⟩
 rw [show ((n + 1 : Nat) : Int) - 1 = (n : Int) by omega] at h ⊢
 rw [XP, if_pos h]
def dCu (x : Cu) : List D := [.int .i64 x.e, .int .i64 x.a, .int .i64 x.b, .int .i64 x.c, .str x.p, .str x.q, .bool x.f]
def N6 (s : Cu × Cu) : List D := dCu s.1 ++ dCu s.2
def Zl (l : List (Cu × Cu)) : D := .sl (l.map N6)
def MY (s : List (Cu × Cu) × List (Cu × Cu)) : D := .agg [Zl s.1, Zl s.2]
def GT : Cu := ⟨-1, 0, 0, 0, [], [], false⟩
def P6 : Cu := ⟨1, 0, 0, 0, [], [], false⟩
def Pn (a b c : Int) : Cu := if NX a b c = true then GT else ⟨0, a, b, c, [], [], false⟩
def FV (a b c : Int) : Cu := match TS a b c [] [] with
 | none => P6
 | some o => ⟨0, o.1, o.2.1, o.2.2, [], [], false⟩
def Xq (a b c : Int) (p q : List UInt8) : List (Cu × Cu) × List (Cu × Cu) :=
 if K7 a b c p q = false then ([], []) else if p ≠ [] then ([], [(⟨0, a, b, c, p, [], false⟩, ⟨0, a, b, c, p, [], true⟩)]) else ([(Pn a b c, FV a b c)], [])
def NY (e a b c : Int) (p q : List UInt8) (f : Bool) : Bool := !decide (e = 0) || (!f && decide (p = []) && !NX a b c)
def Cu.sm (x : Cu) : Prop := x.p.length <= 1000000 /\ x.q.length <= 1000000
def Sm (l : List (Cu × Cu)) : Prop := l.length <= 1000000 /\ ∀ s ∈ l, Cu.sm s.1 /\ Cu.sm s.2
theorem Sm.at {l : List (Cu × Cu)} (h : Sm l) {i : Nat} (hi : i < l.length) : (l[i].1.p.length <= 1000000 /\ l[i].1.q.length <= 1000000) /\ (l[i].2.p.length <= 1000000 /\ l[i].2.q.length <= 1000000) := h.2 _ (Qi3 hi)
def GY (s : Cu × Cu) : Bool := Ps s.1.e s.1.a s.1.b s.1.c s.1.p s.1.q s.1.f s.2.e s.2.a s.2.b s.2.c s.2.p s.2.q s.2.f
def K6 (x y : Cu) : Int := Kr x.e x.a x.b x.c x.p x.q x.f y.e y.a y.b y.c y.p y.q y.f
def Qej (l : List (Cu × Cu)) (i : Nat) : Bool := match l[i]? with
 | none => true
 | some s => GY s && (decide (i = 0) || match l[i - 1]? with | none => true | some r => decide (K6 r.2 s.1 < 0))
theorem L7 {l : List (Cu × Cu)} {i : Nat} (h : i < l.length) : Qej l i = (GY l[i] && (decide (i = 0) || decide (K6 (l[i - 1]'Wa).2 l[i].1 < 0))) := by
 unfold Qej
 rw [List.getElem?_eq_getElem h, List.getElem?_eq_getElem (Wa : i - 1 < l.length)]
theorem Ck {l : List (Cu × Cu)} {i : Nat} (h : i < l.length) (h1 : GY l[i] = true) (h2 : i = 0 \/ K6 (l[i - 1]'Wa).2 l[i].1 < 0) : Qej l i = true := by
 rw [L7 h, h1]; simpa using h2
theorem Hk {l : List (Cu × Cu)} {i : Nat} (h : i < l.length) (h1 : GY l[i] = false \/ (i ≠ 0 /\ 0 <= K6 (l[i - 1]'Wa).2 l[i].1)) : Qej l i = false := by
 rw [L7 h]
 rcases h1 with h1 | ⟨h1, h2⟩
 ·rw [h1]; rfl
 ·simp only [Qjb, Bool.or_eq_false_iff, decide_eq_false_iff_not]
  exact .inr ⟨h1, Wa⟩
def Ht (l : List (Cu × Cu)) : Bool := (List.range l.length).all (Qej l)
theorem Yj {n i : Nat} {p : Nat -> Bool} (h : i < n) (hp : p i = false) : (List.range n).all p = false := by
 rw [Bool.eq_false_iff]; intro ha
 rw [Qi8] at ha
 rw [ha i (Qjl.2 h)] at hp; cases hp
theorem Ke {i : Nat} {p : Nat -> Bool} (h : (List.range i).all p = true) (hp : p i = true) : (List.range (i + 1)).all p = true := by
 rw [List.range_succ, List.all_append, h]; simp [hp]
theorem GA {i : Nat} {p : Nat -> Bool} {n : Nat} (h : (List.range i).all p = true) (hn : n <= i) : (List.range n).all p = true := by
 rw [Qi8] at h ⊢
 exact fun x hx => h x (Qjl.2 (Nat.lt_of_lt_of_le (Qjl.1 hx) hn))
def Pp (s : Cu × Cu) (a b c : Int) (p q : List UInt8) : Bool := HX s.1.e s.1.a s.1.b s.1.c s.1.p s.1.q s.1.f s.2.e s.2.a s.2.b s.2.c s.2.p s.2.q s.2.f a b c p q
def P8 (l : List (Cu × Cu)) (a b c : Int) (p q : List UInt8) : Bool := Ht l && l.any fun s => Pp s a b c p q
theorem Gq {l : List (Cu × Cu)} {a b c : Int} {p q : List UInt8} {i : Nat} (hi : l.length <= i) (h : (l.take i).any (fun s => Pp s a b c p q) = false) : P8 l a b c p q = false := by
 rw [Qje hi] at h; rw [P8, h, Bool.and_false]
theorem Gr {l : List (Cu × Cu)} {a b c : Int} {p q : List UInt8} (h : Ht l = false) : P8 l a b c p q = false := by rw [P8, h]; rfl
theorem Gs {l : List (Cu × Cu)} {a b c : Int} {p q : List UInt8} {i : Nat} (h : Ht l = true) (hi : i < l.length) (hp : Pp l[i] a b c p q = true) : P8 l a b c p q = true := by
 rw [P8, h, Bool.true_and]; exact List.any_eq_true.2 ⟨_, Qi3 hi, hp⟩
def inC (x y : Cu) (s : Cu × Cu) : Bool := decide (K6 s.1 x <= 0) && decide (K6 y s.2 <= 0)
theorem Qft {x y : Cu} {s : Cu × Cu} (h1 : K6 s.1 x <= 0) (h2 : K6 y s.2 <= 0) : inC x y s = true := by simp [inC, h1, h2]
theorem Qfs {x y : Cu} {s : Cu × Cu} (h : ¬ K6 s.1 x <= 0 \/ ¬ K6 y s.2 <= 0) : inC x y s = false := by
 simp only [inC, Qjb, decide_eq_false_iff_not]; exact h
def mIn (l : List (Cu × Cu)) (x y : Cu) : Bool := l.any (inC x y)
theorem LD {α : Type} {s : List α} {p : α -> Bool} {i : Nat} (h : i < s.length) (hp : p s[i] = true) : s.any p = true := List.any_eq_true.2 ⟨_, Qi3 h, hp⟩
theorem QcW {α : Type} {s : List α} {p : α -> Bool} {i : Nat} (hi : s.length <= i) (h : (s.take i).any p = false) : s.any p = false := by rwa [Qje hi] at h
theorem ML {α : Type} {s : List α} {p : α -> Bool} {i : Nat} (h : i < s.length) (ha : (s.take i).any p = false) (hp : p s[i] = false) : (s.take (i + 1)).any p = false := by
 rw [List.take_succ_eq_append_getElem h, List.any_append, ha]; simp [hp]
def Xt (x : Cu) : Bool := NY x.e x.a x.b x.c x.p x.q x.f
def Fc (s : List (Cu × Cu) × List (Cu × Cu)) : Bool := Ht s.1 && Ht s.2 && s.1.all fun x => Xt x.1 && Xt x.2
def Po (s : List (Cu × Cu) × List (Cu × Cu)) (a b c : Int) (p q : List UInt8) : Bool :=
 Fc s && K7 a b c p q && (if p = [] then P8 s.1 a b c p q else P8 s.2 a b c p q)
theorem Ks {s : List (Cu × Cu) × List (Cu × Cu)} (h : Ht s.1 = false \/ Ht s.2 = false) : Fc s = false := by
 rw [Fc]; rcases h with h | h <;> simp [h]
theorem JI {s : List (Cu × Cu) × List (Cu × Cu)} {i : Nat} (hi : i < s.1.length) (h : Xt s.1[i].1 = false \/ Xt s.1[i].2 = false) : Fc s = false := by
 have : (s.1.all fun x => Xt x.1 && Xt x.2) = false := X7 hi (by rcases h with h | h <;> simp [h])
 rw [Fc, this, Bool.and_false]
theorem FY {s : List (Cu × Cu) × List (Cu × Cu)} {i : Nat} (h1 : Ht s.1 = true) (h2 : Ht s.2 = true) (hi : s.1.length <= i) (h : (s.1.take i).all (fun x => Xt x.1 && Xt x.2) = true) : Fc s = true := by
 rw [Qje hi] at h
 rw [Fc, h1, h2, h]; rfl
def Sa (l : List Cu) : D := .sl (l.map dCu)
theorem La {l : List Cu} : ∀ r ∈ l.map dCu, r.length = 7 := fun r hr => by obtain ⟨x, _, rfl⟩ := Qjc.1 hr; rfl
theorem QcE {l : List Cu} {a b : Nat} : ∀ r ∈ ((l.map dCu).take a).drop b, r.length = 7 := fun r hr => La r (Qji (List.mem_of_mem_drop hr))
def HY : List Cu -> Cu -> List Cu
 | [], c => [c]
 | x :: r, c => if K6 x c < 0 then x :: HY r c else if K6 x c = 0 then x :: r else c :: x :: r
theorem QaA {l : List Cu} {c : Cu} {k : Nat} (hk : k < l.length) (h : K6 l[k] c < 0) (hi : HY l c = l.take k ++ HY (l.drop k) c) : HY l c = l.take (k + 1) ++ HY (l.drop (k + 1)) c := by
 rw [hi, Qjf hk, HY, if_pos h, List.take_succ_eq_append_getElem hk, List.append_assoc]; rfl
theorem Qaz {l : List Cu} {c : Cu} {k : Nat} (hk : k < l.length) (h : K6 l[k] c = 0) (hi : HY l c = l.take k ++ HY (l.drop k) c) : HY l c = l := by
 rw [hi, Qjf hk, HY, if_neg Wa, if_pos h, <- Qjf hk, List.take_append_drop]
theorem Cb {l : List Cu} {c : Cu} {k : Nat} (h : l.length <= k \/ ∃ hk : k < l.length, ¬ K6 l[k] c < 0 /\ K6 l[k] c ≠ 0) (hi : HY l c = l.take k ++ HY (l.drop k) c) : HY l c = l.take k ++ c :: l.drop k := by
 rw [hi]
 rcases h with h | ⟨hk, h1, h2⟩
 ·rw [Qjj h, HY]
 ·rw [Qjf hk, HY, if_neg h1, if_neg h2]
theorem Mn : ∀ (l : List Cu) (c : Cu), (HY l c).length <= l.length + 1
 | [], c => by simp [HY]
 | x :: r, c => by
  have := Mn r c
  simp only [HY]
  (repeat' split) <;> simp <;> omega
theorem Sz : ∀ {l : List Cu} {c : Cu}, (∀ x ∈ l, Cu.sm x) -> Cu.sm c -> ∀ x ∈ HY l c, Cu.sm x
 | [], c, _, hc, x, hx => by simp [HY] at hx; exact hx ▸ hc
 | y :: r, c, hl, hc, x, hx => by
  simp only [HY] at hx
  split at hx
  ·rcases Qi0.1 hx with rfl | hx
   ·exact hl _ Wd
   ·exact Sz (fun z hz => hl z (by simp [hz])) hc x hx
  ·split at hx
   ·exact hl x hx
   ·rcases Qi0.1 hx with rfl | hx
    ·exact hc
    ·exact hl x hx
def Y4 (l : List (Cu × Cu)) : List Cu := l.foldl (fun out s => HY (HY out s.1) s.2) [GT, P6]
theorem Qca {l : List (Cu × Cu)} {i : Nat} (h : i < l.length) : Y4 (l.take (i + 1)) = HY (HY (Y4 (l.take i)) l[i].1) l[i].2 := by
 rw [List.take_succ_eq_append_getElem h, Y4, List.foldl_append]; rfl
theorem RB : ∀ (l : List (Cu × Cu)) (out : List Cu), (l.foldl (fun out s => HY (HY out s.1) s.2) out).length <= out.length + 2 * l.length
 | [], out => by simp
 | s :: l, out => by
  have h1 := Mn out s.1
  have h2 := Mn (HY out s.1) s.2
  have := RB l (HY (HY out s.1) s.2)
  simp only [List.foldl_cons, List.length_cons]; omega
theorem HT (l : List (Cu × Cu)) : (Y4 l).length <= 2 + 2 * l.length := RB l _
theorem TP : ∀ {l : List (Cu × Cu)} {out : List Cu}, (∀ s ∈ l, Cu.sm s.1 /\ Cu.sm s.2) -> (∀ x ∈ out, Cu.sm x) -> ∀ x ∈ l.foldl (fun out s => HY (HY out s.1) s.2) out, Cu.sm x
 | [], _, _, h => h
 | s :: l, out, hl, h => by
  rw [List.foldl_cons]
  exact TP (fun t ht => hl t (by simp [ht])) (Sz (Sz h (hl s Wd).1) (hl s Wd).2)
theorem D9 {l : List (Cu × Cu)} (hl : ∀ s ∈ l, Cu.sm s.1 /\ Cu.sm s.2) : ∀ x ∈ Y4 l, Cu.sm x := TP hl (by
 intro x hx
 simp only [Qi0, QiZ, or_false] at hx
 rcases hx with rfl | rfl <;> exact ⟨Qja _, Qja _⟩)
theorem Mk {l : List (Cu × Cu)} (hl : Sm l) (i : Nat) : (Y4 (l.take i)).length <= 2000002 /\ ∀ x ∈ Y4 (l.take i), Cu.sm x := by
 refine ⟨?_, D9 fun s hs => hl.2 s (Qji hs)⟩
 have := HT (l.take i)
 have h2 : (l.take i).length <= l.length := List.length_take_le' ..
 have := hl.1
 omega
def HW (l : List (Cu × Cu)) (x y : Cu) : List (Cu × Cu) := match l.getLast? with
 | some s => if K6 s.2 x = 0 then l.dropLast ++ [(s.1, y)] else l ++ [(x, y)]
 | none => l ++ [(x, y)]
theorem TQ {l : List (Cu × Cu)} {x y : Cu} {i : Nat} (hi : i + 1 = l.length) (h : K6 (l[i]'Wa).2 x = 0) : HW l x y = l.set i ((l[i]'Wa).1, y) := by
 have hg : l.getLast? = some (l[i]'Wa) := by
  rw [List.getLast?_eq_getElem?, show l.length - 1 = i by omega, List.getElem?_eq_getElem]
 rw [HW, hg]
 simp only [h, if_true]
 rw [List.dropLast_eq_take, show l.length - 1 = i by omega, List.set_eq_take_append_cons_drop, if_pos Wa, Qjj Wa]
theorem FX {l : List (Cu × Cu)} {x y : Cu} (h : l = [] \/ ∃ i, ∃ hi : i + 1 = l.length, K6 (l[i]'Wa).2 x ≠ 0) : HW l x y = l ++ [(x, y)] := by
 rcases h with rfl | ⟨i, hi, h⟩
 ·rfl
 ·have hg : l.getLast? = some (l[i]'Wa) := by
   rw [List.getLast?_eq_getElem?, show l.length - 1 = i by omega, List.getElem?_eq_getElem]
  rw [HW, hg]
  simp only [if_neg h]
theorem TR (l : List (Cu × Cu)) (x y : Cu) : (HW l x y).length <= l.length + 1 := by
 unfold HW
 split
 ·split
  ·simp
  ·simp
 ·simp
theorem Ca {l : List (Cu × Cu)} {x y : Cu} (hl : ∀ s ∈ l, Cu.sm s.1 /\ Cu.sm s.2) (hx : Cu.sm x) (hy : Cu.sm y) : ∀ s ∈ HW l x y, Cu.sm s.1 /\ Cu.sm s.2 := by
 intro s hs
 unfold HW at hs
 split at hs
 ·rename_i t ht
  have ht' := List.mem_of_getLast? ht
  split at hs
  ·rcases Qi9.1 hs with hs | hs
   ·exact hl s (List.dropLast_subset _ hs)
   ·simp at hs; subst hs; exact ⟨(hl t ht').1, hy⟩
  ·rcases Qi9.1 hs with hs | hs
   ·exact hl s hs
   ·simp at hs; subst hs; exact ⟨hx, hy⟩
 ·rcases Qi9.1 hs with hs | hs
  ·exact hl s hs
  ·simp at hs; subst hs; exact ⟨hx, hy⟩
theorem D1 {α β : Type} {l : List α} {f : α -> β} {i : Nat} (h : i + 1 < l.length) : (l.map f)[((i : Int) + 1).toNat]? = some (f l[i + 1]) := by
 rw [show ((i : Int) + 1).toNat = i + 1 by omega, List.getElem?_map, List.getElem?_eq_getElem h]; rfl
def HV (f : Cu -> Cu -> Bool) : List Cu -> List (Cu × Cu) -> List (Cu × Cu)
 | x :: y :: r, out => HV f (y :: r) (if f x y = true then HW out x y else out)
 | _, out => out
def L4 (l : List (Cu × Cu)) : List (Cu × Cu) := if l.all GY = true then HV (mIn l) (Y4 l) [] else []
theorem RC {f : Cu -> Cu -> Bool} {c : List Cu} {out : List (Cu × Cu)} {i : Nat} (h : i + 1 < c.length) : HV f (c.drop i) out = HV f (c.drop (i + 1)) (if f c[i] c[i + 1] = true then HW out c[i] c[i + 1] else out) := by
 rw [Qjf (Wa : i < c.length), Qjf h, HV]
theorem Qay {f : Cu -> Cu -> Bool} {c : List Cu} {out : List (Cu × Cu)} {i : Nat} (h : c.length <= i + 1) : HV f (c.drop i) out = out := by
 have : (c.drop i).length <= 1 := by simp; omega
 match hd : c.drop i with
 | [] => rfl
 | [x] => rfl
 | x :: y :: r => rw [hd] at this; simp at this
def FillI (f : Cu -> Cu -> Bool) (c : List Cu) (i : Nat) (out : List (Cu × Cu)) : Prop :=
 out.length <= i /\ (∀ s ∈ out, Cu.sm s.1 /\ Cu.sm s.2) /\ HV f c [] = HV f (c.drop i) out
theorem FillI.zero {f : Cu -> Cu -> Bool} {c : List Cu} : FillI f c 0 [] := ⟨Qja _, by simp, by simp⟩
theorem FillI.take {f : Cu -> Cu -> Bool} {c : List Cu} {i : Nat} {out : List (Cu × Cu)} (h : FillI f c i out) (hc : ∀ x ∈ c, Cu.sm x) (hi : i + 1 < c.length) (ht : f c[i] c[i + 1] = true) : FillI f c (i + 1) (HW out c[i] c[i + 1]) := by
 obtain ⟨h1, h2, h3⟩ := h
 refine ⟨Qjh (TR ..) Wa, Ca h2 (hc _ (Qi3 _)) (hc _ (Qi3 _)), ?_⟩
 rw [h3, RC hi, if_pos ht]
theorem FillI.skip {f : Cu -> Cu -> Bool} {c : List Cu} {i : Nat} {out : List (Cu × Cu)} (h : FillI f c i out) (hi : i + 1 < c.length) (ht : f c[i] c[i + 1] = false) : FillI f c (i + 1) out := by
 obtain ⟨h1, h2, h3⟩ := h
 exact ⟨Wa, h2, by rw [h3, RC hi, if_neg (by rw [ht]; simp)]⟩
theorem FillI.done {f : Cu -> Cu -> Bool} {c : List Cu} {i : Nat} {out : List (Cu × Cu)} (h : FillI f c i out) (hi : c.length <= i + 1) : HV f c [] = out := by rw [h.2.2, Qay hi]
theorem Qds {i : Nat} : ((i : Int) + 1).toNat = i + 1 := Wa
theorem YF {l : List (Cu × Cu)} (hl : Sm l) : ∀ x ∈ Y4 l, Cu.sm x := D9 hl.2
def Qdb (a b : List (Cu × Cu)) : List (Cu × Cu) := if Ht a = true /\ Ht b = true then L4 (a ++ b) else []
def L5 (a : List (Cu × Cu)) : List (Cu × Cu) := if Ht a = true then HV (fun x y => !mIn a x y) (Y4 a) [] else []
theorem Qdi {l : List (Cu × Cu)} : ∀ r ∈ l.map N6, r.length = 14 := fun r hr => by obtain ⟨x, _, rfl⟩ := Qjc.1 hr; rfl
theorem Sm.app {a b : List (Cu × Cu)} (ha : Sm a) (hb : Sm b) (h : a.length + b.length <= 1000000) : Sm (a ++ b) := by
 refine ⟨by simp; omega, fun s hs => ?_⟩
 rcases Qi9.1 hs with hs | hs
 ·exact ha.2 s hs
 ·exact hb.2 s hs
theorem Qgs {H : QiV} {S : Nat -> Bool} {k n : Nat} {b : Box} (hS : S k = true) (hb : lk H k = some b) (hp : b.pr = true) (hn : n = b.rows.length) : (D.osl k n).fz H S = .sl b.rows := by
 simp only [D.fz, D.fzS, hS, hb, if_true, hp, hn, and_self]
abbrev NN := List (Cu × Cu) × List (Cu × Cu)
def Qdc (a b : NN) : NN := if Fc a = true /\ Fc b = true then (Qdb a.1 b.1, Qdb a.2 b.2) else ([], [])
def Sy (a : NN) : NN := if Fc a = true then (L5 a.1, L5 a.2) else ([], [])
def mPl (v n : Int) : Int := if n < 1 then 0 else Pr v n
theorem RE {v n : Int} : 0 <= mPl v n := by
 unfold mPl; split
 ·omega
 ·exact Qcv Wa
theorem TT {v n : Int} (h : 1 <= n) : mPl v n < n := by
 rw [mPl, if_neg Wa]; exact Qcu Wa
def J8 (l : List Int) (i : Int) : Int := if i < 0 \/ (l.length : Int) <= i then i.tmod 3 else l.getD i.toNat 0
theorem Qax {l : List Int} {i : Int} (h0 : 0 <= i) (h : i < l.length) : J8 l i = l[i.toNat]'Wa := by
 rw [J8, if_neg Wa, List.getD_eq_getElem?_getD, List.getElem?_eq_getElem Wa]; rfl
def I64 (x : Int) : Prop := -9223372036854775808 <= x /\ x <= 9223372036854775807
theorem Sw {l : List Int} {i : Int} (hl : ∀ x ∈ l, I64 x) (hi : I64 i) : I64 (J8 l i) := by
 by_cases h : i < 0 \/ (l.length : Int) <= i
 ·rw [J8, if_pos h]
  have h1 := Int.tmod_lt_of_pos i (Wa : (0 : Int) < 3)
  have h2 := Int.lt_tmod_of_pos i (Wa : (0 : Int) < 3)
  exact ⟨Wa, Wa⟩
 ·rw [Qax Wa Wa]
  exact hl _ (Qi3 _)
theorem PP (x : Int) : I64 (IntKind.i64.wrap x) := by
 unfold IntKind.wrap I64
 simp only [IntKind.bits, IntKind.signed, Bool.true_and]
 split
 ·rename_i h
  have := of_decide_eq_true h
  omega
 ·rename_i h
  have : ¬ (x % 2 ^ 64 >= 2 ^ (64 - 1)) := fun hh => h (decide_eq_true hh)
  omega
theorem Nu {α : Type} {k : Nat} {v : α} {l : List (Nat × α)} : lk ((k, v) :: l) k = some v := by rw [Qm, if_pos rfl]
theorem Mi {α : Type} {k : Nat} {v : α} {l : List (Nat × α)} : (lk ((k, v) :: l) k).isSome = true := by rw [Nu]; rfl
def gB (L : List Int) (I : Int) (et : Nat) : Box := ⟨[[QN L, .int .i64 I]], 2, et, true⟩
def nxI (I : Int) : Int := IntKind.i64.wrap (I + 1)
def nx (L : List Int) (I n : Int) : Int := mPl (J8 L (IntKind.i64.wrap (nxI I - 1))) n
def TY (h m : Int) : Int := if HP .and .i64 h m = h then 2 else if HP .and .i64 h m = 0 then 0 else 1
theorem SM {i : Nat} (h : i <= 62) : 1 <= (2 : Int) ^ i /\ (2 : Int) ^ i <= 4611686018427387904 := by
 have h1 : (2 : Nat) ^ i <= 2 ^ 62 := Nat.pow_le_pow_right Wa h
 have h2 : 1 <= (2 : Nat) ^ i := Nat.one_le_two_pow
 have h3 : ((2 ^ i : Nat) : Int) = (2 : Int) ^ i := by simp
 rw [<- h3]
 have h4 : (2 : Nat) ^ 62 = 4611686018427387904 := by decide
 omega
structure Vr where
 a : Int
 b : Int
 c : Int
 p : List UInt8
 q : List UInt8
def dVr (v : Vr) : List D := [.int .i64 v.a, .int .i64 v.b, .int .i64 v.c, .str v.p, .str v.q]
def Vr.sm (v : Vr) : Prop := v.p.length <= 100 /\ v.q.length <= 100
def versions : List Vr := [⟨1, 0, 0, [], []⟩, ⟨1, 2, 0, [], []⟩, ⟨2, 0, 0, [97, 46, 49], []⟩, ⟨2, 0, 0, [], []⟩]
theorem Dp : ∀ v ∈ versions, v.sm := by
 intro v hv
 simp only [versions, Qi0, QiZ, or_false] at hv
 rcases hv with rfl | rfl | rfl | rfl <;> exact ⟨by decide, by decide⟩
theorem Kd {i : Nat} : ((i : Int) - 1).toNat = i - 1 := Wa
end M25
namespace Go.Proofs
open Go Go.Abs M3 M25
theorem Jw {a b c : Int} {p q : List UInt8} : Ok Tryz.prog 88 [.agg [.int .i64 a, .int .i64 b, .int .i64 c, .str p, .str q]] (.agg [.int .i64 a, .int .i64 b, .int .i64 c, .str p, .str []]) := by
 refine Ok.ofT ZN Tryz.func88 QiJ (QiY Z) ?_
 show TW _ _ tf88.body _ _
 refine Qd fun K hK => Zp Z Z Z (Zw Z (kc2 hK Z Z ?_))
 refine Qd fun K hK => Qg Z Z (Q4 Z Z Z Z Z Z Z Z (kc2 hK Z Z ?_))
 refine Qd fun K hK => QD (cs := [_, _, _, _, _]) Z Z Z Z (Q4 Z Z Z Z Z Z Z Z (kc1 hK Z ?_))
 refine Qp (ZG (cs := [_, _, _, _, _]) Z Z Z Z ?_)
 exact rfl
theorem Xc  : Ok Tryz.prog 90 [] (.agg [.int .i64 (-1), .int .i64 0, .int .i64 0, .int .i64 0, .str [], .str [], .bool false]) := by
 refine Ok.ofT ZN Tryz.func90 QiL (QiY Z) ?_
 show TW _ _ tf90.body _ _
 refine Qd fun K hK => Zw Z (kc1 hK Z ?_)
 refine Qd fun K hK => Q1 Z Z (Q4 Z Z Z Z Z Z Z Z (kc1 hK Z ?_))
 refine Qp (ZG (cs := [_, _, _, _, _, _, _]) Z Z Z Z ?_)
 exact rfl
theorem Xo  : Ok Tryz.prog 92 [] (.agg [.int .i64 1, .int .i64 0, .int .i64 0, .int .i64 0, .str [], .str [], .bool false]) := by
 refine Ok.ofT ZN Tryz.func92 QiN (QiY Z) ?_
 show TW _ _ tf92.body _ _
 refine Qd fun K hK => Zw Z (kc1 hK Z ?_)
 refine Qd fun K hK => Q1 Z Z (Q4 Z Z Z Z Z Z Z Z (kc1 hK Z ?_))
 refine Qp (ZG (cs := [_, _, _, _, _, _, _]) Z Z Z Z ?_)
 exact rfl
theorem YR {a b c : Int} {p q : List UInt8} : Ok Tryz.prog 63 [.agg [.int .i64 a, .int .i64 b, .int .i64 c, .str p, .str q]] (.agg [.int .i64 0, .int .i64 a, .int .i64 b, .int .i64 c, .str p, .str [], .bool false]) := by
 refine Ok.ofT ZN Tryz.func63 Qim (QiY Z) ?_
 show TW _ _ tf63.body _ _
 refine Qd fun K hK => Zp Z Z Z (Zw Z (kc2 hK Z Z ?_))
 refine Qd fun K hK => QD (cs := [_, _, _, _, _]) Z Z Z Z (Qw (Jw) Z Z (.inl Z) (Q1 Z Z (Q4 Z Z Z Z Z Z Z Z (kc1 hK Z ?_))))
 refine Qp (ZG (cs := [_, _, _, _, _, _, _]) Z Z Z Z ?_)
 exact rfl
theorem HJ {a b c : Int} {p q : List UInt8} : Ok Tryz.prog 64 [.agg [.int .i64 a, .int .i64 b, .int .i64 c, .str p, .str q]] (.agg [.int .i64 0, .int .i64 a, .int .i64 b, .int .i64 c, .str p, .str [], .bool true]) := by
 refine Ok.ofT ZN Tryz.func64 Qin (QiY Z) ?_
 show TW _ _ tf64.body _ _
 refine Qd fun K hK => Zp Z Z Z (Zw Z (kc2 hK Z Z ?_))
 refine Qd fun K hK => QD (cs := [_, _, _, _, _]) Z Z Z Z (Qw (Jw) Z Z (.inl Z) (Q1 Z Z (Q4 Z Z Z Z Z Z Z Z (kc1 hK Z ?_))))
 refine Qp (ZG (cs := [_, _, _, _, _, _, _]) Z Z Z Z ?_)
 exact rfl
theorem Je {a b c : Int} {p q : List UInt8} : Ok Tryz.prog 89 [.agg [.int .i64 a, .int .i64 b, .int .i64 c, .str p, .str q]] (.bool (NX a b c)) := by
 refine Ok.ofT ZN Tryz.func89 QiK (QiY Z) ?_
 show TW _ _ tf89.body _ _
 refine Qd fun K hK => Zp Z Z Z (Qa Z (kc1 hK Z ?_))
 refine Qd fun K hK => Qg Z Z (Qy Z Z Z (Yt Z Z (Qa Z ?_)))
 refine Qu (g := 6) Z (fun h1 => ?_) (fun h1 => ?_)
 ·rw [h1]
  simp only [qB] at h1
  refine Qe Z (Qg Z Z (Qe Z (Qy Z Z Z (Qe Z (Yt Z Z (Qh Z Z (Qa Z ?_)))))))
  refine Qu (g := 11) Z (fun h2 => ?_) (fun h2 => ?_)
  ·rw [h2]
   simp only [qB] at h2
   refine Qe Z (Qg Z Z (Qe Z (Qy Z Z Z (Qe Z (Yt Z Z (Qh Z Z (Qa Z (kc1 hK Z ?_))))))))
   refine Qp (Qk Z ?_)
   (repeat clear hK K); simp_all [NX]
  ·rw [h2]
   simp only [qB] at h2
   refine gn3 Z Z Z (Qh Z Z (Qa Z (kc1 hK Z ?_)))
   refine Qp (Qk Z ?_)
   (repeat clear hK K); simp_all [NX]
 ·rw [h1]
  simp only [qB] at h1
  refine gn3 Z Z Z (Qh Z Z (Qa Z (gn3 Z Z Z (Qh Z Z (Qa Z (kc1 hK Z ?_))))))
  refine Qp (Qk Z ?_)
  (repeat clear hK K); simp_all [NX]
open Go Go.Abs M3 M25
theorem G3 {a b c : Int} {p q : List UInt8} (hp : p.length <= 1000000) (hq : q.length <= 1000000) {part : Int} : Ok Tryz.prog 109 [.agg [.int .i64 a, .int .i64 b, .int .i64 c, .str p, .str q], .int .i64 part] (dOV (Fb a b c p q part)) := by
 refine Ok.ofT ZN Tryz.func109 QgK (QiY Z) ?_
 show TW _ _ tf109.body _ _
 refine Qd fun K hK => Zp Z Z Z (Zw Z (Qa Z (kc3 hK Z Z Z ?_)))
 refine QB ?_ -- 0
 refine Qd fun K hK => QD (cs := [_, _, _, _, _]) Z Z Z Z (Qw (Zh Wa Wa) Z Z (.inr Z) (ZH Z (Qa Z ?_)))
 refine Qu (g := 10) Z (fun h1 => ?_) (fun h1 => ?_)
 ·rw [h1]
  simp only [qB] at h1
  refine gn2 Z Z (Qh Z Z (Qa Z (gn2 Z Z (Qh Z Z (kc4 hK Z Z Z Z ?_)))))
  refine Zn Z (Qd fun K hK => Q1 Z Z (Q4 Z Z Z Z Z Z Z Z (Qa Z (kc2 hK Z Z ?_))))
  refine Qp (Qj (Post.eq (XJ (ds := [.int .i64 _, .int .i64 _, .int .i64 _, .str _, .str _]) (d' := .bool _) (cs := [_, _, _, _, _]) Z Z Z Z Z ⟨rfl, rfl⟩) ?_))
  (simp [Fb, dOV, h1]; done)
 ·rw [h1]
  simp only [qB] at h1
  refine Qe Z (Qa Z (Qe Z (ZS Z Z (Qh Z Z (Qa Z ?_)))))
  refine Qu (g := 14) Z (fun h2 => ?_) (fun h2 => ?_)
  ·rw [h2]
   simp only [qB] at h2
   refine gn2 Z Z (Qh Z Z (kc4 hK Z Z Z Z ?_))
   refine Zn Z (Qd fun K hK => Q1 Z Z (Q4 Z Z Z Z Z Z Z Z (Qa Z (kc2 hK Z Z ?_))))
   refine Qp (Qj (Post.eq (XJ (ds := [.int .i64 _, .int .i64 _, .int .i64 _, .str _, .str _]) (d' := .bool _) (cs := [_, _, _, _, _]) Z Z Z Z Z ⟨rfl, rfl⟩) ?_))
   (simp [Fb, dOV, h1, h2]; done)
  ·rw [h2]
   simp only [qB] at h2
   refine Qe Z (Qa Z (Qe Z (GF Z Z (Qh Z Z (kc4 hK Z Z Z Z ?_)))))
   refine Qt Z (fun h3 => ?_) (fun h3 => ?_)
   ·rw [h3]
    simp only [qB] at h3
    refine Qd fun K hK => Q1 Z Z (Q4 Z Z Z Z Z Z Z Z (Qa Z (kc2 hK Z Z ?_)))
    refine Qp (Qj (Post.eq (XJ (ds := [.int .i64 _, .int .i64 _, .int .i64 _, .str _, .str _]) (d' := .bool _) (cs := [_, _, _, _, _]) Z Z Z Z Z ⟨rfl, rfl⟩) ?_))
    (simp [Fb, dOV, h1, h2, h3]; done)
   ·rw [h3]
    simp only [qB] at h3
    refine Qq (ks3 Z Z Z (Qd fun K hK => Zw Z (kc4 hK Z Z Z Z ?_)))
    refine QB ?_ -- 1
    refine Qd fun K hK => Qa Z (kc4 hK Z Z Z Z ?_)
    refine QA (Qd fun K hK => Yt Z Z (Qa Z (kc5 hK Z Z Z Z Z ?_)))
    refine Qt Z (fun h4 => ?_) (fun h4 => ?_)
    ·rw [h4]
     simp only [qB] at h4
     refine QL fun K hK => Qg Z Z (Qy Z Z Z (QW Z Z (Qn (by have := Gx (by simpa using h1); omega) (by have := Gx (by simpa using h1); omega)) (Q1 Z Z (Q4 Z Z Z Z Z Z Z Z (hK _ ?_)))))
     refine Qf (ks2 Z Z ?_)
     refine QB ?_ -- 2
     refine Qd fun K hK => QD (cs := [_, _, _, _, _]) Z Z Z Z (Qw (Zh Wd Wd) Z Z (.inr Z) (ZH Z (kc3 hK Z Z Z ?_)))
     refine Qt Z (fun h5 => ?_) (fun h5 => ?_)
     ·rw [h5]
      simp only [qB] at h5
      refine Qd fun K hK => Q1 Z Z (Q4 Z Z Z Z Z Z Z Z (Qa Z (kc2 hK Z Z ?_)))
      refine Qp (Qj (Post.eq (XJ (ds := [.int .i64 _, .int .i64 _, .int .i64 _, .str _, .str _]) (d' := .bool _) (cs := [_, _, _, _, _]) Z Z Z Z Z ⟨rfl, rfl⟩) ?_))
      (simp [Fb, dOV, h1, h2, h3, h4, h5]; done)
     ·rw [h5]
      simp only [qB] at h5
      refine Qq (ks2 Z Z (Qd fun K hK => QD (cs := [_, _, _, _, _]) Z Z Z Z (Q4 Z Z Z Z Z Z Z Z (Qa Z (kc2 hK Z Z ?_)))))
      refine Qp (Post.eq (XJ (ds := [.int .i64 _, .int .i64 _, .int .i64 _, .str _, .str _]) (d' := .bool _) (cs := [_, _, _, _, _]) Z Z Z Z Z ⟨rfl, rfl⟩) ?_)
      (simp [Fb, dOV, h1, h2, h3, h4, h5]; done)
    ·rw [h4]
     simp only [qB] at h4
     refine Qd fun K hK => Yt Z Z (Qa Z (kc4 hK Z Z Z Z ?_))
     refine Qt Z (fun h6 => ?_) (fun h6 => ?_)
     ·rw [h6]
      simp only [qB] at h6
      refine QL fun K hK => Qg Z Z (Qy Z Z Z (Qg Z Z (Qy Z Z Z (QW Z Z (Qn (by have := Gx (by simpa using h1); omega) (by have := Gx (by simpa using h1); omega)) (Q1 Z Z (Q4 Z Z Z Z Z Z Z Z (hK _ ?_)))))))
      refine Qf (ks2 Z Z ?_)
      refine QB ?_ -- 2
      refine Qd fun K hK => QD (cs := [_, _, _, _, _]) Z Z Z Z (Qw (Zh Wd Wd) Z Z (.inr Z) (ZH Z (kc3 hK Z Z Z ?_)))
      refine Qt Z (fun h7 => ?_) (fun h7 => ?_)
      ·rw [h7]
       simp only [qB] at h7
       refine Qd fun K hK => Q1 Z Z (Q4 Z Z Z Z Z Z Z Z (Qa Z (kc2 hK Z Z ?_)))
       refine Qp (Qj (Post.eq (XJ (ds := [.int .i64 _, .int .i64 _, .int .i64 _, .str _, .str _]) (d' := .bool _) (cs := [_, _, _, _, _]) Z Z Z Z Z ⟨rfl, rfl⟩) ?_))
       (simp [Fb, dOV, h1, h2, h3, h4, h6, h7]; done)
      ·rw [h7]
       simp only [qB] at h7
       refine Qq (ks2 Z Z (Qd fun K hK => QD (cs := [_, _, _, _, _]) Z Z Z Z (Q4 Z Z Z Z Z Z Z Z (Qa Z (kc2 hK Z Z ?_)))))
       refine Qp (Post.eq (XJ (ds := [.int .i64 _, .int .i64 _, .int .i64 _, .str _, .str _]) (d' := .bool _) (cs := [_, _, _, _, _]) Z Z Z Z Z ⟨rfl, rfl⟩) ?_)
       (simp [Fb, dOV, h1, h2, h3, h4, h6, h7]; done)
     ·rw [h6]
      simp only [qB] at h6
      refine QL fun K hK => Qg Z Z (Qy Z Z Z (Qg Z Z (Qy Z Z Z (Qg Z Z (Qy Z Z Z (QW Z Z (Qn (by have := Gx (by simpa using h1); omega) (by have := Gx (by simpa using h1); omega)) (Q1 Z Z (Q4 Z Z Z Z Z Z Z Z (hK _ ?_)))))))))
      refine Qf (ks2 Z Z ?_)
      refine QB ?_ -- 2
      refine Qd fun K hK => QD (cs := [_, _, _, _, _]) Z Z Z Z (Qw (Zh Wd Wd) Z Z (.inr Z) (ZH Z (kc3 hK Z Z Z ?_)))
      refine Qt Z (fun h8 => ?_) (fun h8 => ?_)
      ·rw [h8]
       simp only [qB] at h8
       refine Qd fun K hK => Q1 Z Z (Q4 Z Z Z Z Z Z Z Z (Qa Z (kc2 hK Z Z ?_)))
       refine Qp (Qj (Post.eq (XJ (ds := [.int .i64 _, .int .i64 _, .int .i64 _, .str _, .str _]) (d' := .bool _) (cs := [_, _, _, _, _]) Z Z Z Z Z ⟨rfl, rfl⟩) ?_))
       (simp [Fb, dOV, h1, h2, h3, h4, h6, h8]; done)
      ·rw [h8]
       simp only [qB] at h8
       refine Qq (ks2 Z Z (Qd fun K hK => QD (cs := [_, _, _, _, _]) Z Z Z Z (Q4 Z Z Z Z Z Z Z Z (Qa Z (kc2 hK Z Z ?_)))))
       refine Qp (Post.eq (XJ (ds := [.int .i64 _, .int .i64 _, .int .i64 _, .str _, .str _]) (d' := .bool _) (cs := [_, _, _, _, _]) Z Z Z Z Z ⟨rfl, rfl⟩) ?_)
       (simp [Fb, dOV, h1, h2, h3, h4, h6, h8]; done)
theorem G4 {a b c : Int} {p q : List UInt8} (hp : p.length <= 1000000) (hq : q.length <= 1000000) : Ok Tryz.prog 91 [.agg [.int .i64 a, .int .i64 b, .int .i64 c, .str p, .str q]] (dOV (TS a b c p q)) := by
 refine Ok.ofT ZN Tryz.func91 QiM (QiY Z) ?_
 show TW _ _ tf91.body _ _
 refine Qd fun K hK => Zp Z Z Z (Zw Z (Qa Z (kc2 hK Z Z ?_)))
 refine QB ?_ -- 0
 refine Qd fun K hK => QD (cs := [_, _, _, _, _]) Z Z Z Z (Qw (Zh Wa Wa) Z Z (.inr Z) (ZH Z (kc3 hK Z Z Z ?_)))
 refine Qt Z (fun h1 => ?_) (fun h1 => ?_)
 ·rw [h1]
  simp only [qB] at h1
  refine Qd fun K hK => Q1 Z Z (Q4 Z Z Z Z Z Z Z Z (Qa Z (kc2 hK Z Z ?_)))
  refine Qp (Qj (Post.eq (XJ (ds := [.int .i64 _, .int .i64 _, .int .i64 _, .str _, .str _]) (d' := .bool _) (cs := [_, _, _, _, _]) Z Z Z Z Z ⟨rfl, rfl⟩) ?_))
  simp [TS, dOV, h1]
 ·rw [h1]
  simp only [qB] at h1
  refine Qq (ks2 Z Z ?_)
  refine QB ?_ -- 1
  refine Qd fun K hK => Qg Z Z (Qy Z Z Z (Bm Z Z (kc3 hK Z Z Z ?_)))
  refine Qt Z (fun h2 => ?_) (fun h2 => ?_)
  ·rw [h2]
   simp only [qB] at h2
   refine Qd fun K hK => Qg Z Z (Qy Z Z Z (Qg Z Z (Qy Z Z Z (Qg Z Z (Qy Z Z Z (Q1 Z Z (Q4 Z Z Z Z Z Z Z Z (Qa Z (kc2 hK Z Z ?_)))))))))
   refine Qp (Qj (Post.eq (XJ (ds := [.int .i64 _, .int .i64 _, .int .i64 _, .str _, .str _]) (d' := .bool _) (cs := [_, _, _, _, _]) Z Z Z Z Z ⟨rfl, rfl⟩) ?_))
   simp [TS, dOV, h1, h2]
  ·rw [h2]
   simp only [qB] at h2
   refine Qq (ks2 Z Z ?_)
   refine QB ?_ -- 2
   refine Qd fun K hK => Qa Z (kc3 hK Z Z Z ?_)
   refine QA ?_
   refine Zg (ι := Nat) (fun m => ⟨[(1, .ref 1 0 0), (2, .ref 2 0 0), (4, .int .i64 ((m : Int) - 1))], [(1, ⟨[[.int .i64 a, .int .i64 b, .int .i64 c, .str p, .str q]], 5, 59, true⟩), (2, ⟨[[.int .i64 0, .int .i64 0, .int .i64 0, .str [], .str []]], 5, 59, true⟩)]⟩) (fun m => m <= 3 /\ XP a b c p q 3 = XP a b c p q m) (fun m => m) 3 ?_ ?_ ?_
   ·exact QZ (l := [1, 2, 4]) (lH := [1, 2]) (kp3 rfl rfl rfl) (Qb rfl (Qb rfl Ql)) rfl rfl rfl
   ·exact ⟨Wa, rfl⟩
   intro m hI
   obtain ⟨hI1, hI2⟩ := hI
   refine QB ?_ -- 3
   refine Qd fun K hK => Qa Z (NM Z Z (kc4 hK Z Z Z Z ?_))
   refine Qt Z (fun h3 => ?_) (fun h3 => ?_)
   ·rw [h3]
    simp only [qB] at h3
    rcases Nat.eq_zero_or_pos m with hm | hm <;> first | omega | skip
    refine Qq (ks3 Z Z Z ?_)
    refine QB ?_ -- 4
    refine QA (Qd fun K hK => QD (cs := [_, _, _, _, _]) Z Z Z Z (Qa Z (Qw (G3 Wa Wa) Z Z (.inl Z) (Qa Z (QX Z Z (QX Z Z (Zw Z (Q4 Z Z Z Z Z Z Z Z (Qa Z (kc5 hK Z Z Z Z Z ?_))))))))))
    refine Qd fun K hK => Qa Z (kc5 hK Z Z Z Z Z ?_)
    refine Qt Z (fun h4 => ?_) (fun h4 => ?_)
    ·rw [h4]
     refine Qd fun K hK => QD (cs := [_, _, _, _, _]) Z Z Z Z (Q4 Z Z Z Z Z Z Z Z (Qa Z (kc2 hK Z Z ?_)))
     refine Qp (Qr (Qj (QR (Qr (Qj (Post.eq (XJ (ds := [.int .i64 _, .int .i64 _, .int .i64 _, .str _, .str _]) (d' := .bool _) (cs := [_, _, _, _, _]) Z Z Z Z Z ⟨rfl, rfl⟩) ?_))))))
     subst h2
     simp [TS, dOV, h1, hI2, Tn hm h4, h4]
    ·rw [h4]
     refine Qq (Qf (ks3 Z Z Z (QL fun K hK => Qa Z (Hl Z Z Wb (Qa Z (hK _ ?_))))))
     refine Qi (m - 1) ?_ ?_ ?_
     ·refine QZ (l := [1, 2, 4]) (lH := [1, 2]) (kp3 Z Z Z) (Qb Z (Qb Z Ql)) ?_ Z rfl; simp only [List.cons.injEq, Prod.mk.injEq, D.int.injEq, and_true, true_and]; omega
     ·exact ⟨Wa, by rw [hI2]; exact LF hm h4⟩
     ·show m - 1 < m; omega
   ·rw [h3]
    simp only [qB] at h3
    rcases Nat.eq_zero_or_pos m with hm | hm <;> first | omega | skip
    refine Q2 (QE (Qs (QC (ks1 Z (Qd fun K hK => Q1 Z Z (Q4 Z Z Z Z Z Z Z Z (Qa Z (kc2 hK Z Z ?_))))))))
    refine Qp (Post.eq (XJ (ds := [.int .i64 _, .int .i64 _, .int .i64 _, .str _, .str _]) (d' := .bool _) (cs := [_, _, _, _, _]) Z Z Z Z Z ⟨rfl, rfl⟩) ?_)
    subst h2
    subst hm
    have hb : XP a b c [] q 3 = none := hI2
    simp [TS, dOV, h1, hb]
open Go Go.Abs M3 M25
theorem Jf {e a b c : Int} {p q : List UInt8} {f : Bool} : Ok Tryz.prog 103 [.agg [.int .i64 e, .int .i64 a, .int .i64 b, .int .i64 c, .str p, .str q, .bool f]] (.bool (NY e a b c p q f)) := by
 refine Ok.ofT ZN Tryz.func103 QgE (QiY Z) ?_
 show TW _ _ tf103.body _ _
 refine Qd fun K hK => Zp Z Z Z (Qa Z (kc1 hK Z ?_))
 refine Qd fun K hK => Qg Z Z (Qy Z Z Z (Ym Z Z (Qa Z ?_)))
 refine Qu (g := 6) Z (fun h1 => ?_) (fun h1 => ?_)
 ·rw [h1]
  simp only [qB] at h1
  refine gn4 Z Z Z Z (QH Z (QH Z (QH Z (QH Z (gn2 Z Z (QH Z (QH Z ?_)))))))
  refine QH Z (QH Z (YN Z (Qh Z Z (Qa Z (kc1 hK Z ?_)))))
  refine Qp (Qk Z ?_)
  (repeat clear hK K); simp_all [NY]
 ·rw [h1]
  simp only [qB] at h1
  refine Qe Z (Qg Z Z (Qe Z (Qy Z Z Z (Qe Z (ZH Z (Qe Z (Qa Z ?_)))))))
  refine Qu (g := 10) Z (fun h2 => ?_) (fun h2 => ?_)
  ·rw [h2]
   simp only [qB] at h2
   refine Qe Z (Qg Z Z (Qe Z (Qg Z Z (Qe Z (Qy Z Z Z (Qe Z (Hw Z Z (Qe Z (Qh Z Z (Qe Z (Qa Z ?_)))))))))))
   refine Qu (g := 16) Z (fun h3 => ?_) (fun h3 => ?_)
   ·rw [h3]
    simp only [qB] at h3
    refine Qe Z (Qg Z Z (Qe Z (QD (cs := [_, _, _, _, _]) Z Z Z Z (Qe Z (Qw (Je) Z Z (.inr Z) (Qe Z (ZH Z (Qe Z (Qh Z Z (Qh Z Z (Qa Z ?_)))))))))))
    refine kc1 hK Z ?_
    refine Qp (Qk Z ?_)
    (repeat clear hK K); simp_all [NY]
   ·rw [h3]
    simp only [qB] at h3
    refine gn4 Z Z Z Z (Qe Z (Qh Z Z (Qh Z Z (Qa Z (kc1 hK Z ?_)))))
    refine Qp (Qk Z ?_)
    (repeat clear hK K); simp_all [NY]
  ·rw [h2]
   simp only [qB] at h2
   refine gn4 Z Z Z Z (Qe Z (Qh Z Z (Qe Z (Qa Z (gn4 Z Z Z Z ?_)))))
   refine Qe Z (Qh Z Z (Qh Z Z (Qa Z (kc1 hK Z ?_))))
   refine Qp (Qk Z ?_)
   (repeat clear hK K); simp_all [NY]
theorem GR {a b c : Int} {p q : List UInt8} : Ok Tryz.prog 65 [.agg [.int .i64 a, .int .i64 b, .int .i64 c, .str p, .str q]] (.agg (dCu (Pn a b c))) := by
 refine Ok.ofT ZN Tryz.func65 Qio (QiY Z) ?_
 show TW _ _ tf65.body _ _
 refine Qd fun K hK => Zp Z Z Z (Zw Z (kc2 hK Z Z ?_))
 refine QB ?_ -- 0
 refine Qd fun K hK => QD (cs := [_, _, _, _, _]) Z Z Z Z (Qw (Je) Z Z (.inr Z) (kc3 hK Z Z Z ?_))
 refine Qt Z (fun h1 => ?_) (fun h1 => ?_)
 ·rw [h1]
  refine Qd fun K hK => Qw (Xc) Z Z (.inl Z) (Q4 Z Z Z Z Z Z Z Z (kc1 hK Z ?_))
  refine Qp (Qj (Post.eq (ZG (ds := [.int .i64 _, .int .i64 _, .int .i64 _, .int .i64 _, .str _, .str _, .bool _]) (cs := [_, _, _, _, _, _, _]) Z Z Z Z Z) ?_))
  simp [Pn, dCu, GT, h1]
 ·rw [h1]
  refine Qq (ks2 Z Z (Qd fun K hK => Qg Z Z (Qy Z Z Z (Qg Z Z (Qy Z Z Z (Qg Z Z (Qy Z Z Z (Q1 Z Z (Qw (YR) Z Z (.inl Z) (Q4 Z Z Z Z Z Z Z Z ?_))))))))))
  refine kc1 hK Z ?_
  refine Qp (Post.eq (ZG (ds := [.int .i64 _, .int .i64 _, .int .i64 _, .int .i64 _, .str _, .str _, .bool _]) (cs := [_, _, _, _, _, _, _]) Z Z Z Z Z) ?_)
  simp [Pn, dCu, GT, h1]
theorem HK {a b c : Int} {p q : List UInt8} : Ok Tryz.prog 66 [.agg [.int .i64 a, .int .i64 b, .int .i64 c, .str p, .str q]] (.agg (dCu (FV a b c))) := by
 refine Ok.ofT ZN Tryz.func66 Qip (QiY Z) ?_
 show TW _ _ tf66.body _ _
 refine Qd fun K hK => Zp Z Z Z (Zw Z (kc2 hK Z Z ?_))
 refine Qd fun K hK => Qg Z Z (Qy Z Z Z (Qg Z Z (Qy Z Z Z (Qg Z Z (Qy Z Z Z (Q1 Z Z (Qw (G4 Wd Wd) Z Z (.inl Z) (Qa Z (QX Z Z (QX Z Z ?_))))))))))
 refine Zw Z (Q4 Z Z Z Z Z Z Z Z (Qa Z (kc3 hK Z Z Z ?_)))
 refine QB ?_ -- 0
 refine Qd fun K hK => Qa Z (ZH Z (kc3 hK Z Z Z ?_))
 refine Qt Z (fun h1 => ?_) (fun h1 => ?_)
 ·rw [h1]
  simp only [qB] at h1
  refine Qd fun K hK => Qw (Xo) Z Z (.inl Z) (Q4 Z Z Z Z Z Z Z Z (kc1 hK Z ?_))
  refine Qp (Qj (Post.eq (ZG (ds := [.int .i64 _, .int .i64 _, .int .i64 _, .int .i64 _, .str _, .str _, .bool _]) (cs := [_, _, _, _, _, _, _]) Z Z Z Z Z) ?_))
  cases hn : TS a b c [] [] <;> simp [FV, dCu, P6, hn] at *
 ·rw [h1]
  simp only [qB] at h1
  refine Qq (ks2 Z Z (Qd fun K hK => QD (cs := [_, _, _, _, _]) Z Z Z Z (Qw (YR) Z Z (.inl Z) (Q4 Z Z Z Z Z Z Z Z (kc1 hK Z ?_)))))
  refine Qp (Post.eq (ZG (ds := [.int .i64 _, .int .i64 _, .int .i64 _, .int .i64 _, .str _, .str _, .bool _]) (cs := [_, _, _, _, _, _, _]) Z Z Z Z Z) ?_)
  cases hn : TS a b c [] [] <;> simp [FV, dCu, P6, hn] at *
theorem Jg  : Ok Tryz.prog 85 [] (Zl [(GT, P6)]) := by
 refine Ok.ofT ZN Tryz.func85 QiG (QiY Z) ?_
 show TW _ _ tf85.body _ _
 refine Qd fun K hK => Qa Z (hK _ _ (LB (Zm) ?_))
 refine Qd fun K hK => Qw (Xc) Z Z (.inl Z) (Qw (Xo) Z Z (.inl Z) (Q1 Z Z (QK Z Z (Qa Z (kc1 hK Z ?_)))))
 refine Qp (ZQ Z ?_)
 rfl
theorem Z9  : Ok Tryz.prog 62 [] (MY ([], [])) := by
 refine Ok.ofT ZN Tryz.func62 Qil (QiY Z) ?_
 show TW _ _ tf62.body _ _
 refine Qd fun K hK => Zw Z (kc1 hK Z ?_)
 refine Qd fun K hK => Q1 Z Z (Q4 Z Z Z Z Z Z Z Z (kc1 hK Z ?_))
 refine Qp (Post.eq (ZG (ds := [.sl _, .sl _]) (cs := [_, _]) Z Z Z Z Z) ?_)
 rfl
theorem JY  : Ok Tryz.prog 60 [] (MY ([(GT, P6)], [(GT, P6)])) := by
 refine Ok.ofT ZN Tryz.func60 Qij (QiY Z) ?_
 show TW _ _ tf60.body _ _
 refine Qd fun K hK => Zw Z (kc1 hK Z ?_)
 refine Qd fun K hK => Qw (Jg) Z Z (.inl Z) (Qw (Jg) Z Z (.inl Z) (Q1 Z Z (Q4 Z Z Z Z Z Z Z Z (kc1 hK Z ?_))))
 refine Qp (Post.eq (ZG (ds := [.sl _, .sl _]) (cs := [_, _]) Z Z Z Z Z) ?_)
 rfl
theorem Jd {a b c : Int} {p q : List UInt8} (hp : p.length <= 1000000) (hq : q.length <= 1000000) : Ok Tryz.prog 32 [.agg [.int .i64 a, .int .i64 b, .int .i64 c, .str p, .str q]] (MY (Xq a b c p q)) := by
 refine Ok.ofT ZN Tryz.func32 QhU (QiY Z) ?_
 show TW _ _ tf32.body _ _
 refine Qd fun K hK => Zp Z Z Z (Zw Z (kc2 hK Z Z ?_))
 refine QB ?_ -- 0
 refine Qd fun K hK => QD (cs := [_, _, _, _, _]) Z Z Z Z (Qw (Zh Wa Wa) Z Z (.inr Z) (ZH Z (kc3 hK Z Z Z ?_)))
 refine Qt Z (fun h1 => ?_) (fun h1 => ?_)
 ·rw [h1]
  simp only [qB] at h1
  refine Qd fun K hK => Qw (Z9) Z Z (.inl Z) (Q4 Z Z Z Z Z Z Z Z (kc1 hK Z ?_))
  refine Qp (Qj (Post.eq (ZG (ds := [.sl _, .sl _]) (cs := [_, _]) Z Z Z Z Z) ?_))
  simp [Xq, MY, Zl, N6, dCu, h1]
 ·rw [h1]
  simp only [qB] at h1
  refine Qq (ks2 Z Z ?_)
  refine QB ?_ -- 1
  refine Qd fun K hK => Qg Z Z (Qy Z Z Z (Bm Z Z (kc3 hK Z Z Z ?_)))
  refine Qt Z (fun h2 => ?_) (fun h2 => ?_)
  ·rw [h2]
   simp only [qB] at h2
   refine Qd fun K hK => QM (ds0 := [6, 3, 2, 1, 0]) (cs := [_, _, _, _, _]) Z Z Z Z Z Z (Q0 (ds0 := [3, 2, 1, 0]) (YR) Z Z (.inl Z) Z Z (QM (ds0 := [4, 3, 2, 1, 0]) (cs := [_, _, _, _, _]) Z Z Z Z Z Z (Q0 (ds0 := [3, 2, 1, 0]) (HJ) Z Z (.inl Z) Z Z (Q1 Z Z (QK Z Z (Q1 Z Z (Yv (ds0 := []) Z Z Z Z Z Z Z Z Z Z (kc1 hK Z ?_))))))))
   refine Qp (Qj (Post.eq (ZG (ds := [.sl _, .sl _]) (cs := [_, _]) Z Z Z Z Z) ?_))
   simp [Xq, MY, Zl, N6, dCu, h1, h2]
  ·rw [h2]
   simp only [qB] at h2
   refine Qq (ks2 Z Z (Qd fun K hK => QM (ds0 := [6, 3, 2, 1, 0]) (cs := [_, _, _, _, _]) Z Z Z Z Z Z (Q0 (ds0 := [3, 2, 1, 0]) (GR) Z Z (.inl Z) Z Z (QM (ds0 := [4, 3, 2, 1, 0]) (cs := [_, _, _, _, _]) Z Z Z Z Z Z (Q0 (ds0 := [3, 2, 1, 0]) (HK) Z Z (.inl Z) Z Z (Q1 Z Z (QK Z Z (Q1 Z Z (Yv (ds0 := []) Z Z Z Z Z Z Z Z Z Z (kc1 hK Z ?_))))))))))
   refine Qp (Post.eq (ZG (ds := [.sl _, .sl _]) (cs := [_, _]) Z Z Z Z Z) ?_)
   subst h2
   simp [Xq, MY, Zl, N6, dCu, h1]
open Go Go.Abs M3 M25
theorem ZZ {l : List (Cu × Cu)} (hl : Sm l) : Ok Tryz.prog 102 [Zl l] (.bool (Ht l)) := by
 refine Ok.ofT ZN Tryz.func102 QgD (QiY Z) ?_
 show TW _ _ tf102.body _ _
 have hn := hl.1
 refine Qd fun K hK => Qa Z (kc1 hK Z ?_)
 refine QB ?_ -- 0
 refine Qd fun K hK => Qa Z (kc2 hK Z Z ?_)
 refine QA ?_
 refine Zg (ι := Nat) (fun i => ⟨[(0, Zl l), (3, .int .i64 i)], []⟩) (fun i => i <= l.length /\ (List.range i).all (Qej l) = true) (fun i => l.length - i) 0 ?_ ?_ ?_
 ·exact QS (kp2 rfl rfl)
 ·exact ⟨Qja _, rfl⟩
 intro i hI
 refine QB ?_ -- 1
 refine Qd fun K hK => mv2 Z Z (Zb Z Z (ZS Z Z (kc3 hK Z Z Z ?_)))
 refine Qt Z (fun h1 => ?_) (fun h1 => ?_)
 ·rw [h1]
  simp only [qA] at h1
  refine Qq (ks2 Z Z ?_)
  refine QB ?_ -- 2
  refine QA (Qd fun K hK => mv2 Z Z (QG Z Z Z Wa (QV Wa) Z (QM (ds0 := [20, 19, 18, 17, 16, 15, 14, 13, 12, 11, 10, 9, 8, 7, 6, 5, 4, 3, 2, 1, 0]) (cs := [_, _, _, _, _, _, _, _, _, _, _, _, _, _]) Z Z Z Z Z Z (Q0 (ds0 := [19, 18, 17, 16, 15, 14, 13, 12, 11, 10, 9, 8, 7, 6, 5, 4, 3, 2, 1, 0]) (YI (hl.at (i := i) Wa).1.1 (hl.at (i := i) Wa).1.2 (hl.at (i := i) Wa).2.1 (hl.at (i := i) Wa).2.2) Z Z (.inr Z) Z Z (ZH Z (Qa Z ?_))))))
  refine Qu (g := 16) Z (fun h2 => ?_) (fun h2 => ?_)
  ·rw [h2]
   simp only [qA] at h2
   refine gn3 Z Z Z (QH Z (QH Z (QH Z (QH Z (QH Z (QH Z (QH Z (QH Z (QH Z ?_)))))))))
   refine QH Z (QH Z (QH Z (QH Z (YN Z (Qh Z Z (kc3 hK Z Z Z ?_))))))
   refine Zn Z (Qd fun K hK => Qa Z (kc1 hK Z ?_))
   refine Qp (Qr (Qj (QR (Qr (Qj (Qk Z ?_))))))
   first
    | exact (GA hI.2 Wa).symm
    | exact (Yj (i := i) Wa (Hk Wa (.inl h2))).symm
    | (simp only [Kd] at *; exact (Yj (i := i) Wa (Hk Wa (.inr ⟨Wa, h4⟩))).symm)
  ·rw [h2]
   simp only [qA] at h2
   refine Qe Z (Qa Z (Qe Z (GF Z Z (Qe Z (Qa Z ?_)))))
   refine Qu (g := 19) Z (fun h3 => ?_) (fun h3 => ?_)
   ·rw [h3]
    simp only [qA] at h3
    refine Qe Z (Qa Z (Qe Z (Qa Z (Qe Z (Hl Z Z Wb (Qe Z (QG Z Z Z Wa (Zq Wa Wa) Z (Qe Z (Ze Z Z (Qe Z (QM (ds0 := [3, 2, 1, 0]) (cs := [_, _, _, _, _, _, _]) Z Z Z Z Z Z ?_)))))))))))
    refine Qe Z (Qa Z (Qe Z (Qa Z (Qe Z (QG Z Z Z Wa (QV Wa) Z (Qe Z (Ze Z Z (Qe Z (QM (ds0 := [3, 2, 1, 0]) (cs := [_, _, _, _, _, _, _]) Z Z Z Z Z Z (Qe Z (Q0 (ds0 := [2, 1, 0]) (ZC (hl.at (i := ((i : Int) - 1).toNat) Wa).2.1 (hl.at (i := ((i : Int) - 1).toNat) Wa).2.2 (hl.at (i := i) Wa).1.1 (hl.at (i := i) Wa).1.2) Z Z (.inr Z) Z Z ?_)))))))))))
    refine Qe Z (NM Z Z (Qe Z (Qh Z Z (Qh Z Z (kc3 hK Z Z Z ?_)))))
    refine Qt Z (fun h4 => ?_) (fun h4 => ?_)
    ·rw [h4]
     simp only [qA] at h4
     refine Qd fun K hK => Qa Z (kc1 hK Z ?_)
     refine Qp (Qr (Qj (QR (Qr (Qj (Qk Z ?_))))))
     first
      | exact (GA hI.2 Wa).symm
      | exact (Yj (i := i) Wa (Hk Wa (.inl h2))).symm
      | (simp only [Kd] at *; exact (Yj (i := i) Wa (Hk Wa (.inr ⟨Wa, h4⟩))).symm)
    ·rw [h4]
     simp only [qA] at h4
     refine Qq (Qf (ks2 Z Z (QL fun K hK => Qa Z (QW Z Z Wb (Qa Z (hK _ ?_))))))
     refine Qi (i + 1) ?_ ?_ ?_
     ·exact QS (kp2 rfl rfl)
     ·exact ⟨Wa, Ke hI.2 (Ck Wa h2 (by (simp only [Kd] at *; exact .inr (Int.not_le.1 h4))))⟩
     ·omega
   ·rw [h3]
    simp only [qA] at h3
    refine gn4 Z Z Z Z (gn4 Z Z Z Z (gn4 Z Z Z Z ?_))
    refine YN Z (Qe Z (Qh Z Z (Qh Z Z (kc3 hK Z Z Z ?_))))
    refine Zk Z (Qq (Qf (ks2 Z Z (QL fun K hK => Qa Z (QW Z Z Wb (Qa Z (hK _ ?_)))))))
    refine Qi (i + 1) ?_ ?_ ?_
    ·exact QS (kp2 rfl rfl)
    ·exact ⟨Wa, Ke hI.2 (Ck Wa h2 (by exact .inl Wa))⟩
    ·omega
 ·rw [h1]
  simp only [qA] at h1
  refine Q2 (QE (Qs (QC (QP (Zm) (Qd fun K hK => Qa Z (kc1 hK Z ?_))))))
  refine Qp (Qk Z ?_)
  first
   | exact (GA hI.2 Wa).symm
   | exact (Yj (i := i) Wa (Hk Wa (.inl h2))).symm
   | (simp only [Kd] at *; exact (Yj (i := i) Wa (Hk Wa (.inr ⟨Wa, h4⟩))).symm)
theorem Kz {l : List (Cu × Cu)} (hl : Sm l) {x y : Cu} (hx : Cu.sm x) (hy : Cu.sm y) : Ok Tryz.prog 127 [Zl l, .agg (dCu x), .agg (dCu y)] (.bool (mIn l x y)) := by
 refine Ok.ofT ZN Tryz.func127 Qg0 (QiY Z) ?_
 show TW _ _ tf127.body _ _
 have hn := hl.1
 refine Qd fun K hK => Zp Z Z Z (Zp Z Z Z (Qa Z (kc3 hK Z Z Z ?_)))
 refine QB ?_ -- 0
 refine Qd fun K hK => Qa Z (kc4 hK Z Z Z Z ?_)
 refine QA ?_
 refine Zg (ι := Nat) (fun i => ⟨[(0, Zl l), (4, .ref 4 0 0), (5, .ref 5 0 0), (7, .int .i64 i)], [(4, ⟨[dCu x], 7, 113, true⟩), (5, ⟨[dCu y], 7, 113, true⟩)]⟩) (fun i => i <= l.length /\ (l.take i).any (inC x y) = false) (fun i => l.length - i) 0 ?_ ?_ ?_
 ·exact QZ (l := [0, 4, 5, 7]) (lH := [4, 5]) (kp4 rfl rfl rfl rfl) (Qb rfl (Qb rfl Ql)) rfl rfl rfl
 ·exact ⟨Qja _, by simp⟩
 intro i hI
 refine QB ?_ -- 1
 refine Qd fun K hK => mv2 Z Z (Zb Z Z (ZS Z Z (kc5 hK Z Z Z Z Z ?_)))
 refine Qt Z (fun h1 => ?_) (fun h1 => ?_)
 ·rw [h1]
  simp only [qA] at h1
  refine Qq (ks4 Z Z Z Z ?_)
  refine QB ?_ -- 2
  refine QA (Qd fun K hK => mv2 Z Z (QG Z Z Z Wa (QV Wa) Z (Ze Z Z (QM (ds0 := [11, 10, 9, 8, 7, 6, 5, 4, 3, 2, 1, 0]) (cs := [_, _, _, _, _, _, _]) Z Z Z Z Z Z (QM (ds0 := [11, 10, 9, 8, 7, 6, 5, 4, 3, 2, 1, 0]) (cs := [_, _, _, _, _, _, _]) Z Z Z Z Z Z (Q0 (ds0 := [10, 9, 8, 7, 6, 5, 4, 3, 2, 1, 0]) (ZC (hl.at (i := i) Wa).1.1 (hl.at (i := i) Wa).1.2 hx.1 hx.2) Z Z (.inr Z) Z Z (Qbq Z Z (Qa Z ?_))))))))
  refine Qu (g := 22) Z (fun h2 => ?_) (fun h2 => ?_)
  ·rw [h2]
   simp only [qA] at h2
   refine Qe Z (QM (ds0 := [2, 1, 0]) (cs := [_, _, _, _, _, _, _]) Z Z Z Z Z Z (Qe Z (Qa Z (Qe Z (Qa Z (Qe Z (QG Z Z Z Wa (QV Wa) Z (Qe Z (Ze Z Z (Qe Z (QM (ds0 := [2, 1, 0]) (cs := [_, _, _, _, _, _, _]) Z Z Z Z Z Z ?_)))))))))))
   refine Qe Z (Q0 (ds0 := [1, 0]) (ZC hy.1 hy.2 (hl.at (i := i) Wa).2.1 (hl.at (i := i) Wa).2.2) Z Z (.inr Z) Z Z (Qe Z (Qbq Z Z (Qh Z Z (kc5 hK Z Z Z Z Z ?_)))))
   refine Qt Z (fun h3 => ?_) (fun h3 => ?_)
   ·rw [h3]
    simp only [qA] at h3
    refine Qd fun K hK => Qa Z (kc1 hK Z ?_)
    refine Qp (Qr (Qj (QR (Qr (Qj (Qk Z ?_))))))
    first
     | exact (QcW (i := i) Wa hI.2).symm
     | exact (LD (i := i) Wa (Qft h2 h3)).symm
   ·rw [h3]
    simp only [qA] at h3
    refine Qq (Qf (ks4 Z Z Z Z (QL fun K hK => Qa Z (QW Z Z Wb (Qa Z (hK _ ?_))))))
    refine Qi (i + 1) ?_ ?_ ?_
    ·exact QZ (l := [0, 4, 5, 7]) (lH := [4, 5]) (kp4 rfl rfl rfl rfl) (Qb rfl (Qb rfl Ql)) rfl rfl rfl
    ·exact ⟨Wa, ML Wa hI.2 (Qfs (by exact .inr h3))⟩
    ·omega
  ·rw [h2]
   simp only [qA] at h2
   refine gn4 Z Z Z Z (gn4 Z Z Z Z (Qh Z Z (kc5 hK Z Z Z Z Z ?_)))
   refine Zk Z (Qq (Qf (ks4 Z Z Z Z (QL fun K hK => Qa Z (QW Z Z Wb (Qa Z (hK _ ?_)))))))
   refine Qi (i + 1) ?_ ?_ ?_
   ·exact QZ (l := [0, 4, 5, 7]) (lH := [4, 5]) (kp4 rfl rfl rfl rfl) (Qb rfl (Qb rfl Ql)) rfl rfl rfl
   ·exact ⟨Wa, ML Wa hI.2 (Qfs (by exact .inl h2))⟩
   ·omega
 ·rw [h1]
  simp only [qA] at h1
  refine Q2 (QE (Qs (QC (QP (Zm) (Qd fun K hK => Qa Z (kc1 hK Z ?_))))))
  refine Qp (Qk Z ?_)
  first
   | exact (QcW (i := i) Wa hI.2).symm
   | exact (LD (i := i) Wa (Qft h2 h3)).symm
open Go Go.Abs M3 M25
theorem JU {l : List (Cu × Cu)} (hl : Sm l) {a b c : Int} {p q : List UInt8} (hp : p.length <= 1000000) (hq : q.length <= 1000000) : Ok Tryz.prog 84 [Zl l, .agg [.int .i64 a, .int .i64 b, .int .i64 c, .str p, .str q]] (.bool (P8 l a b c p q)) := by
 refine Ok.ofT ZN Tryz.func84 QiF (QiY Z) ?_
 show TW _ _ tf84.body _ _
 have hn := hl.1
 refine Qd fun K hK => Zp Z Z Z (Qa Z (kc2 hK Z Z ?_))
 refine QB ?_ -- 0
 refine Qd fun K hK => Qa Z (kc3 hK Z Z Z ?_)
 refine QA ?_
 refine Zg (ι := Nat) (fun i => ⟨[(0, Zl l), (3, .ref 3 0 0), (5, .int .i64 i)], [(3, ⟨[[.int .i64 a, .int .i64 b, .int .i64 c, .str p, .str q]], 5, 59, true⟩)]⟩) (fun i => i <= l.length /\ (l.take i).any (fun s => Pp s a b c p q) = false) (fun i => l.length - i) 0 ?_ ?_ ?_
 ·exact QZ (l := [0, 3, 5]) (lH := [3]) (kp3 rfl rfl rfl) (Qb rfl Ql) rfl rfl rfl
 ·exact ⟨Qja _, by simp⟩
 intro i hI
 refine QB ?_ -- 1
 refine Qd fun K hK => mv2 Z Z (Zb Z Z (ZS Z Z (Qa Z ?_)))
 refine Qu (g := 10) Z (fun h1 => ?_) (fun h1 => ?_)
 ·rw [h1]
  simp only [qA] at h1
  refine Qe Z (Qa Z (Qe Z (Qw (ZZ hl) Z Z (.inr Z) (Qh Z Z (kc4 hK Z Z Z Z ?_)))))
  refine Qt Z (fun h2 => ?_) (fun h2 => ?_)
  ·rw [h2]
   refine Qq (ks3 Z Z Z ?_)
   refine QB ?_ -- 2
   refine QA (Qd fun K hK => mv2 Z Z (QG Z Z Z Wa (QV Wa) Z (QM (ds0 := [0]) (cs := [_, _, _, _, _, _, _, _, _, _, _, _, _, _]) Z Z Z Z Z Z (QM (ds0 := [0]) (cs := [_, _, _, _, _]) Z Z Z Z Z Z (Q0 (ds0 := []) (GQ (hl.at (i := i) Wa).1.1 (hl.at (i := i) Wa).1.2 (hl.at (i := i) Wa).2.1 (hl.at (i := i) Wa).2.2 hp hq) Z Z (.inr Z) Z Z (kc4 hK Z Z Z Z ?_))))))
   refine Qt Z (fun h3 => ?_) (fun h3 => ?_)
   ·rw [h3]
    simp only [qA] at h3
    refine Qd fun K hK => Qa Z (kc1 hK Z ?_)
    refine Qp (Qr (Qj (QR (Qr (Qj (Qk Z ?_))))))
    first
     | exact (Gq (i := i) Wa hI.2).symm
     | exact (Gr h2).symm
     | exact (Gs h2 (i := i) Wa h3).symm
   ·rw [h3]
    simp only [qA] at h3
    refine Qq (Qf (ks3 Z Z Z (QL fun K hK => Qa Z (QW Z Z Wb (Qa Z (hK _ ?_))))))
    refine Qi (i + 1) ?_ ?_ ?_
    ·exact QZ (l := [0, 3, 5]) (lH := [3]) (kp3 rfl rfl rfl) (Qb rfl Ql) rfl rfl rfl
    ·exact ⟨Wa, ML Wa hI.2 h3⟩
    ·omega
  ·rw [h2]
   refine Q2 (QE (Qs (QC (QP (Zm) (Qd fun K hK => Qa Z (kc1 hK Z ?_))))))
   refine Qp (Qk Z ?_)
   first
    | exact (Gq (i := i) Wa hI.2).symm
    | exact (Gr h2).symm
    | exact (Gs h2 (i := i) Wa h3).symm
 ·rw [h1]
  simp only [qA] at h1
  refine gn2 Z Z (Qh Z Z (kc4 hK Z Z Z Z ?_))
  refine Zk Z (Q2 (QE (Qs (QC (QP (Zm) (Qd fun K hK => Qa Z (kc1 hK Z ?_)))))))
  refine Qp (Qk Z ?_)
  first
   | exact (Gq (i := i) Wa hI.2).symm
   | exact (Gr h2).symm
   | exact (Gs h2 (i := i) Wa h3).symm
theorem YL {s : List (Cu × Cu) × List (Cu × Cu)} (h1s : Sm s.1) (h2s : Sm s.2) : Ok Tryz.prog 83 [MY s] (.bool (Fc s)) := by
 refine Ok.ofT ZN Tryz.func83 QiE (QiY Z) ?_
 show TW _ _ tf83.body _ _
 have hn := h1s.1
 refine Qd fun K hK => Zp Z Z Z (Qa Z (kc1 hK Z ?_))
 refine QB ?_ -- 0
 refine Qd fun K hK => Qg Z Z (Qy Z Z Z (Qw (ZZ h1s) Z Z (.inr Z) (ZH Z (Qa Z ?_))))
 refine Qu (g := 8) Z (fun h1 => ?_) (fun h1 => ?_)
 ·rw [h1]
  simp only [qA] at h1
  refine gn4 Z Z Z Z (Qh Z Z (kc2 hK Z Z ?_))
  refine Zn Z (Qd fun K hK => Qa Z (kc1 hK Z ?_))
  refine Qp (Qj (Qk Z ?_))
  first
   | exact (FY (i := i) h1 h2 Wa hI.2).symm
   | exact (JI (i := i) Wa (.inl h4)).symm
   | exact (JI (i := i) Wa (.inr h5)).symm
   | exact (Ks (.inl h1)).symm
   | exact (Ks (.inr h2)).symm
 ·rw [h1]
  simp only [qA] at h1
  refine Qe Z (Qg Z Z (Qe Z (Qy Z Z Z (Qe Z (Qw (ZZ h2s) Z Z (.inr Z) (Qe Z (ZH Z (Qh Z Z (kc2 hK Z Z ?_)))))))))
  refine Qt Z (fun h2 => ?_) (fun h2 => ?_)
  ·rw [h2]
   simp only [qA] at h2
   refine Qd fun K hK => Qa Z (kc1 hK Z ?_)
   refine Qp (Qj (Qk Z ?_))
   first
    | exact (FY (i := i) h1 h2 Wa hI.2).symm
    | exact (JI (i := i) Wa (.inl h4)).symm
    | exact (JI (i := i) Wa (.inr h5)).symm
    | exact (Ks (.inl h1)).symm
    | exact (Ks (.inr h2)).symm
  ·rw [h2]
   simp only [qA] at h2
   refine Qq (ks1 Z ?_)
   refine QB ?_ -- 1
   refine Qd fun K hK => Qa Z (kc2 hK Z Z ?_)
   refine QA ?_
   refine Zg (ι := Nat) (fun i => ⟨[(1, .ref 1 0 0), (3, .int .i64 i)], [(1, ⟨[[Zl s.1, Zl s.2]], 2, 66, true⟩)]⟩) (fun i => i <= s.1.length /\ (s.1.take i).all (fun x => Xt x.1 && Xt x.2) = true) (fun i => s.1.length - i) 0 ?_ ?_ ?_
   ·exact QZ (l := [1, 3]) (lH := [1]) (kp2 rfl rfl) (Qb rfl Ql) rfl rfl rfl
   ·exact ⟨Qja _, by simp⟩
   intro i hI
   refine QB ?_ -- 2
   refine Qd fun K hK => Qa Z (Qg Z Z (Qy Z Z Z (Zb Z Z (ZS Z Z (kc3 hK Z Z Z ?_)))))
   refine Qt Z (fun h3 => ?_) (fun h3 => ?_)
   ·rw [h3]
    simp only [qA] at h3
    refine Qq (ks2 Z Z ?_)
    refine QB ?_ -- 3
    refine QA (Qd fun K hK => Qg Z Z (Qy Z Z Z (Qa Z (QG Z Z Z Wa (QV Wa) Z (Ze Z Z (QD (cs := [_, _, _, _, _, _, _]) Z Z Z Z (Qw (Jf) Z Z (.inr Z) (ZH Z (Qa Z ?_)))))))))
    refine Qu (g := 29) Z (fun h4 => ?_) (fun h4 => ?_)
    ·rw [h4]
     simp only [qA] at h4
     refine gn4 Z Z Z Z (gn4 Z Z Z Z (Qh Z Z (kc3 hK Z Z Z ?_)))
     refine Zn Z (Qd fun K hK => Qa Z (kc1 hK Z ?_))
     refine Qp (Qr (Qj (QR (Qr (Qj (Qk Z ?_))))))
     first
      | exact (FY (i := i) h1 h2 Wa hI.2).symm
      | exact (JI (i := i) Wa (.inl h4)).symm
      | exact (JI (i := i) Wa (.inr h5)).symm
      | exact (Ks (.inl h1)).symm
      | exact (Ks (.inr h2)).symm
    ·rw [h4]
     simp only [qA] at h4
     refine Qe Z (Qg Z Z (Qe Z (Qy Z Z Z (Qe Z (Qa Z (Qe Z (QG Z Z Z Wa (QV Wa) Z (Qe Z (Ze Z Z (Qe Z (QD (cs := [_, _, _, _, _, _, _]) Z Z Z Z ?_)))))))))))
     refine Qe Z (Qw (Jf) Z Z (.inr Z) (Qe Z (ZH Z (Qh Z Z (kc3 hK Z Z Z ?_)))))
     refine Qt Z (fun h5 => ?_) (fun h5 => ?_)
     ·rw [h5]
      simp only [qA] at h5
      refine Qd fun K hK => Qa Z (kc1 hK Z ?_)
      refine Qp (Qr (Qj (QR (Qr (Qj (Qk Z ?_))))))
      first
       | exact (FY (i := i) h1 h2 Wa hI.2).symm
       | exact (JI (i := i) Wa (.inl h4)).symm
       | exact (JI (i := i) Wa (.inr h5)).symm
       | exact (Ks (.inl h1)).symm
       | exact (Ks (.inr h2)).symm
     ·rw [h5]
      simp only [qA] at h5
      refine Qq (Qf (ks2 Z Z (QL fun K hK => Qa Z (QW Z Z Wb (Qa Z (hK _ ?_))))))
      refine Qi (i + 1) ?_ ?_ ?_
      ·exact QZ (l := [1, 3]) (lH := [1]) (kp2 rfl rfl) (Qb rfl Ql) rfl rfl rfl
      ·exact ⟨Wa, Zr Wa hI.2 (by rw [show Xt s.1[i].1 = true from h4, show Xt s.1[i].2 = true from h5]; rfl)⟩
      ·omega
   ·rw [h3]
    simp only [qA] at h3
    refine Q2 (QE (Qs (QC (QP (Zm) (Qd fun K hK => Qa Z (kc1 hK Z ?_))))))
    refine Qp (Qk Z ?_)
    first
     | exact (FY (i := i) h1 h2 Wa hI.2).symm
     | exact (JI (i := i) Wa (.inl h4)).symm
     | exact (JI (i := i) Wa (.inr h5)).symm
     | exact (Ks (.inl h1)).symm
     | exact (Ks (.inr h2)).symm
theorem Fz {s : List (Cu × Cu) × List (Cu × Cu)} (h1s : Sm s.1) (h2s : Sm s.2) {a b c : Int} {p q : List UInt8} (hp : p.length <= 1000000) (hq : q.length <= 1000000) : Ok Tryz.prog 57 [MY s, .agg [.int .i64 a, .int .i64 b, .int .i64 c, .str p, .str q]] (.bool (Po s a b c p q)) := by
 refine Ok.ofT ZN Tryz.func57 Qig (QiY Z) ?_
 show TW _ _ tf57.body _ _
 refine Qd fun K hK => Zp Z Z Z (Zp Z Z Z (Qa Z (kc2 hK Z Z ?_)))
 refine QB ?_ -- 0
 refine Qd fun K hK => QD (cs := [_, _]) Z Z Z Z (Qw (YL h1s h2s) Z Z (.inr Z) (ZH Z (Qa Z ?_)))
 refine Qu (g := 8) Z (fun h1 => ?_) (fun h1 => ?_)
 ·rw [h1]
  simp only [qB] at h1
  refine gn3 Z Z Z (Qh Z Z (kc3 hK Z Z Z ?_))
  refine Zn Z (Qd fun K hK => Qa Z (kc1 hK Z ?_))
  refine Qp (Qj (Qk Z ?_))
  (repeat clear hK K); simp_all [Po]
 ·rw [h1]
  simp only [qB] at h1
  refine Qe Z (QD (cs := [_, _, _, _, _]) Z Z Z Z (Qe Z (Qw (Zh hp hq) Z Z (.inr Z) (Qe Z (ZH Z (Qh Z Z (kc3 hK Z Z Z ?_)))))))
  refine Qt Z (fun h2 => ?_) (fun h2 => ?_)
  ·rw [h2]
   simp only [qB] at h2
   refine Qd fun K hK => Qa Z (kc1 hK Z ?_)
   refine Qp (Qj (Qk Z ?_))
   (repeat clear hK K); simp_all [Po]
  ·rw [h2]
   simp only [qB] at h2
   refine Qq (ks2 Z Z ?_)
   refine QB ?_ -- 1
   refine Qd fun K hK => Qg Z Z (Qy Z Z Z (Hw Z Z (kc3 hK Z Z Z ?_)))
   refine Qt Z (fun h3 => ?_) (fun h3 => ?_)
   ·rw [h3]
    simp only [qB] at h3
    refine Qd fun K hK => Qg Z Z (Qy Z Z Z (QD (cs := [_, _, _, _, _]) Z Z Z Z (Qw (JU h1s hp hq) Z Z (.inr Z) (Qa Z (kc1 hK Z ?_)))))
    refine Qp (Qj (Qk Z ?_))
    (repeat clear hK K); simp_all [Po]
   ·rw [h3]
    simp only [qB] at h3
    refine Qq (ks2 Z Z (Qd fun K hK => Qg Z Z (Qy Z Z Z (QD (cs := [_, _, _, _, _]) Z Z Z Z (Qw (JU h2s hp hq) Z Z (.inr Z) (Qa Z (kc1 hK Z ?_)))))))
    refine Qp (Qk Z ?_)
    (repeat clear hK K); simp_all [Po]
open Go Go.Abs M3 M25
theorem _root_.Wt {p : Prop} (h : p := by first | exact .inl (by omega) | exact .inr ⟨by omega, by assumption, by assumption⟩) : p := h
theorem JX {l : List Cu} {c : Cu} (hl : l.length <= 3000000) (hs : ∀ x ∈ l, Cu.sm x) (hc : Cu.sm c) : Ok Tryz.prog 140 [Sa l, .agg (dCu c)] (Sa (HY l c)) := by
 refine Ok.ofT ZN Tryz.func140 Qhb (QiY Z) ?_
 show TW _ _ tf140.body _ _
 refine Qd fun K hK => Zp Z Z Z (Qa Z (kc2 hK Z Z ?_))
 refine Qd fun K hK => Qa Z (kc3 hK Z Z Z ?_)
 refine QB ?_ -- 0
 refine QA ?_
 refine Zg (ι := Nat) (fun k => ⟨[(0, Sa l), (3, .ref 3 0 0), (5, .int .i64 k)], [(3, ⟨[dCu c], 7, 113, true⟩)]⟩) (fun k => k <= l.length /\ HY l c = l.take k ++ HY (l.drop k) c) (fun k => l.length - k) 0 ?_ ?_ ?_
 ·exact QZ (l := [0, 3, 5]) (lH := [3]) (kp3 rfl rfl rfl) (Qb rfl Ql) rfl rfl rfl
 ·exact ⟨Qja _, by simp⟩
 intro k hI
 refine QB ?_ -- 1
 refine Qd fun K hK => mv2 Z Z (Zb Z Z (ZS Z Z (Qa Z ?_)))
 refine Qu (g := 10) Z (fun h1 => ?_) (fun h1 => ?_)
 ·rw [h1]
  simp only [qA] at h1
  refine Qe Z (Qa Z (Qe Z (Qa Z (Qe Z (QG Z Z Z Wa (QV Wa) Z (Qe Z (QM (ds0 := [2, 1, 0]) (cs := [_, _, _, _, _, _, _]) Z Z Z Z Z Z (Qe Z (QM (ds0 := [2, 1, 0]) (cs := [_, _, _, _, _, _, _]) Z Z Z Z Z Z (Qe Z (Q0 (ds0 := [1, 0]) (ZC (hs _ (Qi3 Wa)).1 (hs _ (Qi3 Wa)).2 hc.1 hc.2) Z Z (.inr Z) Z Z ?_)))))))))))
  refine Qe Z (ZS Z Z (Qh Z Z (kc4 hK Z Z Z Z ?_)))
  refine Qt Z (fun h2 => ?_) (fun h2 => ?_)
  ·rw [h2]
   simp only [qA] at h2
   refine Qq (ks3 Z Z Z (QA (QL fun K hK => Qa Z (QW Z Z Wb (Qa Z (hK _ ?_))))))
   refine Qf ?_
   refine Qi (k + 1) ?_ ?_ ?_
   ·exact QZ (l := [0, 3, 5]) (lH := [3]) (kp3 rfl rfl rfl) (Qb rfl Ql) rfl rfl rfl
   ·exact ⟨Wa, QaA Wa h2 hI.2⟩
   ·omega
  ·rw [h2]
   simp only [qA] at h2
   refine Q2 (QE (Qs (QC (ks3 Z Z Z ?_))))
   refine QB ?_ -- 2
   refine Qd fun K hK => mv2 Z Z (Zb Z Z (ZS Z Z (Qa Z ?_)))
   refine Qu (g := 25) Z (fun h3 => ?_) (fun h3 => ?_)
   ·rw [h3]
    simp only [qA] at h3
    refine Qe Z (Qa Z (Qe Z (Qa Z (Qe Z (QG Z Z Z Wa (QV Wa) Z (Qe Z (QM (ds0 := [2, 1, 0]) (cs := [_, _, _, _, _, _, _]) Z Z Z Z Z Z (Qe Z (QM (ds0 := [2, 1, 0]) (cs := [_, _, _, _, _, _, _]) Z Z Z Z Z Z (Qe Z (Q0 (ds0 := [1, 0]) (ZC (hs _ (Qi3 Wa)).1 (hs _ (Qi3 Wa)).2 hc.1 hc.2) Z Z (.inr Z) Z Z ?_)))))))))))
    refine Qe Z (Yt Z Z (Qh Z Z (kc4 hK Z Z Z Z ?_)))
    refine Qt Z (fun h4 => ?_) (fun h4 => ?_)
    ·rw [h4]
     simp only [qA] at h4
     refine Qd fun K hK => mv2 Z Z (kc1 hK Z ?_)
     refine Qp (Qj (ZQ Z ?_))
     rw [Qaz (k := k) Wa Wh hI.2]; rfl
    ·rw [h4]
     simp only [qA] at h4
     refine Qq (ks3 Z Z Z (Qd fun K hK => mv2 Z Z (RZ Z Z Z Z Wa Wa Wf La Z (Lw (ds0 := [5, 1, 0]) Z Z (fun _ h => ⟨QcE, h⟩) Z (.inl Z) Wd Wf Wf Z Z (QM (ds0 := [6, 5, 1, 0]) (cs := [_, _, _, _, _, _, _]) Z Z Z Z Z Z (QK Z Z (XF (ds0 := [1, 0]) Z Z Wn ⟨_, rfl, rfl, rfl, rfl, rfl⟩ Z Z Wd Z Z Wf Wf Z Z (mv2 Z Z ?_))))))))
     refine RZ Z Z Z Z Wa Wf Wd La Z (XF (ds0 := [0]) Z Z Wn ⟨rfl, QcE, rfl⟩ Z Z Wd Z Z Wf Wf Z Z (Qa Z (kc1 hK Z ?_)))
     refine Qp (ZQ Z ?_)
     rw [Cb (k := k) Wt hI.2]; simp [XO, D.fz, D.fzS, GG, lk, D.can, D.canS, Sa, D.sid, (show ∀ a b : Nat, a + 1 + b = a + (b + 1) from fun a b => Wa), Qje (show (l.map dCu).length <= l.length by simp)] <;> rfl
   ·rw [h3]
    simp only [qA] at h3
    exact absurd h1 h3
 ·rw [h1]
  simp only [qA] at h1
  refine gn4 Z Z Z Z (gn3 Z Z Z (Qh Z Z (kc4 hK Z Z Z Z ?_)))
  refine Zk Z (Q2 (QE (Qs (QC (ks3 Z Z Z ?_)))))
  refine QB ?_ -- 2
  refine Qd fun K hK => mv2 Z Z (Zb Z Z (ZS Z Z (Qa Z ?_)))
  refine Qu (g := 25) Z (fun h5 => ?_) (fun h5 => ?_)
  ·rw [h5]
   simp only [qA] at h5
   exact absurd h5 h1
  ·rw [h5]
   simp only [qA] at h5
   refine gn4 Z Z Z Z (gn3 Z Z Z (Qh Z Z (kc4 hK Z Z Z Z ?_)))
   refine Zk Z (Qq (ks3 Z Z Z (Qd fun K hK => mv2 Z Z (RZ Z Z Z Z Wa Wa Wf La Z (Lw (ds0 := [5, 1, 0]) Z Z (fun _ h => ⟨QcE, h⟩) Z (.inl Z) Wd Wf Wf Z Z (QM (ds0 := [6, 5, 1, 0]) (cs := [_, _, _, _, _, _, _]) Z Z Z Z Z Z (QK Z Z (XF (ds0 := [1, 0]) Z Z Wn ⟨_, rfl, rfl, rfl, rfl, rfl⟩ Z Z Wd Z Z Wf Wf Z Z (Qa Z ?_)))))))))
   refine Qa Z (RZ Z Z Z Z Wa Wf Wd La Z (XF (ds0 := [0]) Z Z Wn ⟨rfl, QcE, rfl⟩ Z Z Wd Z Z Wf Wf Z Z (Qa Z (kc1 hK Z ?_))))
   refine Qp (ZQ Z ?_)
   rw [Cb (k := k) Wt hI.2]; simp [XO, D.fz, D.fzS, GG, lk, D.can, D.canS, Sa, D.sid, (show ∀ a b : Nat, a + 1 + b = a + (b + 1) from fun a b => Wa), Qje (show (l.map dCu).length <= l.length by simp)] <;> rfl
theorem Jz {l : List (Cu × Cu)} (hl : Sm l) : Ok Tryz.prog 126 [Zl l] (Sa (Y4 l)) := by
 refine Ok.ofT ZN Tryz.func126 QgZ (QiY Z) ?_
 show TW _ _ tf126.body _ _
 have hn := hl.1
 refine Qd fun K hK => Qa Z (kc1 hK Z ?_)
 refine Qd fun K hK => Qw (Xc) Z Z (.inl Z) (Qw (Xo) Z Z (.inl Z) (QK Z Z (Qa Z (kc2 hK Z Z ?_))))
 refine QB ?_ -- 0
 refine Qd fun K hK => Qa Z (kc3 hK Z Z Z ?_)
 refine QA ?_
 refine Zg (ι := Nat) (fun i => ⟨[(0, Zl l), (3, Sa (Y4 (l.take i))), (4, .int .i64 i)], []⟩) (fun i => i <= l.length) (fun i => l.length - i) 0 ?_ ?_ ?_
 ·exact le_trans (KB 7 _ Wg) (QZ (l := [0, 3, 4]) (lH := []) (kp3 rfl rfl rfl) Ql rfl rfl rfl)
 ·exact Qja _
 intro i hI
 refine QB ?_ -- 1
 refine Qd fun K hK => mv2 Z Z (Zb Z Z (ZS Z Z (kc4 hK Z Z Z Z ?_)))
 refine Qt Z (fun h1 => ?_) (fun h1 => ?_)
 ·rw [h1]
  simp only [qA] at h1
  refine Qq (ks3 Z Z Z ?_)
  refine QB ?_ -- 2
  refine QA (QL fun K hK => mv2 Z Z (Qa Z (QG Z Z Z Wa (QV Wa) Z (Ze Z Z (QM (ds0 := [7, 1, 0]) (cs := [_, _, _, _, _, _, _]) Z Z Z Z Z Z (Q0 (ds0 := [1, 0]) (JX (Qjh (Mk hl i).1 Wa) (Mk hl i).2 (hl.2 _ (Qi3 Wa)).1) Z Z (.inl Z) Z Z (mv2 Z Z (QG Z Z Z Wa (QV Wa) Z ?_))))))))
  refine Ze Z Z (QM (ds0 := [1, 0]) (cs := [_, _, _, _, _, _, _]) Z Z Z Z Z Z (Q0 (ds0 := [0]) (JX (Qjh (Mn _ _) (by have := (Mk hl i).1; omega)) (Sz (Mk hl i).2 (hl.2 _ (Qi3 Wa)).1) (hl.2 _ (Qi3 Wa)).2) Z Z (.inl Z) Z Z (Qa Z (hK _ ?_))))
  refine Qf (ks3 Z Z Z (QL fun K hK => Qa Z (QW Z Z Wb (Qa Z (hK _ ?_)))))
  refine Qi (i + 1) ?_ ?_ ?_
  ·exact QZ (l := [0, 3, 4]) (lH := []) (kp3 rfl rfl rfl) Ql (by rw [Qca Wa]; rfl) rfl rfl
  ·omega
  ·omega
 ·rw [h1]
  simp only [qA] at h1
  refine Q2 (QE (Qs (QC (ks1 Z (Qd fun K hK => mv2 Z Z (kc1 hK Z ?_))))))
  refine Qp (ZQ Z ?_)
  rw [Qje (Wa : l.length <= i)]; rfl
open Go Go.Abs M3 M25
theorem JB {l : List (Cu × Cu)} {x y : Cu} (hn : l.length <= 3000000) (hl : ∀ s ∈ l, Cu.sm s.1 /\ Cu.sm s.2) (hx : Cu.sm x) (hy : Cu.sm y) : OkH Tryz.prog 128 [.osl 500000 l.length, .agg (dCu x), .agg (dCu y)] [(500000, ⟨l.map N6, 14, 116, true⟩)] (.osl 500000 (HW l x y).length) [(500000, ⟨(HW l x y).map N6, 14, 116, true⟩)] := by
 refine OkH.mv ZN Tryz.func128 Qg1 (QiY Z) Z ?_
 show TW _ _ tf128.body _ _
 refine Qd fun K hK => Zp Z Z Z (Zp Z Z Z (Qa Z (kc3 hK Z Z Z ?_)))
 refine QB ?_ -- 0
 refine Qd fun K hK => Qa Z (Zb Z Z (Hl Z Z Wb (Qa Z (kc4 hK Z Z Z Z ?_))))
 refine Qd fun K hK => Qa Z (NM Z Z (Qa Z ?_))
 refine Qu (g := 13) Z (fun h1 => ?_) (fun h1 => ?_)
 ·rw [h1]
  simp only [qA] at h1
  refine Qe Z (Qa Z (Qe Z (Qa Z (Qe Z (Fo (ds0 := [5, 4, 2, 1, 0]) Z Z Z Wd Wa Wa Z Z Z (Qe Z (Qg Z Z (Qe Z (QM (ds0 := [2, 1, 0]) (cs := [_, _, _, _, _, _, _]) Z (Ye Z (Zq Wa Wa)) Z Z Z Z (Qe Z (QM (ds0 := [2, 1, 0]) (cs := [_, _, _, _, _, _, _]) Z Z Z Z Z Z ?_)))))))))))
  refine Qe Z (Q0 (ds0 := [1, 0]) (ZC (hl _ (Qi3 Wa)).2.1 (hl _ (Qi3 Wa)).2.2 hx.1 hx.2) Z Z (.inr Z) Z Z (Qe Z (Yt Z Z (Qh Z Z (kc5 hK Z Z Z Z Z ?_)))))
  refine Qt Z (fun h2 => ?_) (fun h2 => ?_)
  ·rw [h2]
   simp only [qA] at h2
   refine Qd fun K hK => mv2 Z Z (QD (cs := [_, _, _, _, _, _, _]) Z Z Z Z (Jj Z Z Z Wd Wa Wa Z (Qg Z Z (Q4 Z Z (Zq Wa Wa) Z Z Z Z Z (kc1 hK Z ?_)))))
   refine Qd fun K hK => mv2 Z Z (kc1 hK Z ?_)
   refine Qp (Qj ?_)
   refine JJ Z ?_ (Dk ?_)
   ·rw [TQ (i := ((l.length : Int) - 1).toNat) Wa h2]; simp [Qbr, D.fz, D.fzS, Rd, D.can, D.canS]
   ·rw [TQ (i := ((l.length : Int) - 1).toNat) Wa h2]; simp [lk, List.map_set, N6, dCu, setRow, D.sid]
  ·rw [h2]
   simp only [qA] at h2
   refine Qq (ks3 Z Z Z (Qd fun K hK => Qa Z (QD (cs := [_, _, _, _, _, _, _]) Z Z Z Z (QD (cs := [_, _, _, _, _, _, _]) Z Z Z Z (Q1 Z Z (QK Z Z (Xw Z Z (fun _ h => Xj Z Z Z h) Z Wd Z Z Z Wf Wf (Qa Z (kc1 hK Z ?_)))))))))
   refine Qp ?_
   refine JJ Z ?_ (Dk ?_)
   ·rw [FX (.inr ⟨((l.length : Int) - 1).toNat, Wa, h2⟩)]; simp [Qbr, D.fz, D.fzS, Rd, D.can, D.canS]
   ·rw [FX (.inr ⟨((l.length : Int) - 1).toNat, Wa, h2⟩)]; simp [lk, N6, dCu, D.sid]
 ·rw [h1]
  simp only [qA] at h1
  refine gn4 Z Z Z Z (gn4 Z Z Z Z (Qh Z Z (kc5 hK Z Z Z Z Z ?_)))
  refine Zk Z (Qq (ks3 Z Z Z (Qd fun K hK => Qa Z (QD (cs := [_, _, _, _, _, _, _]) Z Z Z Z (QD (cs := [_, _, _, _, _, _, _]) Z Z Z Z (Q1 Z Z (QK Z Z (Xw Z Z (fun _ h => Xj Z Z Z h) Z Wd Z Z Z Wf Wf (Qa Z (kc1 hK Z ?_))))))))))
  refine Qp ?_
  have h0 : l = [] := List.eq_nil_of_length_eq_zero Wa
  refine JJ Z ?_ (Dk ?_)
  ·rw [FX (.inl h0)]; simp [Qbr, D.fz, D.fzS, Rd, D.can, D.canS]
  ·rw [FX (.inl h0)]; simp [lk, N6, dCu, D.sid]
open Go Go.Abs M3 M25
theorem G6 {l : List (Cu × Cu)} (hl : Sm l) : Ok Tryz.prog 125 [Zl l] (.tup [Zl (L4 l), .bool (l.all GY)]) := by
  refine Ok.ofT ZN Tryz.func125 QgY (QiY Z) ?_
  show TW _ _ tf125.body _ _
  have hn := hl.1
  have hc1 := HT l
  refine Qd fun K hK => mv2 Z Z (kc1 hK Z ?_)
  refine QB ?_ -- 0
  refine Qd fun K hK => Qa Z (kc2 hK Z Z ?_)
  refine QA ?_
  refine Zg (ι := Nat) (fun i => ⟨[(0, Zl l), (4, .int .i64 i)], []⟩) (fun i => i <= l.length /\ (l.take i).all GY = true) (fun i => l.length - i) 0 ?_ ?_ ?_
  · exact QS (kp2 rfl rfl)
  · exact ⟨Qja _, by simp⟩
  intro i hI
  refine QB ?_ -- 1
  refine Qd fun K hK => mv2 Z Z (Zb Z Z (ZS Z Z (kc3 hK Z Z Z ?_)))
  refine Qt Z (fun h1 => ?_) (fun h1 => ?_)
  · rw [h1]
    simp only [qA] at h1
    refine Qq (ks2 Z Z ?_)
    refine QB ?_ -- 2
    refine QA (Qd fun K hK => mv2 Z Z (QG Z Z Z Wa (QV Wa) Z (QD (cs := [_, _, _, _, _, _, _, _, _, _, _, _, _, _]) Z Z Z Z (Qw (YI (hl.at (i := i) Wa).1.1 (hl.at (i := i) Wa).1.2 (hl.at (i := i) Wa).2.1 (hl.at (i := i) Wa).2.2) Z Z (.inr Z) (ZH Z (kc3 hK Z Z Z ?_))))))
    refine Qt Z (fun h2 => ?_) (fun h2 => ?_)
    · rw [h2]
      simp only [qA] at h2
      refine Qd fun K hK => mv2 Z Z (kc2 hK Z Z ?_)
      refine Qp (Qr (Qj (QR (Qr (Qj ?_)))))
      first
        | exact Zx rfl rfl ⟨by rw [L4, if_neg (by rw [X7 (i := i) Wa Wh]; simp)]; rfl, by rw [X7 (i := i) Wa Wh]; rfl⟩
        | (have ha : l.all GY = true := Kh Wa hI.2
           exact Zx rfl rfl ⟨by rw [L4, if_pos ha, hI2.done Wa]; simp [XO, D.fz, D.fzS, GG, lk, D.can, D.canS, Zl], by rw [ha]; rfl⟩)
    · rw [h2]
      simp only [qA] at h2
      refine Qq (Qf (ks2 Z Z (QL fun K hK => Qa Z (QW Z Z Wb (Qa Z (hK _ ?_))))))
      refine Qi (i + 1) ?_ ?_ ?_
      · exact QS (kp2 rfl rfl)
      · exact ⟨Wa, Zr Wa hI.2 Wh⟩
      · omega
  · rw [h1]
    simp only [qA] at h1
    refine Q2 (QE (Qs (QC (ks1 Z (Qd fun K hK => Qa Z (kc2 hK Z Z ?_))))))
    refine Qd fun K hK => Qa Z (Qw (Jz hl) Z Z (.inl Z) (Qa Z (kc3 hK Z Z Z ?_)))
    refine QB ?_ -- 3
    refine Qd fun K hK => Qa Z (kc4 hK Z Z Z Z ?_)
    refine QA ?_
    refine Zg (ι := Nat × List (Cu × Cu)) (fun ⟨i, out⟩ => ⟨[(0, Zl l), (5, .osl 5 out.length), (6, Sa (Y4 l)), (7, .int .i64 i)], [(5, ⟨out.map N6, 14, 116, true⟩)]⟩) (fun ⟨i, out⟩ => i <= (Y4 l).length /\ FillI (mIn l) (Y4 l) i out) (fun ⟨i, out⟩ => (Y4 l).length - i) (0, []) ?_ ?_ ?_
    · exact le_trans (ZT 5 5 14 116 rfl rfl) (QZ (l := [0, 5, 6, 7]) (lH := [5]) (kp4 rfl rfl rfl rfl) (Qb rfl Ql) rfl rfl rfl)
    · exact ⟨Qja _, FillI.zero⟩
    intro ⟨i, out⟩ hI
    obtain ⟨hI1, hI2⟩ := hI
    have hI3 := hI2.1
    dsimp only
    refine QB ?_ -- 4
    refine Qd fun K hK => Qa Z (QW Z Z Wb (Qa Z (Zb Z Z (ZS Z Z (kc5 hK Z Z Z Z Z ?_)))))
    refine Qt Z (fun h3 => ?_) (fun h3 => ?_)
    · rw [h3]
      simp only [qA] at h3
      refine Qq (ks4 Z Z Z Z ?_)
      refine QB ?_ -- 5
      refine QA (Qd fun K hK => mv2 Z Z (Qa Z (QG Z Z Z Wa (QV Wa) Z (QM (ds0 := [0]) (cs := [_, _, _, _, _, _, _]) Z Z Z Z Z Z (mv2 Z Z (QW Z Z Wb (QG Z Z Z Wa (D1 Wa) Z (QM (ds0 := [0]) (cs := [_, _, _, _, _, _, _]) Z Z Z Z Z Z ?_))))))))
      refine Q0 (ds0 := []) (Kz hl (YF hl _ (Qi3 Wa)) (YF hl _ (Qi3 Wa))) Z Z (.inr Z) Z Z (kc5 hK Z Z Z Z Z ?_)
      refine Qt Z (fun h4 => ?_) (fun h4 => ?_)
      · rw [h4]
        refine QL fun K hK => Qa rfl (Qa rfl (Qa rfl (QG rfl rfl rfl Wa (QV Wa) rfl (QM (ds0 := [1, 0]) (cs := [_, _, _, _, _, _, _]) rfl rfl rfl rfl rfl rfl (Qa rfl (Qa rfl (QW rfl rfl Wb (QG rfl rfl rfl Wa (D1 Wa) rfl (QM (ds0 := [1, 0]) (cs := [_, _, _, _, _, _, _]) rfl rfl rfl rfl rfl rfl (Dy (ds0 := [0]) (Qc0 (k := 5) rfl rfl rfl Wg rfl Wg (by simp [D.ids, D.sid, dCu]) ⟨.osl 5 out.length, by simp, by simp [D.ids, D.sid]⟩ rfl rfl (JB Wa hI2.2.1 (YF hl _ (Qi3 Wa)) (YF hl _ (Qi3 Wa)))) (fun _ h => by cases h) rfl rfl ?_))))))))))
        refine Qa Z (hK _ ?_)
        refine Qf (ks4 Z Z Z Z (QL fun K hK => Qa Z (QW Z Z Wb (Qa Z (hK _ ?_)))))
        refine Qi (i + 1, HW out (Y4 l)[i] (Y4 l)[i + 1]) ?_ ?_ ?_
        · exact le_trans (Qau (l := [0, 6, 7]) (t := 50) (u := 5) 5 (kp3 rfl rfl rfl) rfl rfl rfl rfl) (QZ (l := [0, 5, 6, 7]) (lH := [5]) (kp4 rfl rfl rfl rfl) (Qb rfl Ql) rfl rfl rfl)
        · exact ⟨Wa, hI2.take (YF hl) Wa Wh⟩
        · show (Y4 l).length - (i + 1) < (Y4 l).length - i; omega
      · rw [h4]
        refine Qq (Qf (ks4 Z Z Z Z (QL fun K hK => Qa Z (QW Z Z Wb (Qa Z (hK _ ?_))))))
        refine Qi (i + 1, out) ?_ ?_ ?_
        · exact QZ (l := [0, 5, 6, 7]) (lH := [5]) (kp4 rfl rfl rfl rfl) (Qb rfl Ql) rfl rfl rfl
        · exact ⟨Wa, hI2.skip Wa Wh⟩
        · show (Y4 l).length - (i + 1) < (Y4 l).length - i; omega
    · rw [h3]
      simp only [qA] at h3
      refine Q2 (QE (Qs (QC (ks1 Z (Qd fun K hK => mv2 Z Z (Qa Z (kc2 hK Z Z ?_)))))))
      refine Qp ?_
      first
        | exact Zx rfl rfl ⟨by rw [L4, if_neg (by rw [X7 (i := i) Wa Wh]; simp)]; rfl, by rw [X7 (i := i) Wa Wh]; rfl⟩
        | (have ha : l.all GY = true := Kh Wa hI.2
           exact Zx rfl rfl ⟨by rw [L4, if_pos ha, hI2.done Wa]; simp [XO, D.fz, D.fzS, GG, lk, D.can, D.canS, Zl], by rw [ha]; rfl⟩)
open Go Go.Abs M3 M25
theorem Ky {a b : List (Cu × Cu)} (ha : Sm a) (hb : Sm b) (hab : a.length + b.length <= 1000000) : Ok Tryz.prog 110 [Zl a, Zl b] (Zl (Qdb a b)) := by
 refine Ok.ofT ZN Tryz.func110 QgL (QiY Z) ?_
 show TW _ _ tf110.body _ _
 refine Qd fun K hK => Qa Z (kc2 hK Z Z ?_)
 refine QB ?_ -- 0
 refine Qd fun K hK => Qa Z (Qw (ZZ ha) Z Z (.inr Z) (ZH Z (Qa Z ?_)))
 refine Qu (g := 10) Z (fun h1 => ?_) (fun h1 => ?_)
 ·rw [h1]
  simp only [qB] at h1
  refine gn3 Z Z Z (Qh Z Z (kc3 hK Z Z Z ?_))
  refine Zn Z (Qd fun K hK => Qa Z (kc1 hK Z ?_))
  refine Qp (Qj (ZQ Z ?_))
  rw [Qdb, if_neg (by simp [h1])]; rfl
 ·rw [h1]
  simp only [qB] at h1
  refine Qe Z (Qa Z (Qe Z (Qw (ZZ hb) Z Z (.inr Z) (Qe Z (ZH Z (Qh Z Z (kc3 hK Z Z Z ?_)))))))
  refine Qt Z (fun h2 => ?_) (fun h2 => ?_)
  ·rw [h2]
   simp only [qB] at h2
   refine Qd fun K hK => Qa Z (kc1 hK Z ?_)
   refine Qp (Qj (ZQ Z ?_))
   rw [Qdb, if_neg (by simp [h1, h2])]; rfl
  ·rw [h2]
   simp only [qB] at h2
   refine Qq (ks2 Z Z (Qd fun K hK => Qa Z (Dx Z Z (fun _ h => CC Qdi h) Z (.inl Z) Wd Wf Wf (Qa Z (Xw Z Z (fun _ h => CC Qdi h) Z Wd Z Z Z Wf Wf ?_)))))
   apply QdB [17] Wd
   ·simp [St.freezeL, St.freeze, rem, D.fz, D.fzS, Box.fz, lk, D.scrub]; exact ⟨rfl, rfl⟩
   ·exact G6 (ha.app hb hab)
   ·rfl
   ·simp [XO, D.fz, D.fzS, GG, D.can, D.canS, Zl]
   ·exact .inl rfl
   refine Qa Z (QX Z Z (QX Z Z (mv2 Z Z (kc1 hK Z ?_))))
   refine Qd fun K hK => mv2 Z Z (kc1 hK Z ?_)
   refine Qp (ZQ Z ?_)
   rw [Qdb, if_pos ⟨h1, h2⟩]; rfl
theorem JV {a : List (Cu × Cu)} (ha : Sm a) : Ok Tryz.prog 111 [Zl a] (Zl (L5 a)) := by
 refine Ok.ofT ZN Tryz.func111 QgM (QiY Z) ?_
 show TW _ _ tf111.body _ _
 have hn := ha.1
 have hc1 := HT a
 refine Qd fun K hK => Qa Z (kc1 hK Z ?_)
 refine QB ?_ -- 0
 refine Qd fun K hK => Qa Z (Qw (ZZ ha) Z Z (.inr Z) (ZH Z (kc2 hK Z Z ?_)))
 refine Qt Z (fun h1 => ?_) (fun h1 => ?_)
 ·rw [h1]
  simp only [qA] at h1
  refine Qd fun K hK => Qa Z (kc1 hK Z ?_)
  refine Qp (Qj (ZQ Z ?_))
  rw [L5, if_neg (by simp [h1])]; rfl
 ·rw [h1]
  simp only [qA] at h1
  refine Qq (ks1 Z (Qd fun K hK => Qa Z (kc2 hK Z Z ?_)))
  refine Qd fun K hK => Qa Z (Qw (Jz ha) Z Z (.inl Z) (Qa Z (kc3 hK Z Z Z ?_)))
  refine QB ?_ -- 1
  refine Qd fun K hK => Qa Z (kc4 hK Z Z Z Z ?_)
  refine QA ?_
  refine Zg (ι := Nat × List (Cu × Cu)) (fun ⟨i, out⟩ => ⟨[(0, Zl a), (3, .osl 3 out.length), (4, Sa (Y4 a)), (5, .int .i64 i)], [(3, ⟨out.map N6, 14, 116, true⟩)]⟩) (fun ⟨i, out⟩ => i <= (Y4 a).length /\ FillI (fun x y => !mIn a x y) (Y4 a) i out) (fun ⟨i, out⟩ => (Y4 a).length - i) (0, []) ?_ ?_ ?_
  ·exact le_trans (ZT 3 3 14 116 rfl rfl) (QZ (l := [0, 3, 4, 5]) (lH := [3]) (kp4 rfl rfl rfl rfl) (Qb rfl Ql) rfl rfl rfl)
  ·exact ⟨Qja _, FillI.zero⟩
  intro ⟨i, out⟩ hI
  obtain ⟨hI1, hI2⟩ := hI
  have hI3 := hI2.1
  dsimp only
  refine QB ?_ -- 2
  refine Qd fun K hK => Qa Z (QW Z Z Wb (Qa Z (Zb Z Z (ZS Z Z (kc5 hK Z Z Z Z Z ?_)))))
  refine Qt Z (fun h2 => ?_) (fun h2 => ?_)
  ·rw [h2]
   simp only [qA] at h2
   refine Qq (ks4 Z Z Z Z ?_)
   refine QB ?_ -- 3
   refine QA (Qd fun K hK => mv2 Z Z (Qa Z (QG Z Z Z Wa (QV Wa) Z (QM (ds0 := [1, 0]) (cs := [_, _, _, _, _, _, _]) Z Z Z Z Z Z (mv2 Z Z (QW Z Z Wb (QG Z Z Z Wa (D1 Wa) Z (QM (ds0 := [1, 0]) (cs := [_, _, _, _, _, _, _]) Z Z Z Z Z Z ?_))))))))
   refine Q0 (ds0 := [0]) (Kz ha (YF ha _ (Qi3 Wa)) (YF ha _ (Qi3 Wa))) Z Z (.inr Z) Z Z (ZH Z (kc5 hK Z Z Z Z Z ?_))
   refine Qt Z (fun h3 => ?_) (fun h3 => ?_)
   ·rw [h3]
    simp only [qA] at h3
    refine QL fun K hK => Qa rfl (Qa rfl (Qa rfl (QG rfl rfl rfl Wa (QV Wa) rfl (QM (ds0 := [1, 0]) (cs := [_, _, _, _, _, _, _]) rfl rfl rfl rfl rfl rfl (Qa rfl (Qa rfl (QW rfl rfl Wb (QG rfl rfl rfl Wa (D1 Wa) rfl (QM (ds0 := [1, 0]) (cs := [_, _, _, _, _, _, _]) rfl rfl rfl rfl rfl rfl (Dy (ds0 := [0]) (Qc0 (k := 3) rfl rfl rfl Wg rfl Wg (by simp [D.ids, D.sid, dCu]) ⟨.osl 3 out.length, by simp, by simp [D.ids, D.sid]⟩ rfl rfl (JB Wa hI2.2.1 (YF ha _ (Qi3 Wa)) (YF ha _ (Qi3 Wa)))) (fun _ h => by cases h) rfl rfl ?_))))))))))
    refine Qa Z (hK _ ?_)
    refine Qf (ks4 Z Z Z Z (QL fun K hK => Qa Z (QW Z Z Wb (Qa Z (hK _ ?_)))))
    refine Qi (i + 1, HW out (Y4 a)[i] (Y4 a)[i + 1]) ?_ ?_ ?_
    ·exact le_trans (Qau (l := [0, 4, 5]) (t := 40) (u := 3) 3 (kp3 rfl rfl rfl) rfl rfl rfl rfl) (QZ (l := [0, 3, 4, 5]) (lH := [3]) (kp4 rfl rfl rfl rfl) (Qb rfl Ql) rfl rfl rfl)
    ·exact ⟨Wa, hI2.take (YF ha) Wa (by simp; assumption)⟩
    ·show (Y4 a).length - (i + 1) < (Y4 a).length - i; omega
   ·rw [h3]
    simp only [qA] at h3
    refine Qq (Qf (ks4 Z Z Z Z (QL fun K hK => Qa Z (QW Z Z Wb (Qa Z (hK _ ?_))))))
    refine Qi (i + 1, out) ?_ ?_ ?_
    ·exact QZ (l := [0, 3, 4, 5]) (lH := [3]) (kp4 rfl rfl rfl rfl) (Qb rfl Ql) rfl rfl rfl
    ·exact ⟨Wa, hI2.skip Wa (by simp; assumption)⟩
    ·show (Y4 a).length - (i + 1) < (Y4 a).length - i; omega
  ·rw [h2]
   simp only [qA] at h2
   refine Q2 (QE (Qs (QC (ks1 Z (Qd fun K hK => mv2 Z Z (kc1 hK Z ?_))))))
   refine Qp (ZQ Z ?_)
   rw [L5, if_pos h1, hI2.done Wa]; simp [XO, D.fz, D.fzS, GG, lk, D.can, D.canS, Zl]
open Go Go.Abs M3 M25
theorem Nk {a b : NN} (h1a : Sm a.1) (h2a : Sm a.2) (h1b : Sm b.1) (h2b : Sm b.2) (hl1 : a.1.length + b.1.length <= 1000000) (hl2 : a.2.length + b.2.length <= 1000000) : Ok Tryz.prog 93 [MY a, MY b] (MY (Qdc a b)) := by
 refine Ok.ofT ZN Tryz.func93 QiO (QiY Z) ?_
 show TW _ _ tf93.body _ _
 refine Qd fun K hK => Zp Z Z Z (Zp Z Z Z (Zw Z (kc3 hK Z Z Z ?_)))
 refine QB ?_ -- 0
 refine Qd fun K hK => QD (cs := [_, _]) Z Z Z Z (Qw (YL h1a h2a) Z Z (.inr Z) (ZH Z (Qa Z ?_)))
 refine Qu (g := 8) Z (fun h1 => ?_) (fun h1 => ?_)
 ·rw [h1]
  simp only [qB] at h1
  refine gn3 Z Z Z (Qh Z Z (kc4 hK Z Z Z Z ?_))
  refine Zn Z (Qd fun K hK => Qw (Z9) Z Z (.inl Z) (Q4 Z Z Z Z Z Z Z Z (kc1 hK Z ?_)))
  refine Qp (Qj (Post.eq (ZG (ds := [.sl _, .sl _]) (cs := [_, _]) Z Z Z Z Z) ?_))
  rw [Qdc, if_neg (by simp [h1])]; rfl
 ·rw [h1]
  simp only [qB] at h1
  refine Qe Z (QD (cs := [_, _]) Z Z Z Z (Qe Z (Qw (YL h1b h2b) Z Z (.inr Z) (Qe Z (ZH Z (Qh Z Z (kc4 hK Z Z Z Z ?_)))))))
  refine Qt Z (fun h2 => ?_) (fun h2 => ?_)
  ·rw [h2]
   simp only [qB] at h2
   refine Qd fun K hK => Qw (Z9) Z Z (.inl Z) (Q4 Z Z Z Z Z Z Z Z (kc1 hK Z ?_))
   refine Qp (Qj (Post.eq (ZG (ds := [.sl _, .sl _]) (cs := [_, _]) Z Z Z Z Z) ?_))
   rw [Qdc, if_neg (by simp [h1, h2])]; rfl
  ·rw [h2]
   simp only [qB] at h2
   refine Qq (ks3 Z Z Z (Qd fun K hK => Qg Z Z (QQ (ds0 := [7, 1, 0]) Z Z Z Z Z (Qg Z Z (QQ (ds0 := [7, 1, 0]) Z Z Z Z Z (Q0 (ds0 := [1, 0]) (Ky h1a h1b hl1) Z Z (.inl Z) Z Z (Qg Z Z (QQ (ds0 := [2, 1, 0]) Z Z Z Z Z (Qg Z Z (QQ (ds0 := [2, 1, 0]) Z Z Z Z Z ?_))))))))))
   refine Q0 (ds0 := [1, 0]) (Ky h2a h2b hl2) Z Z (.inl Z) Z Z (Q1 Z Z (Yv (ds0 := []) Z Z Z Z Z Z Z Z Z Z (kc1 hK Z ?_)))
   refine Qp (Post.eq (ZG (ds := [.sl _, .sl _]) (cs := [_, _]) Z Z Z Z Z) ?_)
   rw [Qdc, if_pos ⟨h1, h2⟩]; rfl
theorem FA {a : NN} (h1a : Sm a.1) (h2a : Sm a.2) : Ok Tryz.prog 94 [MY a] (MY (Sy a)) := by
 refine Ok.ofT ZN Tryz.func94 QiP (QiY Z) ?_
 show TW _ _ tf94.body _ _
 refine Qd fun K hK => Zp Z Z Z (Zw Z (kc2 hK Z Z ?_))
 refine QB ?_ -- 0
 refine Qd fun K hK => QD (cs := [_, _]) Z Z Z Z (Qw (YL h1a h2a) Z Z (.inr Z) (ZH Z (kc3 hK Z Z Z ?_)))
 refine Qt Z (fun h1 => ?_) (fun h1 => ?_)
 ·rw [h1]
  simp only [qB] at h1
  refine Qd fun K hK => Qw (Z9) Z Z (.inl Z) (Q4 Z Z Z Z Z Z Z Z (kc1 hK Z ?_))
  refine Qp (Qj (Post.eq (ZG (ds := [.sl _, .sl _]) (cs := [_, _]) Z Z Z Z Z) ?_))
  rw [Sy, if_neg (by simp [h1])]; rfl
 ·rw [h1]
  simp only [qB] at h1
  refine Qq (ks2 Z Z (Qd fun K hK => Qg Z Z (QQ (ds0 := [5, 1, 0]) Z Z Z Z Z (Q0 (ds0 := [1, 0]) (JV h1a) Z Z (.inl Z) Z Z (Qg Z Z (QQ (ds0 := [2, 1, 0]) Z Z Z Z Z (Q0 (ds0 := [1, 0]) (JV h2a) Z Z (.inl Z) Z Z (Q1 Z Z (Yv (ds0 := []) Z Z Z Z Z Z Z Z Z Z (kc1 hK Z ?_))))))))))
  refine Qp (Post.eq (ZG (ds := [.sl _, .sl _]) (cs := [_, _]) Z Z Z Z Z) ?_)
  rw [Sy, if_pos h1]; rfl
open Go Go.Abs M3 M25
theorem Yi {v n : Int} (hn : n <= 9223372036854775807) (hv : I64 v) : Ok Tryz.prog 13 [.int .i64 v, .int .i64 n] (.int .i64 (mPl v n)) := by
 refine Ok.ofT ZN Tryz.func13 QhF (QiY Z) ?_
 show TW _ _ tf13.body _ _
 refine Qd fun K hK => Qa Z (kc2 hK Z Z ?_)
 refine QB ?_ -- 0
 refine Qd fun K hK => Qa Z (ZS Z Z (kc3 hK Z Z Z ?_))
 refine Qt Z (fun h1 => ?_) (fun h1 => ?_)
 ·rw [h1]
  simp only [qB] at h1
  refine Qd fun K hK => Qa Z (kc1 hK Z ?_)
  refine Qp (Qj (Qx Z ?_))
  rw [mPl, if_pos h1]
 ·rw [h1]
  simp only [qB] at h1
  refine Qq (ks2 Z Z (Qd fun K hK => mv2 Z Z (Lz Z Z Wa (Qa Z (kc2 hK Z Z ?_)))))
  refine QB ?_ -- 1
  refine Qd fun K hK => Qa Z (ZS Z Z (kc3 hK Z Z Z ?_))
  refine Qt Z (fun h2 => ?_) (fun h2 => ?_)
  ·rw [h2]
   simp only [qB] at h2
   refine Qd fun K hK => mv2 Z Z (QW Z Z (Qn (by have := Int.lt_tmod_of_pos v (Wa : 0 < n); omega) (by have := Int.tmod_lt_of_pos v (Wa : 0 < n); omega)) (Qa Z (kc1 hK Z ?_)))
   refine Qp (Qj (Qx Z ?_))
   rw [mPl, if_neg h1, Pr, if_pos h2]
  ·rw [h2]
   simp only [qB] at h2
   refine Qq (ks1 Z (Qd fun K hK => mv2 Z Z (kc1 hK Z ?_)))
   refine Qp (Qx Z ?_)
   rw [mPl, if_neg h1, Pr, if_neg h2]
theorem XG {l : List Int} {i : Int} : Ok Tryz.prog 36 [QN l, .int .i64 i] (.int .i64 (J8 l i)) := by
 refine Ok.ofT ZN Tryz.func36 QhY (QiY Z) ?_
 show TW _ _ tf36.body _ _
 refine Qd fun K hK => Qa Z (kc2 hK Z Z ?_)
 refine QB ?_ -- 0
 refine Qd fun K hK => Qa Z (ZS Z Z (Qa Z ?_))
 refine Qu (g := 7) Z (fun h1 => ?_) (fun h1 => ?_)
 ·rw [h1]
  simp only [qA] at h1
  refine gn4 Z Z Z Z (Qh Z Z (kc3 hK Z Z Z ?_))
  refine Zn Z (Qd fun K hK => Qa Z (Lz Z Z Wa (Qa Z (kc1 hK Z ?_))))
  refine Qp (Qj (Qx Z ?_))
  rw [J8, if_pos Wa]
 ·rw [h1]
  simp only [qA] at h1
  refine Qe Z (Qa Z (Qe Z (Qa Z (Qe Z (Zb Z Z (Qe Z (NM Z Z (Qh Z Z (kc3 hK Z Z Z ?_)))))))))
  refine Qt Z (fun h2 => ?_) (fun h2 => ?_)
  ·rw [h2]
   simp only [qA] at h2
   refine Qd fun K hK => Qa Z (Lz Z Z Wa (Qa Z (kc1 hK Z ?_)))
   refine Qp (Qj (Qx Z ?_))
   rw [J8, if_pos Wa]
  ·rw [h2]
   simp only [qA] at h2
   refine Qq (ks2 Z Z (Qd fun K hK => mv2 Z Z (QG Z Z Z Wa (Zq Wa Wa) Z (Qy Z Z Z (Qa Z (kc1 hK Z ?_))))))
   refine Qp (Qx Z ?_)
   exact (Qax Wa Wa).symm
theorem XW {k : Nat} {L : List Int} {I n : Int} (hk : 1000000 <= k) (hL : ∀ x ∈ L, I64 x) (hn : n <= 9223372036854775807) (et : Nat) : OkH Tryz.prog 33 [.ref k 0 0, .int .i64 n] [(k, gB L I et)] (.int .i64 (nx L I n)) ((k, gB L (nxI I) et) :: [(k, gB L I et)]) := by
 refine OkH.lent hk ZN Tryz.func33 QhV (QiY Z) Z ?_
 show TW _ _ tf33.body _ _
 refine Qd fun K hK => Qa Z (kc2 hK Z Z ?_)
 refine Qd fun K hK => Qa Z (Yf Z Z (Qg Z Mi (Qy Z (Ye Nu Z) Z (QW Z Z Z (Yf Z Z (Qg Z Mi (Q4 Z Nu Z Z Z Z Z Z (kc2 hK Z Z ?_))))))))
 refine Qd fun K hK => Qa Z (Yf Z Z (Qg Z Mi (QQ (ds0 := [3, 1, 0]) Z (Ye Nu Z) Z Z Z (Qa Z (Yf Z Z (Qg Z Mi (QQ (ds0 := [4, 3, 1, 0]) Z (Ye Nu Z) Z Z Z (Hl Z Z Z (Q0 (ds0 := [1, 0]) (XG) Z Z (.inr Z) Z Z (Qa Z ?_))))))))))
 refine Q0 (ds0 := [0]) (Yi hn (Sw hL (PP _))) Z Z (.inr Z) Z Z (Qa Z (kc1 hK Z ?_))
 refine Qp ?_
 exact JJ rfl rfl (QeD Nu)
open Go Go.Abs M3 M25
theorem Jv {v : Int} (h0 : 0 <= v) (h1v : v <= 61) : Ok Tryz.prog 58 [.int .i64 v] (.int .i64 (2 ^ v.toNat)) := by
 refine Ok.ofT ZN Tryz.func58 Qih (QiY Z) ?_
 show TW _ _ tf58.body _ _
 refine Qd fun K hK => Qa Z (kc1 hK Z ?_)
 refine Qd fun K hK => Qa Z (kc2 hK Z Z ?_)
 refine QB ?_ -- 0
 refine Qd fun K hK => Qa Z (kc3 hK Z Z Z ?_)
 refine QA ?_
 refine Zg (ι := Nat) (fun i => ⟨[(0, .int .i64 v), (3, .int .i64 (2 ^ i)), (4, .int .i64 i)], []⟩) (fun i => (i : Int) <= v) (fun i => v.toNat - i) 0 ?_ ?_ ?_
 ·exact QS (kp3 rfl rfl rfl)
 ·exact h0
 intro i hI
 have hp := SM (i := i + 1) Wa
 rw [Int.pow_succ] at hp
 refine QB ?_ -- 1
 refine Qd fun K hK => mv2 Z Z (ZS Z Z (kc4 hK Z Z Z Z ?_))
 refine Qt Z (fun h1 => ?_) (fun h1 => ?_)
 ·rw [h1]
  simp only [qB] at h1
  refine Qq (ks3 Z Z Z ?_)
  refine QB ?_ -- 2
  refine QA (QL fun K hK => Qa rfl (CO rfl rfl (Qn (by obtain ⟨p1, p2⟩ := hp; generalize (2 : Int) ^ i = z at *; omega) (by obtain ⟨p1, p2⟩ := hp; generalize (2 : Int) ^ i = z at *; omega)) (Qa rfl (hK _ ?_))))
  refine Qf (ks3 Z Z Z (QL fun K hK => Qa Z (QW Z Z (Qn Wa Wa) (Qa Z (hK _ ?_)))))
  refine Qi (i + 1) ?_ ?_ ?_
  ·exact QZ (l := [0, 3, 4]) (lH := []) (kp3 rfl rfl rfl) Ql (by rw [Int.pow_succ]; rfl) rfl rfl
  ·show ((i + 1 : Nat) : Int) <= v; omega
  ·omega
 ·rw [h1]
  simp only [qB] at h1
  refine Q2 (QE (Qs (QC (ks1 Z (Qd fun K hK => mv2 Z Z (kc1 hK Z ?_))))))
  refine Qp (Qx Z ?_)
  rw [show v.toNat = i by omega]
open Go Go.Abs M3 M25
theorem Xy  : Ok Tryz.prog 59 [] (.sl (versions.map dVr)) := by
 refine Ok.ofT ZN Tryz.func59 Qii (QiY Z) ?_
 show TW _ _ tf59.body _ _
 refine Qd fun K hK => Qa Z (hK _ _ (LB (Zm) ?_))
 refine Qd fun K hK => Q1 Z Z (Q1 Z Z (Q1 Z Z (Q1 Z Z (QK Z Z (Qa Z (kc1 hK Z ?_))))))
 refine Qp (ZQ Z ?_)
 rfl
end Go.Proofs
namespace M25
open Go Go.Abs M3
structure WantT where
 u : Int
 s : NN
structure CandT where
 v : Vr
 sh : Int
 ns : List (List WantT)
 bs : List WantT
structure R0 where
 n : List UInt8
 f : List UInt8
 cs : List CandT
abbrev Qz := List R0
def Kp (x : WantT) : List D := [.int .i64 x.u, Zl x.s.1, Zl x.s.2]
def Q8 (l : List WantT) : D := .sl (l.map Kp)
def Q9 (l : List (List WantT)) : D := .sl (l.map fun r => [Q8 r])
def Qfl (c : CandT) : List D := [.int .i64 c.v.a, .int .i64 c.v.b, .int .i64 c.v.c, .str c.v.p, .str c.v.q, .int .i64 c.sh, Q9 c.ns, Q8 c.bs]
def DI (l : List CandT) : D := .sl (l.map Qfl)
def YA (u : R0) : List D := [.str u.n, .str u.f, DI u.cs]
def Yn (w : Qz) : D := .agg [.sl (w.map YA)]
structure TermT where
 u : Int
 m : Int
 deriving DecidableEq
structure KL where
 u : Int
 m : Int
 l : Int
 c : Int
 deriving DecidableEq
structure RowT where
 k : Int
 u : Int
 a : Int
 b : Int
 t : List TermT
def XC (t : TermT) : List D := [.int .i64 t.u, .int .i64 t.m]
def Q6 (l : List TermT) : D := .sl (l.map XC)
abbrev KJ (a b : Int) : Int := HP .and .i64 a b
abbrev bor (a b : Int) : Int := HP .or .i64 a b
abbrev PZ (a b : Int) : Int := HP .andNot .i64 a b
def uAt (w : Qz) (u : Int) : Option R0 := if u < 0 then none else w[u.toNat]?
theorem PN {w : Qz} {u : Int} (h0 : 0 <= u) (h : u < w.length) : uAt w u = some (w[u.toNat]'Wa) := by
 rw [uAt, if_neg Wa, List.getElem?_eq_getElem Wa]
theorem S0 {w : Qz} {u : Int} (h : u < 0 \/ (w.length : Int) <= u) : uAt w u = none := by
 unfold uAt
 split
 ·rfl
 ·rw [List.getElem?_eq_none]; omega
def Xd (w : Qz) (u : Int) : Int := match uAt w u with
 | none => 0
 | some x => 2 ^ (min x.cs.length 16 + 1) - 1
theorem Ml {w : Qz} {u : Int} (h0 : 0 <= u) (h : u < w.length) : Xd w u = 2 ^ (min (w[u.toNat]'Wa).cs.length 16 + 1) - 1 := by
 rw [Xd, PN h0 h]
theorem FW {w : Qz} {u : Int} (h : u < 0 \/ (w.length : Int) <= u) : Xd w u = 0 := by rw [Xd, S0 h]
def PQ (v : Vr) : Prop := v.p.length <= 1000000 /\ v.q.length <= 1000000
structure WSm (w : Qz) : Prop where
 len : w.length <= 48
 cs : ∀ u ∈ w, u.cs.length <= 16
 vs : ∀ u ∈ w, ∀ c ∈ u.cs, PQ c.v
 ns : ∀ u ∈ w, ∀ c ∈ u.cs, c.ns.length <= 1000 /\ c.bs.length <= 1000
 nl : ∀ u ∈ w, ∀ c ∈ u.cs, ∀ r ∈ c.ns, r.length <= 1000
 nw : ∀ u ∈ w, ∀ c ∈ u.cs, ∀ r ∈ c.ns, ∀ x ∈ r, Sm x.s.1 /\ Sm x.s.2
 bw : ∀ u ∈ w, ∀ c ∈ u.cs, ∀ x ∈ c.bs, Sm x.s.1 /\ Sm x.s.2
def Qc4 (s : NN) (v : Vr) : Bool := Po s v.a v.b v.c v.p v.q
def Kt (s : NN) (l : List CandT) : Nat -> Int
 | 0 => 0
 | n + 1 => Kt s l n + match l[n]? with
  | some c => if Qc4 s c.v = true then 2 ^ (n + 1) else 0
  | none => 0
theorem Mt (s : NN) (l : List CandT) : ∀ n, 0 <= Kt s l n /\ Kt s l n <= 2 ^ (n + 1) - 2
 | 0 => by simp [Kt]
 | n + 1 => by
  obtain ⟨h1, h2⟩ := Mt s l n
  have h3 : (2 : Int) ^ (n + 1 + 1) = 2 ^ (n + 1) * 2 := Int.pow_succ ..
  have h4 : (0 : Int) < 2 ^ (n + 1) := Int.pow_pos Wa
  rw [Kt, h3]
  generalize (2 : Int) ^ (n + 1) = z at *
  split
  ·split <;> omega
  ·omega
theorem Pt {s : NN} {l : List CandT} {i : Nat} (h : i < l.length) (hp : Qc4 s l[i].v = true) : Kt s l (i + 1) = Kt s l i + 2 ^ (i + 1) := by
 rw [Kt, List.getElem?_eq_getElem h]; simp only [hp, if_true]
theorem SC {s : NN} {l : List CandT} {i : Nat} (h : i < l.length) (hp : Qc4 s l[i].v = false) : Kt s l (i + 1) = Kt s l i := by
 rw [Kt, List.getElem?_eq_getElem h]; simp only [hp, Qi6, if_false, Int.add_zero]
def PT (w : Qz) (x : WantT) : Int := match uAt w x.u with
 | none => 0
 | some un => Kt x.s un.cs (min un.cs.length 16)
theorem Pq {w : Qz} {x : WantT} (h0 : 0 <= x.u) (h : x.u < w.length) : PT w x = Kt x.s (w[x.u.toNat]'Wa).cs (min (w[x.u.toNat]'Wa).cs.length 16) := by
 rw [PT, PN h0 h]
theorem Mm {w : Qz} {x : WantT} (h : x.u < 0 \/ (w.length : Int) <= x.u) : PT w x = 0 := by rw [PT, S0 h]
theorem Qcw {n : Nat} (h : n <= 17) : 1 <= (2 : Int) ^ n /\ (2 : Int) ^ n <= 131072 := by
 have h1 : (2 : Nat) ^ n <= 2 ^ 17 := Nat.pow_le_pow_right Wa h
 have h2 : 1 <= (2 : Nat) ^ n := Nat.one_le_two_pow
 have h3 : ((2 ^ n : Nat) : Int) = (2 : Int) ^ n := by simp
 rw [<- h3]
 have h4 : (2 : Nat) ^ 17 = 131072 := by decide
 omega
theorem Qch (s : NN) (l : List CandT) {n : Nat} (h : n <= 16) : 0 <= Kt s l n /\ Kt s l n <= 131070 := by
 obtain ⟨h1, h2⟩ := Mt s l n
 have := Qcw (n := n + 1) Wa
 omega
def JG (w : Qz) (c : List Int) (u : Int) : Int := match uAt w u with
 | none => 0
 | some x => if (c.length : Int) <= u then 0 else if c.getD u.toNat 0 < -1 \/ ((min x.cs.length 16 : Nat) : Int) <= c.getD u.toNat 0 then 0 else 2 ^ (c.getD u.toNat 0 + 1).toNat
def YB (m : Int) : Nat -> List Int
 | 0 => []
 | n + 1 => YB m n ++ if KJ m (2 ^ n) = 0 then [] else [(n : Int) - 1]
def XI (m : Int) : List Int := YB m 17
def inW (w : Qz) (u : Int) : Bool := decide (0 <= u) && decide (u < w.length)
/-! ### Trails -/
def P9 (w : Qz) (l : List KL) (u : Int) : Int := l.foldl (fun a s => if s.u = u /\ inW w u = true then s.m else a) (Xd w u)
def QfA (l : List KL) : Int := match l.getLast? with
 | none => 0
 | some s => s.l
def Qcb (l : List KL) (u : Int) : Bool := l.any fun s => decide (s.u = u) && decide (s.c = -1)
def Qgv (w : Qz) (l : List KL) (inc : List TermT) : Bool := inc.all fun t => decide (TY (P9 w l t.u) t.m = 2)
def SH (have_ : Int -> Int) : List TermT -> Int -> Int
 | [], at_ => at_
 | t :: r, at_ => if TY (have_ t.u) t.m = 0 then -1 else if TY (have_ t.u) t.m = 1 then (if 0 <= at_ then -1 else SH have_ r t.u) else SH have_ r at_
def QfB (w : Qz) (l : List KL) (inc : List TermT) : Int := SH (P9 w l) inc (-1)
def Cx (w : Qz) (l : List KL) : Nat -> List (List TermT) -> Int × Int
 | _, [] => (-1, -1)
 | i, x :: r => if Qgv w l x = true then (i, -1) else if 0 <= QfB w l x then (i, QfB w l x) else Cx w l (i + 1) r
def Qgu (w : Qz) (db : List (List TermT)) (l : List KL) : Int × Int := Cx w l 0 db
end M25
namespace M25
open Go Go.Abs M3
section
variable {fr : QiW} {H : QiV} {t u : Nat}
theorem QbD {k n : Nat} {b : Box} {d : D} (hb : lk H k = some b) (hp : b.pr = true) (hn : n = b.rows.length) (hd : .sl b.rows = d) : XO ⟨fr, H⟩ (.osl k n) = d := by
 unfold XO; rw [Qgs (S := GG) rfl hb hp hn]; exact hd
theorem Kb {e : AExit} {k n : Nat} {b : Box} {d : D} (h : lk fr t = some (.osl k n)) (hb : lk H k = some b) (hp : b.pr = true) (hn : n = b.rows.length) (hd : .sl b.rows = d) (he : e = .ret \/ e = .normal := by first | exact .inl rfl | exact .inr rfl) : Post [.tmp t] d e ⟨fr, H⟩ :=
 ZQ h (QbD hb hp hn hd) he
end
theorem Qgw (n : Nat) : (min (n : Int) 16 + 1).toNat = min n 16 + 1 := Wa
theorem Lq {n : Nat} (h : n <= 62) : IntKind.i64.wrap ((2 : Int) ^ n - 1) = 2 ^ n - 1 := by
 have := SM h; exact Qn Wa Wa
theorem QfK (i : Nat) : (2 : Int) ^ ((i : Int) + 1).toNat = 2 ^ (i + 1) := by rw [Qds]
theorem QcQ (s : NN) (l : List CandT) {i : Nat} (h : i < 16) : IntKind.i64.wrap (Kt s l i + (2 : Int) ^ ((i : Int) + 1).toNat) = Kt s l i + 2 ^ (i + 1) := by
 rw [QfK]
 have h1 := Qch s l (n := i) Wa
 have h2 := Qcw (n := i + 1) Wa
 exact Qn Wa Wa
theorem Nx {w : Qz} {c : List Int} {u : Int} (h : (u < 0 \/ (w.length : Int) <= u) \/ (c.length : Int) <= u) : JG w c u = 0 := by
 unfold JG
 split
 ·rfl
 ·rename_i x hx
  rcases h with h | h
  ·rw [S0 h] at hx; cases hx
  ·rw [if_pos h]
theorem Nw {w : Qz} {c : List Int} {u : Int} (h0 : 0 <= u) (h1 : u < w.length) (h2 : u < c.length) (h : c[u.toNat]'Wa < -1 \/ min (((w[u.toNat]'Wa).cs.length : Nat) : Int) 16 <= c[u.toNat]'Wa) : JG w c u = 0 := by
 rw [JG, PN h0 h1]
 simp only []
 rw [if_neg Wa, List.getD_eq_getElem?_getD, List.getElem?_eq_getElem Wa]
 simp only [Option.getD_some]
 rw [if_pos]
 rcases h with h | h
 ·exact .inl h
 ·right; omega
theorem HZ {w : Qz} {c : List Int} {u : Int} (h0 : 0 <= u) (h1 : u < w.length) (h2 : u < c.length) (h : ¬ c[u.toNat]'Wa < -1) (h' : ¬ min (((w[u.toNat]'Wa).cs.length : Nat) : Int) 16 <= c[u.toNat]'Wa) : JG w c u = 2 ^ (c[u.toNat]'Wa + 1).toNat := by
 rw [JG, PN h0 h1]
 simp only []
 rw [if_neg Wa, List.getD_eq_getElem?_getD, List.getElem?_eq_getElem Wa]
 simp only [Option.getD_some]
 rw [if_neg]
 omega
theorem DP {m : Int} {n : Nat} (h : ¬ KJ m (2 ^ n) = 0) : YB m (n + 1) = YB m n ++ [(n : Int) - 1] := by rw [YB, if_neg h]
theorem BW {m : Int} {n : Nat} (h : KJ m (2 ^ n) = 0) : YB m (n + 1) = YB m n := by rw [YB, if_pos h, List.append_nil]
theorem Qfu {w : Qz} {u : Int} (h0 : 0 <= u) (h : u < w.length) : inW w u = true := by simp [inW, h0, h]
theorem Qd6 {w : Qz} {u : Int} (h : u < 0 \/ (w.length : Int) <= u) : inW w u = false := by
 simp only [inW, Qjb, decide_eq_false_iff_not]; omega
theorem Pa {w : Qz} {u : Int} : inW w u = true ↔ 0 <= u /\ u < w.length := by simp [inW]
theorem Lm {x y : TermT} : Kx [0, 0] (XC x) (XC y) = some (decide (x = y)) := by
 obtain ⟨a, b⟩ := x
 obtain ⟨c, d⟩ := y
 simp only [XC, Kx, if_true, Option.map_some, Bool.and_true, Qi1]
 rw [Bool.eq_iff_iff]
 simp only [Qi2, decide_eq_true_eq, TermT.mk.injEq]
theorem Ll {α : Type} {a b : List α} {i : Nat} (ha : i < a.length) (hb : i < b.length) (h : a.take i = b.take i) (he : a[i] = b[i]) : a.take (i + 1) = b.take (i + 1) := by
 rw [List.take_succ_eq_append_getElem ha, List.take_succ_eq_append_getElem hb, h, he]
theorem Qa8 {α : Type} [DecidableEq α] {a b : List α} {i : Nat} (ha : i < a.length) (hb : i < b.length) (he : ¬ a[i] = b[i]) : decide (a = b) = false := decide_eq_false fun e => he (by subst e; rfl)
theorem Ni {e : Int} (h1 : 0 <= e) (h2 : e <= 18446744073709551615) : IntKind.u64.wrap e = e := by
 unfold IntKind.wrap
 simp only [IntKind.bits, IntKind.signed, Bool.false_and, Qi6, if_false]
 omega
theorem Qbp {p : Nat} (h : p <= 60) : IntKind.i64.wrap ((2 : Int) * 2 ^ min ((p : Nat) : Int).toNat IntKind.i64.bits) = 2 * 2 ^ p := by
 rw [show min ((p : Nat) : Int).toNat IntKind.i64.bits = p from by simp only [IntKind.bits, Int.toNat_natCast]; omega]
 have := SM (i := p + 1) Wa
 rw [Int.pow_succ] at this
 exact Qn Wa Wa
end M25
namespace Go.Proofs
open Go Go.Abs M3 M25
theorem X9 {w : Qz} (hw : WSm w) {u : Int} : Ok Tryz.prog 35 [Yn w, .int .i64 u] (.int .i64 (Xd w u)) := by
 refine Ok.ofT ZN Tryz.func35 QhX (QiY Z) ?_
 show TW _ _ tf35.body _ _
 refine Qd fun K hK => Zp Z Z Z (Qa Z (kc2 hK Z Z ?_))
 refine QB ?_ -- 0
 refine Qd fun K hK => Qa Z (ZS Z Z (Qa Z ?_))
 refine Qu (g := 7) Z (fun h1 => ?_) (fun h1 => ?_)
 ·rw [h1]
  simp only [qA] at h1
  refine gn4 Z Z Z Z (YN Z (Qh Z Z (kc3 hK Z Z Z ?_)))
  refine Zn Z (Qd fun K hK => Qa Z (kc1 hK Z ?_))
  refine Qp (Qj (Qx Z ?_))
  rw [FW Wa]
 ·rw [h1]
  simp only [qA] at h1
  refine Qe Z (Qa Z (Qe Z (Qg Z Z (Qe Z (Qy Z Z Z (Qe Z (Zb Z Z (Qe Z (NM Z Z (Qh Z Z (kc3 hK Z Z Z ?_)))))))))))
  refine Qt Z (fun h2 => ?_) (fun h2 => ?_)
  ·rw [h2]
   simp only [qA] at h2
   refine Qd fun K hK => Qa Z (kc1 hK Z ?_)
   refine Qp (Qj (Qx Z ?_))
   rw [FW Wa]
  ·rw [h2]
   simp only [qA] at h2
   refine Qq (ks2 Z Z (Qd fun K hK => Qg Z Z (Qy Z Z Z (Qa Z (QG Z Z Z Wa (Zq Wa Wa) Z (Ze Z Z (Qy Z Z Z (Zb Z Z (Qgd Z Z (QW Z Z Wb ?_))))))))))
   refine Qw (Jv Wa Wa) Z Z (.inr Z) (Hl Z Z (Lq Wa) (Qa Z (kc1 hK Z ?_)))
   refine Qp (Qx Z ?_)
   rw [Ml Wa Wa, List.length_map, Qgw]
theorem G2 {w : Qz} (hw : WSm w) {x : WantT} (hx : Sm x.s.1 /\ Sm x.s.2) : Ok Tryz.prog 28 [Yn w, .agg (Kp x)] (.int .i64 (PT w x)) := by
 refine Ok.ofT ZN Tryz.func28 QhQ (QiY Z) ?_
 show TW _ _ tf28.body _ _
 refine Qd fun K hK => Zp Z Z Z (Zp Z Z Z (Qa Z (kc2 hK Z Z ?_)))
 refine QB ?_ -- 0
 refine Qd fun K hK => Qg Z Z (Qy Z Z Z (ZS Z Z (Qa Z ?_)))
 refine Qu (g := 11) Z (fun h1 => ?_) (fun h1 => ?_)
 ·rw [h1]
  simp only [qA] at h1
  refine gn4 Z Z Z Z (gn2 Z Z (Qh Z Z (kc3 hK Z Z Z ?_)))
  refine Zn Z (Qd fun K hK => Qa Z (kc1 hK Z ?_))
  refine Qp (Qj (Qx Z ?_))
  rw [Mm Wa]
 ·rw [h1]
  simp only [qA] at h1
  refine Qe Z (Qg Z Z (Qe Z (Qy Z Z Z (Qe Z (Qg Z Z (Qe Z (Qy Z Z Z (Qe Z (Zb Z Z (Qe Z (NM Z Z ?_)))))))))))
  refine Qh Z Z (kc3 hK Z Z Z ?_)
  refine Qt Z (fun h2 => ?_) (fun h2 => ?_)
  ·rw [h2]
   simp only [qA] at h2
   refine Qd fun K hK => Qa Z (kc1 hK Z ?_)
   refine Qp (Qj (Qx Z ?_))
   rw [Mm Wa]
  ·rw [h2]
   simp only [qA] at h2
   refine Qq (ks2 Z Z (Qd fun K hK => Qa Z (kc3 hK Z Z Z ?_)))
   refine Qd fun K hK => Qg Z Z (Qy Z Z Z (Qg Z Z (Qy Z Z Z (QG Z Z Z Wa (Zq Wa Wa) Z (Ze Z Z (Qy Z Z Z (Qa Z (kc3 hK Z Z Z ?_))))))))
   refine QB ?_ -- 1
   refine Qd fun K hK => Qa Z (kc4 hK Z Z Z Z ?_)
   refine QA ?_
   refine Zg (ι := Nat) (fun i => ⟨[(3, .ref 3 0 0), (5, .int .i64 (Kt x.s (w[x.u.toNat]'Wa).cs i)), (6, DI (w[x.u.toNat]'Wa).cs), (7, .int .i64 i)], [(3, ⟨[[.int .i64 (x).u, Zl (x).s.1, Zl (x).s.2]], 3, 68, true⟩)]⟩) (fun i => i <= (min (w[x.u.toNat]'Wa).cs.length 16)) (fun i => (min (w[x.u.toNat]'Wa).cs.length 16) - i) 0 ?_ ?_ ?_
   ·exact QZ (l := [3, 5, 6, 7]) (lH := [3]) (kp4 rfl rfl rfl rfl) (Qb rfl Ql) rfl rfl rfl
   ·exact Qja _
   intro i hI
   refine QB ?_ -- 2
   refine Qd fun K hK => mv2 Z Z (Zb Z Z (ZS Z Z (Qa Z ?_)))
   refine Qu (g := 30) Z (fun h3 => ?_) (fun h3 => ?_)
   ·rw [h3]
    simp only [qA] at h3
    refine Qe Z (Qa Z (Qe Z (ZS Z Z (Qh Z Z (kc5 hK Z Z Z Z Z ?_)))))
    refine Qt Z (fun h4 => ?_) (fun h4 => ?_)
    ·rw [h4]
     simp only [qA] at h4
     refine Qq (ks4 Z Z Z Z ?_)
     refine QB ?_ -- 3
     refine QA (Qd fun K hK => Qg Z Z (QM (ds0 := [0]) (cs := [_, _]) Z Z Z Z Z Z (mv2 Z Z (QG Z Z Z Wa (QV Wa) Z (Ze Z Z (QM (ds0 := [0]) (cs := [_, _, _, _, _]) Z Z Z Z Z Z (Q0 (ds0 := []) (Fz hx.1 hx.2 (hw.vs _ (Qi3 _) _ (Qi3 Wa)).1 (hw.vs _ (Qi3 _) _ (Qi3 Wa)).2) Z Z (.inr Z) Z Z (kc5 hK Z Z Z Z Z ?_))))))))
     refine Qt Z (fun h5 => ?_) (fun h5 => ?_)
     ·rw [h5]
      simp only [qA] at h5
      refine QL fun K hK => mv2 Z Z (QW Z Z Wb (Qw (Jv Wa Wa) Z Z (.inr Z) (QW Z Z (QcQ _ _ Wa) (Qa Z (hK _ ?_)))))
      refine Qf (ks4 Z Z Z Z (QL fun K hK => Qa Z (QW Z Z Wb (Qa Z (hK _ ?_)))))
      refine Qi (i + 1) ?_ ?_ ?_
      ·exact QZ (l := [3, 5, 6, 7]) (lH := [3]) (kp4 rfl rfl rfl rfl) (Qb rfl Ql) (by rw [Pt Wa Wh]; rfl) rfl rfl
      ·omega
      ·omega
     ·rw [h5]
      simp only [qA] at h5
      refine Qq (Qf (ks4 Z Z Z Z (QL fun K hK => Qa Z (QW Z Z Wb (Qa Z (hK _ ?_))))))
      refine Qi (i + 1) ?_ ?_ ?_
      ·exact QZ (l := [3, 5, 6, 7]) (lH := [3]) (kp4 rfl rfl rfl rfl) (Qb rfl Ql) (by rw [SC Wa Wh]; rfl) rfl rfl
      ·omega
      ·omega
    ·rw [h4]
     simp only [qA] at h4
     refine Q2 (QE (Qs (QC (ks1 Z (Qd fun K hK => mv2 Z Z (kc1 hK Z ?_))))))
     refine Qp (Qx Z ?_)
     rw [Pq Wa Wa, show i = min (w[x.u.toNat]'Wa).cs.length 16 by omega]
   ·rw [h3]
    simp only [qA] at h3
    refine gn2 Z Z (Qh Z Z (kc5 hK Z Z Z Z Z ?_))
    refine Zk Z (Q2 (QE (Qs (QC (ks1 Z (Qd fun K hK => mv2 Z Z (kc1 hK Z ?_)))))))
    refine Qp (Qx Z ?_)
    rw [Pq Wa Wa, show i = min (w[x.u.toNat]'Wa).cs.length 16 by omega]
end Go.Proofs
namespace M25
open Go Go.Abs M3
theorem WSm.csLen {w : Qz} (hw : WSm w) {u : Nat} (hu : u < w.length) : w[u].cs.length <= 16 := hw.cs _ (Qi3 _)
open Go Go.Abs M3
/-! ### Bits of numbers -/
theorem S5 (e : Int) : IntKind.i64.wrap e = (BitVec.ofInt 64 e).toInt := by
 have hb : (BitVec.ofInt 64 e).toInt = if e % 18446744073709551616 < 9223372036854775808 then e % 18446744073709551616 else e % 18446744073709551616 - 18446744073709551616 := by
  rw [BitVec.toInt_ofInt]; rfl
 rw [hb]
 unfold IntKind.wrap
 simp only [IntKind.bits, IntKind.signed, Bool.true_and]
 split
 ·rename_i h
  have := of_decide_eq_true h
  split <;> omega
 ·rename_i h
  have : ¬ (e % 2 ^ 64 >= 2 ^ (64 - 1)) := fun hh => h (decide_eq_true hh)
  split <;> omega
theorem Fe (b : BitVec 64) : BitVec.ofInt 64 (b.toNat : Int) = b := by
 rw [BitVec.ofInt_natCast, BitVec.ofNat_toNat, BitVec.setWidth_eq]
theorem Qff (x y : Int) : BitVec.ofInt 64 (KJ x y) = BitVec.ofInt 64 x &&& BitVec.ofInt 64 y := by
 show BitVec.ofInt 64 (IntKind.i64.wrap ((BitVec.ofInt 64 x &&& BitVec.ofInt 64 y).toNat : Int)) = _
 rw [S5, BitVec.ofInt_toInt, Fe]
theorem Qgl (x y : Int) : BitVec.ofInt 64 (bor x y) = BitVec.ofInt 64 x ||| BitVec.ofInt 64 y := by
 show BitVec.ofInt 64 (IntKind.i64.wrap ((BitVec.ofInt 64 x ||| BitVec.ofInt 64 y).toNat : Int)) = _
 rw [S5, BitVec.ofInt_toInt, Fe]
theorem Qfg (x y : Int) : BitVec.ofInt 64 (PZ x y) = BitVec.ofInt 64 x &&& ~~~ BitVec.ofInt 64 y := by
 show BitVec.ofInt 64 (IntKind.i64.wrap ((BitVec.ofInt 64 x &&& ~~~ BitVec.ofInt 64 y).toNat : Int)) = _
 rw [S5, BitVec.ofInt_toInt, Fe]
theorem Qb0 {x : Int} (h : I64 x) : IntKind.i64.wrap x = x := Qn h.1 h.2
theorem QcZ {x : Int} (h : I64 x) : (BitVec.ofInt 64 x).toInt = x := by rw [<- S5, Qb0 h]
theorem Qd5 (x y : Int) : I64 (KJ x y) := PP _
theorem Qfq (x y : Int) : I64 (bor x y) := PP _
def tb (x : Int) (i : Nat) : Bool := (BitVec.ofInt 64 x).getLsbD i
theorem Qdo (x y : Int) (i : Nat) : tb (KJ x y) i = (tb x i && tb y i) := by rw [tb, Qff, BitVec.getLsbD_and]; rfl
theorem QfT (x y : Int) (i : Nat) : tb (bor x y) i = (tb x i || tb y i) := by rw [tb, Qgl, BitVec.getLsbD_or]; rfl
theorem Qbh (x y : Int) {i : Nat} : tb (PZ x y) i = (tb x i && !tb y i) := by
 rw [tb, Qfg, BitVec.getLsbD_and, BitVec.getLsbD_not]
 by_cases h : i < 64
 ·simp [h, tb]
 ·simp [tb, BitVec.getLsbD_of_ge _ i (by omega : 64 <= i)]
theorem Qbg (x : Int) {i : Nat} (h : 64 <= i) : tb x i = false := BitVec.getLsbD_of_ge _ i h
theorem Qdp {x y : Int} (hx : I64 x) (hy : I64 y) (h : ∀ i, tb x i = tb y i) : x = y := by
 rw [<- QcZ hx, <- QcZ hy]
 congr 1
 exact BitVec.eq_of_getLsbD_eq fun i _ => h i
theorem SW (i : Nat) : tb 0 i = false := by
 show (BitVec.ofInt 64 0).getLsbD i = false
 rw [show BitVec.ofInt 64 0 = 0#64 from rfl, BitVec.getLsbD_zero]
theorem LU {x : Int} (hx : I64 x) : x = 0 ↔ ∀ i, tb x i = false := by
 constructor
 ·rintro rfl i; exact SW i
 ·intro h; exact Qdp hx ⟨Wa, Wa⟩ fun i => by rw [h i, SW]
theorem CD (n : Nat) {i : Nat} (h : i < 64) : tb (n : Int) i = n.testBit i := by
 rw [tb, BitVec.ofInt_natCast, BitVec.getLsbD_ofNat]; simp [h]
theorem PM {k : Nat} (hk : k < 64) (i : Nat) : tb ((2 : Int) ^ k) i = decide (i = k) := by
 have e : ((2 ^ k : Nat) : Int) = (2 : Int) ^ k := by simp
 by_cases h : i < 64
 ·rw [<- e, CD _ h, Nat.testBit_two_pow]
  exact decide_eq_decide.2 eq_comm
 ·rw [Qbg _ Wa]; exact (decide_eq_false Wa).symm
theorem QbC {x m : Int} : KJ x m = 0 ↔ ∀ i, tb x i = true -> tb m i = false := by
 rw [LU (Qd5 x m)]
 refine forall_congr' fun i => ?_
 rw [Qdo]; cases tb x i <;> cases tb m i <;> simp
def Lo (x : Int) : Prop := 0 <= x /\ x < 131072
theorem Jl {x : Int} {k : Nat} (hk : k < 64) : KJ x (2 ^ k) = 0 ↔ tb x k = false := by
 rw [QbC]
 constructor
 ·intro h
  cases hx : tb x k
  ·rfl
  ·have := h k hx; rw [PM hk] at this; simp at this
 ·intro h i hi
  rw [PM hk]
  by_cases e : i = k
  ·subst e; rw [h] at hi; cases hi
  ·exact decide_eq_false e
open Go Go.Abs M3
/-! ### Trails: the loops' laws -/
theorem Qad {w : Qz} {u : Int} : Xd w u = 0 ↔ inW w u = false := by
 constructor
 ·intro h
  cases hw : inW w u
  ·rfl
  ·rw [Pa] at hw
   rw [Ml hw.1 hw.2] at h
   have h2 : 2 <= (2 : Int) ^ (min (w[u.toNat]'Wa).cs.length 16 + 1) := by
    rw [Int.pow_succ]
    have := Qcw (n := min (w[u.toNat]'Wa).cs.length 16) Wa
    omega
   omega
 ·intro h
  refine FW (Classical.byContradiction fun hn => ?_)
  rw [Qfu Wa Wa] at h; cases h
def Qe2 (w : Qz) (l : List KL) : Prop := ∀ s ∈ l, Lo s.m
open Go Go.Abs M3
def Bc : List R0 -> Int -> Int
 | [], n => n
 | u :: r, n => if n < 1000000 then Bc r (n * ((u.cs.length : Int) + 1)) else n
def L6 (w : Qz) : Int := Bc w 1
theorem QgB {w : Qz} {i : Nat} {n : Int} (h : i < w.length) (hn : n < 1000000) : Bc (w.drop i) n = Bc (w.drop (i + 1)) (n * ((w[i].cs.length : Int) + 1)) := by
 rw [Qjf h, Bc, if_pos hn]
theorem QfS {w : Qz} {i : Nat} {n : Int} (h : w.length <= i) : Bc (w.drop i) n = n := by rw [Qjj h, Bc]
theorem QfR {w : Qz} {i : Nat} {n : Int} (hn : ¬ n < 1000000) : Bc (w.drop i) n = n := by
 cases h : w.drop i with
 | nil => rfl
 | cons u r => rw [Bc, if_neg hn]
theorem QcL {n : Int} {k : Nat} (h0 : 1 <= n) (h1 : n < 1000000) (hk : k <= 16) : 1 <= n * ((k : Int) + 1) /\ n * ((k : Int) + 1) <= 17000000 := by
 obtain ⟨m, rfl⟩ := Int.eq_ofNat_of_zero_le (Wa : 0 <= n)
 have h2 : m * (k + 1) <= 1000000 * 17 := Nat.mul_le_mul Wa Wa
 have h3 : 1 * 1 <= m * (k + 1) := Nat.mul_le_mul Wa Wa
 have e : (m : Int) * ((k : Int) + 1) = ((m * (k + 1) : Nat) : Int) := by simp
 rw [e]; omega
def chN (w : Qz) (n : Int) : Nat -> Int
 | 0 => n
 | i + 1 => match w[i]? with
  | some u => (chN w n i).tdiv ((u.cs.length : Int) + 1)
  | none => chN w n i
def chL (w : Qz) (n : Int) : Nat -> List Int
 | 0 => []
 | i + 1 => match w[i]? with
  | some u => chL w n i ++ [(chN w n i).tmod ((u.cs.length : Int) + 1) - 1]
  | none => chL w n i
def Sx (w : Qz) (n : Int) : List Int := chL w n w.length
theorem Qfi {w : Qz} {n : Int} {i : Nat} (h : i < w.length) : chN w n (i + 1) = (chN w n i).tdiv ((w[i].cs.length : Int) + 1) := by rw [chN, List.getElem?_eq_getElem h]
theorem BJ {w : Qz} {n : Int} {i : Nat} (h : i < w.length) : chL w n (i + 1) = chL w n i ++ [(chN w n i).tmod ((w[i].cs.length : Int) + 1) - 1] := by rw [chL, List.getElem?_eq_getElem h]
theorem Qbi {a : Int} {k : Nat} (h0 : 0 <= a) : 0 <= a.tdiv ((k : Int) + 1) /\ a.tdiv ((k : Int) + 1) <= a := by
 obtain ⟨m, rfl⟩ := Int.eq_ofNat_of_zero_le h0
 have : ((m : Int)).tdiv ((k : Int) + 1) = ((m / (k + 1) : Nat) : Int) := by
  rw [show (k : Int) + 1 = ((k + 1 : Nat) : Int) by simp, Int.ofNat_tdiv]
 rw [this]
 have := Nat.div_le_self m (k + 1)
 exact ⟨Int.natCast_nonneg _, Int.ofNat_le.2 this⟩
theorem BK {w : Qz} {n : Int} (h0 : 0 <= n) : ∀ i, 0 <= chN w n i /\ chN w n i <= n
 | 0 => ⟨h0, Int.le_refl _⟩
 | i + 1 => by
  obtain ⟨h1, h2⟩ := BK (w := w) h0 i
  rw [chN]
  split
  ·rename_i u _
   have := Qbi (k := u.cs.length) h1
   omega
  ·exact ⟨h1, h2⟩
theorem BH (w : Qz) (n : Int) : ∀ i, (chL w n i).length <= i
 | 0 => Nat.le_refl _
 | i + 1 => by
  have := BH w n i
  rw [chL]; split <;> simp <;> omega
theorem QeL {a : Int} {k : Nat} (hk : k <= 16) : IntKind.i64.wrap (a.tmod ((k : Int) + 1) - 1) = a.tmod ((k : Int) + 1) - 1 := by
 have h1 := Int.lt_tmod_of_pos a (Wa : (0 : Int) < (k : Int) + 1)
 have h2 := Int.tmod_lt_of_pos a (Wa : (0 : Int) < (k : Int) + 1)
 exact Qn Wa Wa
theorem QeK {a : Int} {k : Nat} (h0 : 0 <= a) (h1 : a <= 9223372036854775807) : IntKind.i64.wrap (a.tdiv ((k : Int) + 1)) = a.tdiv ((k : Int) + 1) := by
 have := Qbi (k := k) h0
 exact Qn Wa Wa
theorem Gf {v : Int} (h : (v + 1).toNat <= 61) : IntKind.i64.wrap ((1 : Int) * 2 ^ min (v + 1).toNat IntKind.i64.bits) = 2 ^ (v + 1).toNat := by
 rw [show min (v + 1).toNat IntKind.i64.bits = (v + 1).toNat from by simp only [IntKind.bits]; omega, Int.one_mul]
 have := SM (i := (v + 1).toNat) Wa
 exact Qn Wa Wa
end M25
namespace Go.Proofs
open Go Go.Abs M3 M25
theorem G0 {w : Qz} (hw : WSm w) : Ok Tryz.prog 14 [Yn w] (.int .i64 (L6 w)) := by
 refine Ok.ofT ZN Tryz.func14 QhG (QiY Z) ?_
 show TW _ _ tf14.body _ _
 have hn := hw.len
 refine Qd fun K hK => Zp Z Z Z (Qa Z (kc1 hK Z ?_))
 refine Qd fun K hK => Qa Z (kc2 hK Z Z ?_)
 refine QB ?_ -- 0
 refine Qd fun K hK => Qa Z (kc3 hK Z Z Z ?_)
 refine QA ?_
 refine Zg (ι := Nat × Int) (fun ⟨i, n⟩ => ⟨[(1, .ref 1 0 0), (3, .int .i64 n), (4, .int .i64 i)], [(1, ⟨[[.sl ((w).map YA)]], 1, 26, true⟩)]⟩) (fun ⟨i, n⟩ => i <= w.length /\ 1 <= n /\ L6 w = Bc (w.drop i) n) (fun ⟨i, n⟩ => w.length - i) (0, 1) ?_ ?_ ?_
 ·exact QZ (l := [1, 3, 4]) (lH := [1]) (kp3 rfl rfl rfl) (Qb rfl Ql) rfl rfl rfl
 ·exact ⟨Qja _, Int.le_refl _, rfl⟩
 intro ⟨i, n⟩ hI
 obtain ⟨hI1, hI2, hI3⟩ := hI
 dsimp only
 refine QB ?_ -- 1
 refine Qd fun K hK => Qa Z (Qg Z Z (Qy Z Z Z (Zb Z QU (ZS Z Z (Qa Z ?_)))))
 refine Qu (g := 10) Z (fun h1 => ?_) (fun h1 => ?_)
 ·rw [h1]
  simp only [qA] at h1
  refine Qe Z (Qa Z (Qe Z (ZS Z Z (Qh Z Z (kc4 hK Z Z Z Z ?_)))))
  refine Qt Z (fun h2 => ?_) (fun h2 => ?_)
  ·rw [h2]
   simp only [qA] at h2
   refine Qq (ks3 Z Z Z ?_)
   refine QB ?_ -- 2
   refine QA (QL fun K hK => Qa Z (Qg Z Z (Qy Z Z Z (Qa Z (QG Z Z Z Wa (QV Wa) Z (Ze Z Z (Qy Z Z Z (Zb Z QU (QW Z Z (Qn (by have := hw.csLen (Wa : i < w.length); omega) (by have := hw.csLen (Wa : i < w.length); omega)) (CO Z Z (Qn (by have := QcL hI2 h2 (hw.csLen (Wa : i < w.length)); omega) (by have := QcL hI2 h2 (hw.csLen (Wa : i < w.length)); omega)) ?_))))))))))
   refine Qa Z (hK _ ?_)
   refine Qf (ks3 Z Z Z (QL fun K hK => Qa Z (QW Z Z Wb (Qa Z (hK _ ?_)))))
   refine Qi (i + 1, n * (((w[i]'Wa).cs.length : Int) + 1)) ?_ ?_ ?_
   ·exact QZ (l := [1, 3, 4]) (lH := [1]) (kp3 rfl rfl rfl) (Qb rfl Ql) rfl rfl rfl
   ·exact ⟨Wa, (QcL hI2 h2 (hw.csLen Wa)).1, by rw [hI3, QgB Wa h2]⟩
   ·show w.length - (i + 1) < w.length - i; omega
  ·rw [h2]
   simp only [qA] at h2
   refine Q2 (QE (Qs (QC (ks1 Z (Qd fun K hK => mv2 Z Z (kc1 hK Z ?_))))))
   refine Qp (Qx Z ?_)
   rw [hI3, QfR Wa]
 ·rw [h1]
  simp only [qA] at h1
  refine gn2 Z Z (Qh Z Z (kc4 hK Z Z Z Z ?_))
  refine Zk Z (Q2 (QE (Qs (QC (ks1 Z (Qd fun K hK => mv2 Z Z (kc1 hK Z ?_)))))))
  refine Qp (Qx Z ?_)
  rw [hI3, QfS Wa]
theorem HE {w : Qz} (hw : WSm w) {n : Int} (h0n : 0 <= n) (h1n : n <= 9223372036854775807) : Ok Tryz.prog 12 [Yn w, .int .i64 n] (QN (Sx w n)) := by
 refine Ok.ofT ZN Tryz.func12 QhE (QiY Z) ?_
 show TW _ _ tf12.body _ _
 have hn := hw.len
 refine Qd fun K hK => Zp Z Z Z (Qa Z (kc2 hK Z Z ?_))
 refine Qd fun K hK => Qa Z (kc3 hK Z Z Z ?_)
 refine QB ?_ -- 0
 refine Qd fun K hK => Qa Z (kc4 hK Z Z Z Z ?_)
 refine QA ?_
 refine Zg (ι := Nat) (fun i => ⟨[(1, .int .i64 (chN w n i)), (2, .ref 2 0 0), (5, .osl 5 (chL w n i).length), (6, .int .i64 i)], [(2, ⟨[[.sl ((w).map YA)]], 1, 26, true⟩), (5, ⟨(chL w n i).map (fun x => [.int .i64 x]), 1, 3, true⟩)]⟩) (fun i => i <= w.length) (fun i => w.length - i) 0 ?_ ?_ ?_
 ·exact le_trans (ZT 5 5 1 3 rfl rfl) (QZ (l := [1, 2, 5, 6]) (lH := [2, 5]) (kp4 rfl rfl rfl rfl) (Qb rfl (Qb rfl Ql)) rfl rfl rfl)
 ·exact Qja _
 intro i hI
 have hlen := BH w n i
 have hbd := BK (w := w) h0n i
 refine QB ?_ -- 1
 refine Qd fun K hK => Qa Z (Qg Z Z (Qy Z Z Z (Zb Z QU (ZS Z Z (kc5 hK Z Z Z Z Z ?_)))))
 refine Qt Z (fun h1 => ?_) (fun h1 => ?_)
 ·rw [h1]
  simp only [qA] at h1
  refine Qq (ks4 Z Z Z Z ?_)
  refine QB ?_ -- 2
  refine QA (Qd fun K hK => Qg Z Z (Qy Z Z Z (Qa Z (QG Z Z Z Wa (QV Wa) Z (Ze Z Z (Qy Z Z Z (Zb Z QU (QW Z Z (Qn Wa (by have := hw.csLen (Wa : i < w.length); omega)) (Qa Z (kc5 hK Z Z Z Z Z ?_))))))))))
  refine Qd fun K hK => mv2 Z Z (Qa Z (Lz Z Z Wa (Hl Z Z (QeL (hw.csLen Wa)) (QK Z Z (Xw Z Z (fun _ h => Xj Z Z Z h) Z Wd Z Z Z Wf Wf (Qa Z (kc5 hK Z Z Z Z Z ?_)))))))
  refine QL fun K hK => mv2 Z Z (Qge Z Z Wa (QeK hbd.1 Wa) (Qa Z (hK _ ?_)))
  refine Qf (ks4 Z Z Z Z (QL fun K hK => Qa Z (QW Z Z Wb (Qa Z (hK _ ?_)))))
  refine Qi (i + 1) ?_ ?_ ?_
  ·exact QZ (l := [1, 2, 5, 6]) (lH := [2, 5]) (kp4 rfl rfl rfl rfl) (Qb rfl (Qb rfl Ql)) (by rw [BJ Wa, Qfi Wa, List.length_append]; rfl) (by rw [BJ Wa, List.map_append]; rfl) rfl
  ·omega
  ·omega
 ·rw [h1]
  simp only [qA] at h1
  refine Q2 (QE (Qs (QC (ks1 Z (Qd fun K hK => mv2 Z Z (kc1 hK Z ?_))))))
  refine Qp ?_
  exact Kb rfl rfl rfl Wd (by rw [Sx, show w.length = i by omega]; rfl)
theorem Gi {v : Int} (h0 : -1 <= v) (h1v : v <= 60) : Ok Tryz.prog 71 [.int .i64 v] (.int .i64 (2 ^ (v + 1).toNat)) := by
 refine Ok.ofT ZN Tryz.func71 Qiu (QiY Z) ?_
 show TW _ _ tf71.body _ _
 refine Qd fun K hK => Qa Z (kc1 hK Z ?_)
 refine Qd fun K hK => Qa Z (QW Z Z Wb (LA Z Z Wa (Gf Wa) (Qa Z (kc1 hK Z ?_))))
 refine Qp (Qx Z ?_)
 rfl
theorem Ri {w : Qz} (hw : WSm w) {u : Int} : Ok Tryz.prog 70 [Yn w, .int .i64 u] (.bool (inW w u)) := by
 refine Ok.ofT ZN Tryz.func70 Qit (QiY Z) ?_
 show TW _ _ tf70.body _ _
 refine Qd fun K hK => Zp Z Z Z (Qa Z (kc2 hK Z Z ?_))
 refine Qd fun K hK => Qa Z (NM Z Z (Qa Z ?_))
 refine Qu (g := 7) Z (fun h1 => ?_) (fun h1 => ?_)
 ·rw [h1]
  simp only [qA] at h1
  refine Qe Z (Qa Z (Qe Z (Qg Z Z (Qe Z (Qy Z Z Z (Qe Z (Zb Z QU (Qe Z (ZS Z Z (Qh Z Z (Qa Z ?_)))))))))))
  refine kc1 hK Z ?_
  refine Qp (Qk Z ?_)
  rw [inW, decide_eq_true h1, Bool.true_and]
 ·rw [h1]
  simp only [qA] at h1
  refine gn4 Z Z Z Z (YN Z (Qh Z Z (Qa Z (kc1 hK Z ?_))))
  refine Qp (Qk Z ?_)
  (rw [Qd6 Wa]; done)
theorem MR {w : Qz} (hw : WSm w) {u : Int} : Ok Tryz.prog 41 [Yn w, .int .i64 u] (.int .i64 (Xd w u)) := by
 refine Ok.ofT ZN Tryz.func41 Qh3 (QiY Z) ?_
 show TW _ _ tf41.body _ _
 refine Qd fun K hK => Zp Z Z Z (Qa Z (kc2 hK Z Z ?_))
 refine QB ?_ -- 0
 refine Qd fun K hK => QD (cs := [_]) Z Z Z Z (Qa Z (Qw (Ri hw) Z Z (.inr Z) (ZH Z (kc3 hK Z Z Z ?_))))
 refine Qt Z (fun h1 => ?_) (fun h1 => ?_)
 ·rw [h1]
  simp only [qA] at h1
  try have h1b := Pa.1 h1
  refine Qd fun K hK => Qa Z (kc1 hK Z ?_)
  refine Qp (Qj (Qx Z ?_))
  rw [Qad.2 h1]
 ·rw [h1]
  simp only [qA] at h1
  try have h1b := Pa.1 h1
  refine Qq (ks2 Z Z (Qd fun K hK => Qg Z Z (Qy Z Z Z (Qa Z (QG Z Z Z Wa (Zq Wa Wa) Z (Ze Z Z (Qy Z Z Z (Zb Z QU (Qw (Gi Wa (by have := hw.cs _ (Qi3 (Wa : u.toNat < w.length)); omega)) Z Z (.inr Z) (Hl Z Z (Lq (by have := hw.cs _ (Qi3 (Wa : u.toNat < w.length)); omega)) ?_))))))))))
  refine Qa Z (kc1 hK Z ?_)
  refine Qp (Qx Z ?_)
  rw [Ml h1b.1 h1b.2, show min (w[u.toNat]'Wa).cs.length 16 = (w[u.toNat]'Wa).cs.length from Nat.min_eq_left (hw.cs _ (Qi3 _)), Qds]
end Go.Proofs
namespace M25
open Go Go.Abs M3
/-! ### prop: what is left of each unit, scans -/
structure Qe1 (w : Qz) (db : List (List TermT)) (l : List KL) (a : Nat) (k : Nat) : Prop where
  ha : a < db.length
  hk : k < db[a].length
  eq : Qgu w db l = ((a : Int), db[a][k].u)
  one : TY (P9 w l db[a][k].u) db[a][k].m = 1
  two : ∀ j, ∀ hj : j < db[a].length, j ≠ k -> TY (P9 w l db[a][j].u) db[a][j].m = 2
def Qhw (w : Qz) (l : List KL) (t : TermT) (c : Int) : KL := ⟨t.u, PZ (P9 w l t.u) t.m, QfA l, c⟩
open Go Go.Abs M3
/-! ### Sets that are made: moderate sizes -/
theorem QbZ (l : List (Cu × Cu)) (x y : Cu) : (HW l x y).length <= l.length + 1 := TR l x y
theorem Se (f : Cu -> Cu -> Bool) : ∀ (c : List Cu) (out : List (Cu × Cu)), (∀ x ∈ c, Cu.sm x) -> (∀ s ∈ out, Cu.sm s.1 /\ Cu.sm s.2) -> (HV f c out).length <= out.length + c.length /\ ∀ s ∈ HV f c out, Cu.sm s.1 /\ Cu.sm s.2
 | [], out, _, h => ⟨by simp [HV], by simpa [HV] using h⟩
 | [x], out, _, h => ⟨by simp [HV], by simpa [HV] using h⟩
 | x :: y :: r, out, hc, h => by
  rw [HV]
  have hxy := QbZ out x y
  split
  ·obtain ⟨h1, h2⟩ := Se f (y :: r) (HW out x y) (fun z hz => hc z (by simp at hz ⊢; exact .inr hz)) (Ca h (hc x Wd) (hc y Wd))
   exact ⟨by simp only [List.length_cons] at h1 ⊢; omega, h2⟩
  ·obtain ⟨h1, h2⟩ := Se f (y :: r) out (fun z hz => hc z (by simp at hz ⊢; exact .inr hz)) h
   exact ⟨by simp only [List.length_cons] at h1 ⊢; omega, h2⟩
def SmN (n : Nat) (l : List (Cu × Cu)) : Prop := l.length <= n /\ ∀ s ∈ l, Cu.sm s.1 /\ Cu.sm s.2
theorem SmN.sm {n : Nat} {l : List (Cu × Cu)} (h : SmN n l) (hn : n <= 1000000) : Sm l := ⟨Qjh h.1 hn, h.2⟩
theorem SmN.up {n m : Nat} {l : List (Cu × Cu)} (h : SmN n l) (hn : n <= m) : SmN m l := ⟨Qjh h.1 hn, h.2⟩
theorem SmN.nil (n : Nat) : SmN n [] := ⟨Qja _, by simp⟩
theorem Qdg {a b : List (Cu × Cu)} {n m : Nat} (ha : SmN n a) (hb : SmN m b) (h : n + m <= 1000000) : SmN (2 + 2 * (n + m)) (Qdb a b) := by
 unfold Qdb
 split
 ·have hab : Sm (a ++ b) := (ha.sm Wa).app (hb.sm Wa) (by have := ha.1; have := hb.1; omega)
  unfold L4
  split
  ·obtain ⟨h1, h2⟩ := Se (mIn (a ++ b)) (Y4 (a ++ b)) [] (YF hab) Wd
   have := HT (a ++ b)
   have := ha.1
   have := hb.1
   exact ⟨by simp only [List.length_nil, List.length_append] at *; omega, h2⟩
  ·exact SmN.nil _
 ·exact SmN.nil _
theorem QaE {a : List (Cu × Cu)} {n : Nat} (ha : SmN n a) (h : n <= 1000000) : SmN (2 + 2 * n) (L5 a) := by
 unfold L5
 split
 ·obtain ⟨h1, h2⟩ := Se (fun x y => !mIn a x y) (Y4 a) [] (YF (ha.sm h)) Wd
  have := HT a
  have := ha.1
  exact ⟨by simp only [List.length_nil] at *; omega, h2⟩
 ·exact SmN.nil _
def CP (n : Nat) (s : NN) : Prop := SmN n s.1 /\ SmN n s.2
theorem QfI {a b : NN} {n m : Nat} (ha : CP n a) (hb : CP m b) (h : n + m <= 1000000) : CP (2 + 2 * (n + m)) (Qdc a b) := by
 unfold Qdc
 split
 ·exact ⟨Qdg ha.1 hb.1 h, Qdg ha.2 hb.2 h⟩
 ·exact ⟨SmN.nil _, SmN.nil _⟩
theorem QaF {a : NN} {n : Nat} (ha : CP n a) (h : n <= 1000000) : CP (2 + 2 * n) (Sy a) := by
 unfold Sy
 split
 ·exact ⟨QaE ha.1 h, QaE ha.2 h⟩
 ·exact ⟨SmN.nil _, SmN.nil _⟩
theorem GD (e a b c : Int) (f : Bool) : Cu.sm ⟨e, a, b, c, [], [], f⟩ := ⟨Qja _, Qja _⟩
theorem Gp {a b c : Int} {p q : List UInt8} (hp : p.length <= 1000000) : CP 1 (Xq a b c p q) := by
 unfold Xq
 split
 ·exact ⟨SmN.nil _, SmN.nil _⟩
 ·split
  ·refine ⟨SmN.nil _, ⟨Nat.le_refl _, fun s hs => ?_⟩⟩
   simp only [Qi7] at hs; subst hs
   exact ⟨⟨hp, Qja _⟩, ⟨hp, Qja _⟩⟩
  ·refine ⟨⟨Nat.le_refl _, fun s hs => ?_⟩, SmN.nil _⟩
   simp only [Qi7] at hs; subst hs
   constructor
   ·unfold Pn; split
    ·exact GD ..
    ·exact GD ..
   ·unfold FV; split
    ·exact GD ..
    ·exact GD ..
def PX : NN := ([(GT, P6)], [(GT, P6)])
theorem DD : CP 1 PX := by
 have h : SmN 1 [(GT, P6)] := ⟨Nat.le_refl _, fun s hs => by simp only [Qi7] at hs; subst hs; exact ⟨GD .., GD ..⟩⟩
 exact ⟨h, h⟩
def bnd (i : Nat) : Nat := 4 * 2 ^ i
theorem QcY {i : Nat} (h : i <= 16) : bnd i <= 262144 := by
 have : 2 ^ i <= 2 ^ 16 := Nat.pow_le_pow_right Wa h
 have e : (2 : Nat) ^ 16 = 65536 := by decide
 unfold bnd; omega
theorem QfO {s : NN} {i : Nat} (h : CP (bnd i - 4) s) {a b c : Int} {p q : List UInt8} (hp : p.length <= 1000000) (hi : i <= 16) : CP (bnd (i + 1) - 4) (Qdc s (Xq a b c p q)) := by
 have h1 := QcY hi
 have h4 : 4 <= bnd i := by unfold bnd; have := Nat.one_le_two_pow (n := i); omega
 have := QfI h (Gp (a := a) (b := b) (c := c) (q := q) hp) Wa
 have e : bnd (i + 1) = 2 * bnd i := by unfold bnd; rw [Nat.pow_succ]; omega
 exact ⟨this.1.up Wa, this.2.up Wa⟩
theorem QcG {s : NN} {i : Nat} (h : CP (bnd i - 4) s) : CP (bnd (i + 1) - 4) s := by
 have e : bnd (i + 1) = 2 * bnd i := by unfold bnd; rw [Nat.pow_succ]; omega
 exact ⟨h.1.up Wa, h.2.up Wa⟩
def SetOk (s : NN) : Prop := CP 600000 s
theorem SetOk.sm {s : NN} (h : SetOk s) : Sm s.1 /\ Sm s.2 := ⟨h.1.sm Wa, h.2.sm Wa⟩
structure CR where
 v : Vr
 x : D
 y : D
 z : D
def dCR (r : CR) : List D := [.int .i64 r.v.a, .int .i64 r.v.b, .int .i64 r.v.c, .str r.v.p, .str r.v.q, r.x, r.y, r.z]
def CR.ren (r : CR) : CR := ⟨r.v, r.x.renS upN, r.y.renS upN, r.z.renS upN⟩
theorem BN (l : List CR) : (l.map dCR).map (fun r => r.map (D.renS upN)) = (l.map CR.ren).map dCR := by
 rw [List.map_map, List.map_map]; rfl
structure UR where
 n : List UInt8
 f : List UInt8
 k : Nat
 cs : List CR
def dUR (u : UR) : List D := [.str u.n, .str u.f, .osl u.k u.cs.length]
def UR.ren (u : UR) : UR := ⟨u.n, u.f, upN u.k, u.cs.map CR.ren⟩
theorem QdZ (l : List UR) : (l.map dUR).map (fun r => r.map (D.renS upN)) = (l.map UR.ren).map dUR := by
 rw [List.map_map, List.map_map]
 refine List.map_congr_left fun u _ => ?_
 simp [dUR, UR.ren, D.renS]
structure Fam (H : QiV) (kg ku eu ec : Nat) (us : List UR) : Prop where
 ne : ku ≠ kg
 u : ∃ pr, lk H ku = some ⟨us.map dUR, 3, eu, pr⟩
 c : ∀ y ∈ us, y.k ≠ kg /\ ∃ pr, lk H y.k = some ⟨y.cs.map dCR, 8, ec, pr⟩
 v : ∀ y ∈ us, y.cs.length <= 16 /\ ∀ z ∈ y.cs, PQ z.v
theorem Fam.up {H : QiV} {kg ku eu ec : Nat} {us : List UR} (h : Fam H kg ku eu ec us) : Fam (upH H) (upN kg) (upN ku) eu ec (us.map UR.ren) := by
 obtain ⟨h1, ⟨pu, h2⟩, h3, h4⟩ := h
 refine ⟨fun e => h1 (S1 e), ⟨pu, ?_⟩, fun y hy => ?_, fun y hy => ?_⟩
 ·rw [J7, h2, Option.map_some, Box.ren, QdZ]
 ·obtain ⟨u, hu, rfl⟩ := Qjc.1 hy
  obtain ⟨q1, pr, q2⟩ := h3 u hu
  refine ⟨fun e => q1 (S1 e), pr, ?_⟩
  show lk (upH H) (upN u.k) = _
  rw [J7, q2, Option.map_some, Box.ren, BN]; rfl
 ·obtain ⟨u, hu, rfl⟩ := Qjc.1 hy
  obtain ⟨q1, q2⟩ := h4 u hu
  refine ⟨by simpa [UR.ren] using q1, fun z hz => ?_⟩
  obtain ⟨z0, hz0, rfl⟩ := Qjc.1 hz
  exact q2 z0 hz0
theorem Fam.cons {H : QiV} {kg ku eu ec : Nat} {us : List UR} (h : Fam H kg ku eu ec us) {b : Box} : Fam ((kg, b) :: H) kg ku eu ec us := by
 obtain ⟨h1, ⟨pu, h2⟩, h3, h4⟩ := h
 exact ⟨h1, ⟨pu, Qo (Ne.symm h1) h2⟩, fun y hy => let ⟨q1, pr, q2⟩ := h3 y hy; ⟨q1, pr, Qo (Ne.symm q1) q2⟩, h4⟩
def WantIn (n : Nat) (x : WantT) : Prop := 1 <= x.u /\ x.u < n /\ SetOk x.s
def Th (n : Nat) (r : List WantT) : Prop := r.length <= 2 /\ ∀ x ∈ r, WantIn n x
def MF (n : Nat) (m : Int) (ns : List (List WantT)) : Prop := (ns.length : Int) <= m /\ ∀ r ∈ ns, Th n r
theorem Qew {n : Nat} {x : WantT} (h : WantIn n x) : Th n [x] := ⟨by simp, by intro y hy; simp only [Qi7] at hy; subst hy; exact h⟩
theorem Qex {n : Nat} {x y : WantT} (h : WantIn n x) (h' : WantIn n y) : Th n [x, y] := ⟨by simp, by
 intro z hz
 simp only [Qi0, QiZ, or_false] at hz
 rcases hz with rfl | rfl
 ·exact h
 ·exact h'⟩
theorem Qa4 {n : Nat} {ns : List (List WantT)} {r : List WantT} (h : ∀ r ∈ ns, Th n r) (hr : Th n r) : ∀ x ∈ ns ++ [r], Th n x := fun x hx => by
 rcases Qi9.1 hx with hx | hx
 ·exact h x hx
 ·simp only [Qi7] at hx; subst hx; exact hr
end M25
namespace M25
open Go Go.Abs M3
/-! ### The boxes of a world under way -/
def fbx (ec : Nat) (us : List UR) : QiV := us.map fun u => (u.k, ⟨u.cs.map dCR, 8, ec, true⟩)
def Yd (us : List UR) : Prop := ∀ j, ∀ h : j < us.length, us[j].k = 500001 + j
theorem TL {us : List UR} {u : UR} (h : Yd us) (hu : u.k = 500001 + us.length) : Yd (us ++ [u]) := fun j hj => by
 rw [List.length_append, List.length_singleton] at hj
 by_cases e : j < us.length
 ·rw [List.getElem_append_left e]; exact h j e
 ·have : j = us.length := Wa
  subst this
  rw [List.getElem_append_right (Nat.le_refl _)]; simpa using hu
theorem M1 (ec : Nat) (us : List UR) : Qbu (fbx ec us) := fun p hp => by
 obtain ⟨u, _, rfl⟩ := Qjc.1 hp; rfl
theorem RA {ec : Nat} : ∀ {us : List UR} {k : Nat} {b : Box}, lk (fbx ec us) k = some b -> ∃ u ∈ us, k = u.k /\ b = ⟨u.cs.map dCR, 8, ec, true⟩
 | [], _, _, h => by cases h
 | u :: us, k, b, h => by
  simp only [fbx, List.map_cons] at h
  rw [Qm] at h
  split at h
  ·rename_i e; cases h; exact ⟨u, by simp, e.symm, rfl⟩
  ·obtain ⟨v, hv, q⟩ := RA (us := us) h
   exact ⟨v, by simp [hv], q⟩
theorem KZ {us : List UR} (h : Yd us) {u : UR} (hu : u ∈ us) : 500001 <= u.k /\ u.k < 500001 + us.length := by
 obtain ⟨j, hj, rfl⟩ := Qjk hu
 have := h j hj
 omega
theorem Sc {ec : Nat} {us : List UR} (h : Yd us) : Qhp 500001 (fbx ec us) := fun k b hk => by
 obtain ⟨u, hu, rfl, _⟩ := RA hk
 exact (KZ h hu).1
theorem Y2 {ec : Nat} {us : List UR} (h : Yd us) {k : Nat} (hk : k < 500001 \/ 500001 + us.length <= k) : lk (fbx ec us) k = none := by
 cases hh : lk (fbx ec us) k with
 | none => rfl
 | some b =>
  obtain ⟨u, hu, rfl, _⟩ := RA hh
  have := KZ h hu
  omega
theorem B5 {ec : Nat} : ∀ {us : List UR} {n : Nat}, (∀ j, ∀ h : j < us.length, us[j].k = n + j) -> ∀ j, ∀ h : j < us.length, lk (fbx ec us) (n + j) = some ⟨us[j].cs.map dCR, 8, ec, true⟩
 | [], _, _, j, hj => by simp at hj
 | u :: us, n, hk, 0, _ => by
  have := hk 0 Wd
  simp only [List.getElem_cons_zero, Nat.add_zero] at this
  simp only [fbx, List.map_cons, Nat.add_zero]
  rw [Qm, if_pos this]; rfl
 | u :: us, n, hk, j + 1, hj => by
  have h0 := hk 0 Wd
  simp only [List.getElem_cons_zero, Nat.add_zero] at h0
  simp only [fbx, List.map_cons]
  rw [Qm, if_neg Wa]
  have := B5 (ec := ec) (us := us) (n := n + 1) (fun i hi => by
   have := hk (i + 1) (by simpa using hi)
   simp only [List.getElem_cons_succ] at this
   omega) j (by simpa using hj)
  rw [show n + 1 + j = n + (j + 1) by omega] at this
  simp only [List.getElem_cons_succ]
  exact this
theorem B4 {ec : Nat} {us : List UR} (h : Yd us) {j : Nat} (hj : j < us.length) : lk (fbx ec us) (500001 + j) = some ⟨us[j].cs.map dCR, 8, ec, true⟩ := B5 h j hj
theorem DS (ec : Nat) (us : List UR) (u : UR) : fbx ec (us ++ [u]) = fbx ec us ++ [(u.k, ⟨u.cs.map dCR, 8, ec, true⟩)] := by simp [fbx]
theorem QbS {ec : Nat} {us : List UR} (h : Yd us) {kg : Nat} {x y : Box} {u : UR} (hu : u.k = 500001 + us.length) (hkg : u.k ≠ kg) (k : Nat) :
  lk ((u.k, ⟨u.cs.map dCR, 8, ec, true⟩) :: (500000, x) :: (kg, y) :: fbx ec us) k = lk ((500000, x) :: (kg, y) :: fbx ec (us ++ [u])) k := by
 rw [DS]
 by_cases e : u.k = k
 ·subst e
  rw [QF, Qm, if_neg Wa, Qm, if_neg (Ne.symm hkg), Y3 (Y2 h (.inr Wa)), QF]
 ·rw [Qm, if_neg e, Qm, Qm, Qm, Qm]
  split
  ·rfl
  ·split
   ·rfl
   ·rw [ZV]
    cases h2 : lk (fbx ec us) k with
    | some v => rfl
    | none => rw [Qm, if_neg e]; rfl
def zr (v : Vr) (sh : Int) : CR := ⟨v, .int .i64 sh, .fsl [], .fsl []⟩
def QeZ (u : UR) : Prop := u.cs.length <= 4 /\ ∀ z ∈ u.cs, ∃ v sh, z = zr v sh /\ PQ v
theorem Qc5 {u : UR} : (dUR u).flatMap D.sid = [u.k] := by simp [dUR, D.sid]
theorem Hf {us : List UR} {e et : Nat} {k : Nat} (h : k ∈ (Box.ids ⟨us.map dUR, e, et, false⟩)) : ∃ u ∈ us, k = u.k := by
 simp only [Box.ids, Qi6, if_false, Qi5, Qjc] at h
 obtain ⟨r, ⟨u, hu, rfl⟩, hk⟩ := h
 have : k ∈ (dUR u).flatMap D.sid := Qi5.2 hk
 rw [Qc5] at this
 exact ⟨u, hu, by simpa using this⟩
theorem QeI {us : List UR} (h : Yd us) : ∀ r ∈ us.map dUR, ∀ d ∈ r, 500000 ∉ d.sid := fun r hr d hd hk => by
 obtain ⟨u, hu, rfl⟩ := Qjc.1 hr
 have : 500000 ∈ (dUR u).flatMap D.sid := Qi5.2 ⟨d, hd, hk⟩
 rw [Qc5] at this
 have h2 := KZ h hu
 simp only [Qi7] at this
 omega
theorem R3 {B F : QiV} {j : Nat} (h : (lk F j).isSome = true) : (lk (B ++ F) j).isSome = true := by
 rw [ZV]; split
 ·rfl
 ·exact h
theorem FK {ec : Nat} {us : List UR} (h : Yd us) {u : UR} (hu : u ∈ us) : (lk (fbx ec us) u.k).isSome = true := by
 obtain ⟨j, hj, rfl⟩ := Qjk hu
 rw [h j hj, B4 h hj]; rfl
theorem Sd {ec : Nat} {us : List UR} {u : UR} (h : Yd us) (hu : u.k = 500001 + us.length) : lk (fbx ec (us ++ [u])) (500001 + us.length) = some ⟨u.cs.map dCR, 8, ec, true⟩ := by
 rw [DS, Y3 (Y2 h (.inr (Nat.le_refl _))), <- hu, QF]
section
variable {l : List Nat} {fr fr1 fr' : QiW} {B : QiV} {kg eg eu ec : Nat} {L : List Int} {J : Int} {us : List UR}
theorem Qht (hf : Zd l fr = fr1) (ef : fr1 = fr') (hK : Yd us) (hu : lk B 500000 = some ⟨us.map dUR, 3, eu, false⟩) (hg : lk B kg = some (gB L J eg)) (hB : ∀ p ∈ B, 500001 <= p.1 -> p.1 = kg) (hkg : kg ≠ 500000)
  (hfr : ∀ p ∈ fr', ∀ k ∈ p.2.ids, k = 500000 \/ k = kg \/ ∃ u ∈ us, k = u.k) : St.le ⟨fr, B ++ fbx ec us⟩ ⟨fr', [(500000, ⟨us.map dUR, 3, eu, false⟩), (kg, gB L J eg)] ++ fbx ec us⟩ := by
 have s0 : ∀ k, (k = 500000 \/ k = kg \/ ∃ u ∈ us, k = u.k) -> (lk ([(500000, (⟨us.map dUR, 3, eu, false⟩ : Box)), (kg, gB L J eg)] ++ fbx ec us) k).isSome = true := fun k hk => by
  rcases hk with rfl | rfl | ⟨u, hu, rfl⟩
  ·exact Q5
  ·exact Q3 Q5
  ·exact R3 (FK hK hu)
 refine L3 (N := 500001) hf ef (fun p hp => ?_) rfl (fun p hp j hj => s0 j ?_) (fun p hp h => ?_) (Sc hK) (M1 ec us) (fun p hp k hk => s0 k (hfr p hp k hk))
 ·simp only [Qi0, QiZ, or_false] at hp
  rcases hp with rfl | rfl
  ·exact hu
  ·exact hg
 ·simp only [Qi0, QiZ, or_false] at hp
  rcases hp with rfl | rfl
  ·exact .inr (.inr (Hf hj))
  ·simp [Box.ids, gB] at hj
 ·rw [hB p hp h]; exact Q3 Q5
theorem QeX {cs : List CR} (hf : Zd l fr = fr1) (ef : fr1 = fr') (hK : Yd us) (hc : lk B (500001 + us.length) = some ⟨cs.map dCR, 8, ec, true⟩) (hu : lk B 500000 = some ⟨us.map dUR, 3, eu, false⟩) (hg : lk B kg = some (gB L J eg)) (hB : ∀ p ∈ B, 500001 <= p.1 -> p.1 = kg \/ p.1 = 500001 + us.length)
  (hfr : ∀ p ∈ fr', ∀ k ∈ p.2.ids, k = 500000 \/ k = kg \/ k = 500001 + us.length \/ ∃ u ∈ us, k = u.k) : St.le ⟨fr, B ++ fbx ec us⟩ ⟨fr', [(500001 + us.length, ⟨cs.map dCR, 8, ec, true⟩), (500000, ⟨us.map dUR, 3, eu, false⟩), (kg, gB L J eg)] ++ fbx ec us⟩ := by
 have s0 : ∀ k, (k = 500000 \/ k = kg \/ k = 500001 + us.length \/ ∃ u ∈ us, k = u.k) -> (lk ([(500001 + us.length, (⟨cs.map dCR, 8, ec, true⟩ : Box)), (500000, (⟨us.map dUR, 3, eu, false⟩ : Box)), (kg, gB L J eg)] ++ fbx ec us) k).isSome = true := fun k hk => by
  rcases hk with rfl | rfl | rfl | ⟨u, hu, rfl⟩
  ·exact Q3 Q5
  ·exact Q3 (Q3 Q5)
  ·exact Q5
  ·exact R3 (FK hK hu)
 refine L3 (N := 500001) hf ef (fun p hp => ?_) rfl (fun p hp j hj => s0 j ?_) (fun p hp h => ?_) (Sc hK) (M1 ec us) (fun p hp k hk => s0 k (hfr p hp k hk))
 ·simp only [Qi0, QiZ, or_false] at hp
  rcases hp with rfl | rfl | rfl
  ·exact hc
  ·exact hu
  ·exact hg
 ·simp only [Qi0, QiZ, or_false] at hp
  rcases hp with rfl | rfl | rfl
  ·simp [Box.ids] at hj
  ·exact .inr (.inr (.inr (Hf hj)))
  ·simp [Box.ids, gB] at hj
 ·rcases hB p hp h with e | e
  ·rw [e]; exact Q3 (Q3 Q5)
  ·rw [e]; exact Q5
theorem QfU {u : UR} (hf : Zd l fr = fr1) (ef : fr1 = fr') (hK : Yd us) (huk : u.k = 500001 + us.length) (hc : lk B (500001 + us.length) = some ⟨u.cs.map dCR, 8, ec, true⟩) (hu : lk B 500000 = some ⟨(us ++ [u]).map dUR, 3, eu, false⟩) (hg : lk B kg = some (gB L J eg)) (hB : ∀ p ∈ B, 500001 <= p.1 -> p.1 = kg \/ p.1 = 500001 + us.length) (hkg : 1000000 <= kg) (hlen : us.length <= 100)
  (hfr : ∀ p ∈ fr', ∀ k ∈ p.2.ids, k = 500000 \/ k = kg \/ ∃ v ∈ us ++ [u], k = v.k) : St.le ⟨fr, B ++ fbx ec us⟩ ⟨fr', [(500000, ⟨(us ++ [u]).map dUR, 3, eu, false⟩), (kg, gB L J eg)] ++ fbx ec (us ++ [u])⟩ := by
 have hK1 := TL hK huk
 have mv := fun k => QbS (ec := ec) hK (kg := kg) (x := ⟨(us ++ [u]).map dUR, 3, eu, false⟩) (y := gB L J eg) huk Wa k
 have s0 : ∀ k, (k = 500000 \/ k = kg \/ ∃ v ∈ us ++ [u], k = v.k) -> (lk ([(u.k, (⟨u.cs.map dCR, 8, ec, true⟩ : Box)), (500000, (⟨(us ++ [u]).map dUR, 3, eu, false⟩ : Box)), (kg, gB L J eg)] ++ fbx ec us) k).isSome = true := fun k hk => by
  show (lk ((u.k, _) :: (500000, _) :: (kg, _) :: fbx ec us) k).isSome = true
  rw [mv]
  rcases hk with rfl | rfl | ⟨v, hv, rfl⟩
  ·exact Q5
  ·exact Q3 Q5
  ·exact Q3 (Q3 (FK hK1 hv))
 refine le_trans (L3 (N := 500001) (A' := [(u.k, ⟨u.cs.map dCR, 8, ec, true⟩), (500000, ⟨(us ++ [u]).map dUR, 3, eu, false⟩), (kg, gB L J eg)]) hf ef (fun p hp => ?_) rfl (fun p hp j hj => s0 j ?_) (fun p hp h => ?_) (Sc hK) (M1 ec us) (fun p hp k hk => s0 k (hfr p hp k hk))) (L2 ⟨fun _ => rfl, mv⟩)
 ·simp only [Qi0, QiZ, or_false] at hp
  rcases hp with rfl | rfl | rfl
  ·rw [huk]; exact hc
  ·exact hu
  ·exact hg
 ·simp only [Qi0, QiZ, or_false] at hp
  rcases hp with rfl | rfl | rfl
  ·simp [Box.ids] at hj
  ·exact .inr (.inr (Hf hj))
  ·simp [Box.ids, gB] at hj
 ·rcases hB p hp h with e | e
  ·rw [e]; exact Q3 (Q3 Q5)
  ·rw [e, <- huk]; exact Q5
end
def u0 (v : Vr) : UR := ⟨[], [], 500001, [zr v (-1)]⟩
def v0 : Vr := ⟨0, 0, 0, [], []⟩
theorem QcK {kg a b : Nat} (h : 1000000 <= kg) (ha : a < 1000000) (hb : b < 1000000) : XS a b kg = kg := by
 unfold XS; rw [if_neg Wa, if_neg Wa]
theorem Qaw {l : List Nat} {fr fr1 fr' : QiW} {kg eg eu ec : Nat} {L : List Int} {I : Int} (hkg : 1000000 <= kg) (hf : Zd l fr = fr1) (ef : fr1.map (fun p => (p.1, (p.2.ren (XS 18 500000)).ren (XS 16 500001))) = fr') :
  St.le ⟨fr, [(18, ⟨[[.str [], .str [], .osl 16 1]], 3, eu, false⟩), (16, ⟨[dCR (zr v0 (-1))], 8, ec, true⟩), (kg, gB L I eg)]⟩ ⟨fr', [(500000, ⟨[u0 v0].map dUR, 3, eu, false⟩), (kg, gB L I eg)] ++ fbx ec [u0 v0]⟩ := by
 subst hf ef
 have k1 := QcK (a := 18) (b := 500000) hkg Wg Wg
 have k2 := QcK (a := 16) (b := 500001) hkg Wg Wg
 refine le_trans (HR l fr _) (le_trans (Pe 18 500000 Wg Wg _) (le_trans (Pe 16 500001 Wg Wg _) ?_))
 have hH : ∀ k, lk ([(500000, (⟨[u0 v0].map dUR, 3, eu, false⟩ : Box)), (kg, gB L I eg)] ++ fbx ec [u0 v0]) k = lk (Hv (XS 16 500001) (Hv (XS 18 500000) [(18, ⟨[[.str [], .str [], .osl 16 1]], 3, eu, false⟩), (16, ⟨[dCR (zr v0 (-1))], 8, ec, true⟩), (kg, gB L I eg)])) k := fun k => by
  have e : Hv (XS 16 500001) (Hv (XS 18 500000) [(18, (⟨[[.str [], .str [], .osl 16 1]], 3, eu, false⟩ : Box)), (16, ⟨[dCR (zr v0 (-1))], 8, ec, true⟩), (kg, gB L I eg)]) = [(500000, ⟨[u0 v0].map dUR, 3, eu, false⟩), (500001, ⟨[dCR (zr v0 (-1))], 8, ec, true⟩), (kg, gB L I eg)] := by
   simp only [Hv, List.map_cons, List.map_nil, k1, k2]; rfl
  rw [e]
  show lk ((500000, _) :: (kg, _) :: (500001, _) :: []) k = _
  rw [Qm, Qm, Qm, Qm, Qm, Qm]
  by_cases h1 : 500000 = k
  ·rw [if_pos h1, if_pos h1]
  ·rw [if_neg h1, if_neg h1]
   by_cases h2 : kg = k
   ·rw [if_pos h2, if_neg Wa, if_pos h2]
   ·rw [if_neg h2, if_neg h2]; rfl
 refine K1 (by simp only [St.ren, List.map_map]; rfl) fun k => (hH k).symm
def names5 : List (List UInt8) := [[97, 110, 116], [98, 101, 101], [99, 111, 119], [100, 111, 103], [101, 108, 107]]
theorem Zc : names5.length = 5 := rfl
theorem QeJ : versions.length = 4 := rfl
theorem QfW {i : Nat} (h : i < versions.length) : PQ versions[i] := by
 have := Dp _ (Qi3 h)
 exact ⟨Qjh this.1 Wa, Qjh this.2 Wa⟩
structure UnitsIn (us : List UR) : Prop where
 keys : Yd us
 fresh : ∀ u ∈ us, QeZ u
 first : ∃ z rest, us = ⟨[], [], 500001, [z]⟩ :: rest
theorem UnitsIn.zero : UnitsIn [u0 v0] := by
 refine ⟨fun j hj => ?_, fun u hu => ?_, ⟨zr v0 (-1), [], rfl⟩⟩
 ·have : j = 0 := by simp at hj; exact hj
  subst this; rfl
 ·simp only [Qi7] at hu; subst hu
  refine ⟨by simp [u0], fun z hz => ?_⟩
  simp only [u0, Qi7] at hz; subst hz
  exact ⟨v0, -1, rfl, ⟨Qja _, Qja _⟩⟩
theorem UnitsIn.snoc {us : List UR} (h : UnitsIn us) {n f : List UInt8} {cs : List CR} (hc : cs.length <= 4) (hz : ∀ z ∈ cs, ∃ v sh, z = zr v sh /\ PQ v) : UnitsIn (us ++ [⟨n, f, 500001 + us.length, cs⟩]) := by
 obtain ⟨h1, h2, z, rest, h3⟩ := h
 refine ⟨TL h1 rfl, fun u hu => ?_, z, rest ++ [⟨n, f, 500001 + us.length, cs⟩], by rw [h3]; rfl⟩
 rcases Qi9.1 hu with hu | hu
 ·exact h2 u hu
 ·simp only [Qi7] at hu; subst hu; exact ⟨hc, hz⟩
def CsIn (n : Nat) (cs : List CR) : Prop := cs.length <= n /\ ∀ z ∈ cs, ∃ v sh, z = zr v sh /\ PQ v
theorem CsIn.nil (n : Nat) : CsIn n [] := ⟨Qja _, by simp⟩
theorem CsIn.keep {n : Nat} {cs : List CR} (h : CsIn n cs) : CsIn (n + 1) cs := ⟨Nat.le_succ_of_le h.1, h.2⟩
theorem CsIn.snoc {n : Nat} {cs : List CR} (h : CsIn n cs) {v : Vr} (hv : PQ v) {sh : Int} : CsIn (n + 1) (cs ++ [zr v sh]) := by
 refine ⟨by simp; exact h.1, fun z hz => ?_⟩
 rcases Qi9.1 hz with hz | hz
 ·exact h.2 z hz
 ·simp only [Qi7] at hz; subst hz; exact ⟨v, sh, rfl, hv⟩
theorem CsIn.at {n : Nat} {cs : List CR} (h : CsIn n cs) {i : Nat} (hi : i < cs.length) : PQ cs[i].v := by
 obtain ⟨v, sh, e, hv⟩ := h.2 _ (Qi3 hi)
 rw [e]; exact hv
theorem D8 {α : Type} {k : Nat} {v v' : α} {l : List (Nat × α)} (h : v = v') : lk ((k, v) :: l) k = some v' := by rw [QF, h]
theorem Lg {us : List UR} {e et : Nat} (h : Yd us) : Box.scrub (500001 + us.length) ⟨us.map dUR, e, et, false⟩ = ⟨us.map dUR, e, et, false⟩ := Lf fun hk => by
 obtain ⟨u, hu, e⟩ := Hf hk
 have := KZ h hu
 omega
theorem CE {us : List UR} (h : Yd us) {n f : List UInt8} {k m : Nat} (hk : k ≠ 500000) : ∀ r ∈ us.map dUR ++ [[D.str n, D.str f, D.osl k m]], ∀ d ∈ r, 500000 ∉ d.sid := fun r hr d hd => by
 rcases Qi9.1 hr with hr | hr
 ·exact QeI h r hr d hd
 ·simp only [Qi7] at hr; subst hr
  simp only [Qi0, QiZ, or_false] at hd
  rcases hd with rfl | rfl | rfl <;> simp [D.sid]
  exact Ne.symm hk
theorem QeH {us : List UR} {u : UR} : (us ++ [u]).map dUR = us.map dUR ++ [dUR u] := by simp
theorem QdY {cs : List CR} {z : CR} : (cs ++ [z]).map dCR = cs.map dCR ++ [dCR z] := by simp
theorem KI {us : List UR} (h : Yd us) {kg eu ec : Nat} {g1 g2 g3 : Box} (hkg : 1000000 <= kg) (h1 : g1.pr = true) (h2 : g2.pr = true) (hlen : us.length <= 100) :
  (∀ k, 1000000 <= k -> (lk [(kg, g1)] k).isSome = true -> (lk (((500000, (⟨us.map dUR, 3, eu, false⟩ : Box)) :: fbx ec us) ++ [(kg, g2), (kg, g1)]) k).isSome = true) /\
  (∀ k b, lk (((500000, (⟨us.map dUR, 3, eu, false⟩ : Box)) :: fbx ec us) ++ [(kg, g2), (kg, g1)]) k = some b -> 500000 <= k /\ ∀ j ∈ b.ids, (lk (((500000, (⟨us.map dUR, 3, eu, false⟩ : Box)) :: fbx ec us) ++ [(kg, g2), (kg, g1)]) j).isSome = true) /\
  (∀ k b, lk (((500000, (⟨us.map dUR, 3, eu, false⟩ : Box)) :: fbx ec us) ++ [(kg, g2), (kg, g1)]) k = some b -> lk ((kg, g2) :: (500000, ⟨us.map dUR, 3, eu, false⟩) :: (kg, g3) :: fbx ec us) k = some b) := by
 have cs : ∀ k b, lk (((500000, (⟨us.map dUR, 3, eu, false⟩ : Box)) :: fbx ec us) ++ [(kg, g2), (kg, g1)]) k = some b -> (k = 500000 /\ b = ⟨us.map dUR, 3, eu, false⟩) \/ (∃ u ∈ us, k = u.k /\ b = ⟨u.cs.map dCR, 8, ec, true⟩) \/ (k = kg /\ b = g2) := fun k b hk => by
  rw [List.cons_append, Qm] at hk
  split at hk
  ·rename_i e; cases hk; exact .inl ⟨e.symm, rfl⟩
  ·rw [ZV] at hk
   cases hh : lk (fbx ec us) k with
   | some v =>
    rw [hh] at hk; cases hk
    exact .inr (.inl (RA hh))
   | none =>
    rw [hh] at hk
    simp only at hk
    rw [Qm] at hk
    split at hk
    ·rename_i e; cases hk; exact .inr (.inr ⟨e.symm, rfl⟩)
    ·rename_i e
     rw [Qm, if_neg e] at hk; cases hk
 refine ⟨fun k _ hk => ?_, fun k b hk => ?_, fun k b hk => ?_⟩
 ·obtain ⟨b, hb⟩ := Qi4.1 hk
  obtain ⟨rfl, _⟩ := Jh hb
  exact R3 Q5
 ·rcases cs k b hk with ⟨rfl, rfl⟩ | ⟨u, hu, rfl, rfl⟩ | ⟨rfl, rfl⟩
  ·refine ⟨Nat.le_refl _, fun j hj => ?_⟩
   obtain ⟨u, hu, rfl⟩ := Hf hj
   rw [List.cons_append]
   refine Q3 ?_
   obtain ⟨b, hb⟩ := Qi4.1 (FK (ec := ec) h hu)
   rw [Yy hb]; rfl
  ·have := KZ h hu
   exact ⟨Wa, fun j hj => by simp [Box.ids] at hj⟩
  ·exact ⟨Wa, fun j hj => by rw [Jp h2] at hj; cases hj⟩
 ·rcases cs k b hk with ⟨rfl, rfl⟩ | ⟨u, hu, rfl, rfl⟩ | ⟨rfl, rfl⟩
  ·exact Qo Wa QF
  ·have hm := KZ h hu
   obtain ⟨j, hj, rfl⟩ := Qjk hu
   refine Qo Wa (Qo Wa (Qo Wa ?_))
   rw [h j hj]; exact B4 h hj
  ·exact QF
end M25
namespace M25
open Go Go.Abs M3
/-! ### A world under way: one candidate after the other is filled -/
def PureC (z : CR) : Prop := z.x.sid = [] /\ z.y.sid = [] /\ z.z.sid = []
theorem PureC.all {z : CR} (h : PureC z) : ∀ d ∈ dCR z, d.sid = [] := fun d hd => by
 simp only [dCR, Qi0, QiZ, or_false] at hd
 rcases hd with rfl | rfl | rfl | rfl | rfl | rfl | rfl | rfl
 ·rfl
 ·rfl
 ·rfl
 ·rfl
 ·rfl
 ·exact h.1
 ·exact h.2.1
 ·exact h.2.2
def NH (u : UR) (k : Nat) (z : CR) : UR := { u with cs := u.cs.set k z }
def GC (us : List UR) (i k : Nat) (z : CR) : List UR := us.modify i fun u => NH u k z
theorem ZE (us : List UR) (i k : Nat) (z : CR) : (GC us i k z).length = us.length := List.length_modify ..
theorem CA (us : List UR) (i k : Nat) (z : CR) : (GC us i k z).map dUR = us.map dUR := by
 refine List.ext_getElem (by simp [GC]) fun j h1 h2 => ?_
 simp only [List.getElem_map, GC, List.getElem_modify]
 split <;> simp [dUR, NH]
theorem Kv {us : List UR} {i k : Nat} {z : CR} {j : Nat} (h : j < us.length) : (GC us i k z)[j]'(by rw [ZE]; exact h) = if i = j then NH us[j] k z else us[j] := by
 simp only [GC, List.getElem_modify]
theorem Nb {us : List UR} {i k : Nat} {z : CR} (h : Yd us) : Yd (GC us i k z) := fun j hj => by
 rw [ZE] at hj
 rw [Kv hj]
 split
 ·exact h j hj
 ·exact h j hj
def wA (us : List UR) (eu ec eg : Nat) (L : List Int) (J : Int) (b4 : Box) : QiV := [(500000, ⟨us.map dUR, 3, eu, false⟩), (12, gB L J eg), (4, b4)] ++ fbx ec us
theorem Hg {us : List UR} {eu ec eg : Nat} {L : List Int} {J : Int} {b4 : Box} (h : Yd us) {k : Nat} {b : Box} (hk : lk (wA us eu ec eg L J b4) k = some b) : (k = 500000 /\ b = ⟨us.map dUR, 3, eu, false⟩) \/ (k = 12 /\ b = gB L J eg) \/ (k = 4 /\ b = b4) \/ ∃ j, ∃ hj : j < us.length, k = 500001 + j /\ b = ⟨us[j].cs.map dCR, 8, ec, true⟩ := by
 unfold wA at hk
 rcases Pj hk with hk | ⟨_, hk⟩
 ·simp only [Qi0, QiZ, or_false, Prod.mk.injEq] at hk
  rcases hk with h | h | h
  ·exact .inl h
  ·exact .inr (.inl h)
  ·exact .inr (.inr (.inl h))
 ·obtain ⟨u, hu, e1, e2⟩ := RA hk
  obtain ⟨j, hj, rfl⟩ := Qjk hu
  exact .inr (.inr (.inr ⟨j, hj, e1.trans (h j hj), e2⟩))
section
variable {us : List UR} {eu ec eg : Nat} {L : List Int} {J : Int} {b4 : Box}
theorem MC : lk (wA us eu ec eg L J b4) 500000 = some ⟨us.map dUR, 3, eu, false⟩ := rfl
theorem N1 : lk (wA us eu ec eg L J b4) 12 = some (gB L J eg) := rfl
theorem PV : lk (wA us eu ec eg L J b4) 4 = some b4 := rfl
theorem Fk (h : Yd us) {j : Nat} (hj : j < us.length) : lk (wA us eu ec eg L J b4) (500001 + j) = some ⟨us[j].cs.map dCR, 8, ec, true⟩ := by
 show lk ((500000, _) :: (12, _) :: (4, _) :: fbx ec us) _ = _
 rw [Qm, if_neg Wa, Qm, if_neg Wa, Qm, if_neg Wa]
 exact B4 h hj
theorem Z2 (h : Yd us) {k : Nat} (h1 : k ≠ 500000) (h2 : k ≠ 12) (h3 : k ≠ 4) (h4 : k < 500001 \/ 500001 + us.length <= k) : lk (wA us eu ec eg L J b4) k = none := by
 show lk ((500000, _) :: (12, _) :: (4, _) :: fbx ec us) _ = _
 rw [Qm, if_neg (Ne.symm h1), Qm, if_neg (Ne.symm h2), Qm, if_neg (Ne.symm h3)]
 exact Y2 h h4
theorem Dq (h : Yd us) {k : Nat} (hk : k = 500000 \/ k = 12 \/ k = 4 \/ ∃ u ∈ us, k = u.k) : (lk (wA us eu ec eg L J b4) k).isSome = true := by
 rcases hk with rfl | rfl | rfl | ⟨u, hu, rfl⟩
 ·rfl
 ·rfl
 ·rfl
 ·obtain ⟨j, hj, rfl⟩ := Qjk hu
  rw [h j hj, Fk h hj]; rfl
theorem JL (h : Yd us) (h4 : b4.pr = true) : Closed (wA us eu ec eg L J b4) := fun k b hk j hj => by
 rcases Hg h hk with ⟨rfl, rfl⟩ | ⟨rfl, rfl⟩ | ⟨rfl, rfl⟩ | ⟨i, hi, rfl, rfl⟩
 ·exact Dq h (.inr (.inr (.inr (Hf hj))))
 ·simp [Box.ids, gB] at hj
 ·rw [Jp h4] at hj; cases hj
 ·simp [Box.ids] at hj
theorem Ny {α : Type} : ∀ {l : List α} {k : Nat} {a x : α}, x ∈ l.set k a -> x = a \/ x ∈ l
 | [], k, a, x, h => by simp at h
 | b :: l, 0, a, x, h => by
  simp only [List.set_cons_zero, Qi0] at h ⊢
  rcases h with h | h
  ·exact .inl h
  ·exact .inr (.inr h)
 | b :: l, k + 1, a, x, h => by
  simp only [List.set_cons_succ, Qi0] at h ⊢
  rcases h with h | h
  ·exact .inr (.inl h)
  ·rcases Ny h with h | h
   ·exact .inl h
   ·exact .inr (.inr h)
theorem Pd {l : List Nat} {fr fr1 fr' : QiW} {H : QiV} {i k : Nat} {row : List D} {p : Bool} (kk : Nat) (z' : CR) (hf : Zd l fr = fr1) (ef : fr1 = fr') (hK : Yd us) (hi : i < us.length) (hk : k < us[i].cs.length)
  (hKi : lk H (500001 + i) = some ⟨(us[i].cs.map dCR).set k row, 8, ec, p⟩) (hp : p = true -> row.map (D.fzS H (· == kk)) = row) (hrow : (row.map (D.fzS H (· == kk))).map D.canS = dCR z') (hoth : ∀ z ∈ us[i].cs, PureC z) (hz : PureC z')
  (hF : ∀ j, ∀ hj : j < us.length, j ≠ i -> lk H (500001 + j) = some ⟨us[j].cs.map dCR, 8, ec, true⟩) (hu : lk H 500000 = some ⟨us.map dUR, 3, eu, false⟩) (hg : lk H 12 = some (gB L J eg)) (h4 : lk H 4 = some b4) (hb4 : b4.pr = true) (hkk : kk < 500000 /\ kk ≠ 12 /\ kk ≠ 4) (hsm : ∀ j, 1000000 <= j -> lk H j = none) (hlen : us.length <= 100)
  (hfr : ∀ p ∈ fr', ∀ j ∈ p.2.ids, j = 500000 \/ j = 12 \/ j = 4 \/ ∃ u ∈ us, j = u.k) : St.le ⟨fr, H⟩ ⟨fr', wA (GC us i k z') eu ec eg L J b4⟩ := by
 subst hf ef
 have nokk : ∀ j, (j = 500000 \/ j = 12 \/ j = 4 \/ ∃ u ∈ us, j = u.k) -> j ≠ kk := fun j hj e => by
  subst e
  rcases hj with rfl | rfl | rfl | ⟨u, hu, rfl⟩
  ·omega
  ·exact hkk.2.1 rfl
  ·exact hkk.2.2 rfl
  ·have := (KZ hK hu).1; omega
 have eqkk : ∀ j, j ≠ kk -> (j == kk) = false := fun j hj => by simp [hj]
 have some1 : ∀ b j, (j = 500000 \/ j = 12 \/ j = 4 \/ ∃ u ∈ us, j = u.k) -> (lk ((500001 + i, b) :: wA us eu ec eg L J b4) j).isSome = true := fun b j hj => Q3 (Dq hK hj)
 have rowsz : ∀ r ∈ us[i].cs.map dCR, r.map (D.fzS H (· == kk)) = r := fun r hr => by
  obtain ⟨z, hzm, rfl⟩ := Qjc.1 hr
  exact Yp fun d hd => Np fun j hj => by rw [(hoth z hzm).all d hd] at hj; cases hj
 have mapz : ((us[i].cs.map dCR).set k row).map (fun r => r.map (D.fzS H (· == kk))) = (us[i].cs.map dCR).set k (row.map (D.fzS H (· == kk))) := by
  refine List.ext_getElem Wd fun j h1 h2 => ?_
  simp only [List.getElem_map, List.getElem_set]
  split
  ·rfl
  ·exact rowsz _ (List.mem_map_of_mem (Qi3 _))
 refine le_trans (HR l fr H) (le_trans (Qc8 kk (H' := (500001 + i, ⟨(us[i].cs.map dCR).set k (row.map (D.fzS H (· == kk))), 8, ec, p⟩) :: wA us eu ec eg L J b4) Wa (fr' := Zd l fr) (fun t d h => ⟨d, h, TE fun j hj => eqkk j (nokk j (hfr (t, d) (ZP h) j hj))⟩) (fun j b h => ?_) (fun t d h j hj => some1 _ j (hfr (t, d) (ZP h) j hj)) (fun j b h j2 hj2 => ?_) fun j hj hs => ?_) ?_)
 ·rw [Qm] at h
  split at h
  ·rename_i e; cases h; subst e
   refine ⟨Wa, _, hKi, ?_⟩
   cases p with
   | true => rw [hp rfl]; rfl
   | false => show Box.mk _ _ _ _ = _; rw [mapz]
  ·rename_i e
   rcases Hg hK h with ⟨rfl, rfl⟩ | ⟨rfl, rfl⟩ | ⟨rfl, rfl⟩ | ⟨i2, hi2, rfl, rfl⟩
   ·refine ⟨Wa, _, hu, XV (.inr fun j hj => eqkk j (nokk j (.inr (.inr (.inr (Hf hj))))))⟩
   ·exact ⟨Ne.symm hkk.2.1, _, hg, rfl⟩
   ·exact ⟨Ne.symm hkk.2.2, _, h4, XV (.inl hb4)⟩
   ·exact ⟨Wa, _, hF i2 hi2 (fun e2 => e Wa), rfl⟩
 ·rw [Qm] at h
  split at h
  ·cases h
   cases hpp : p with
   | true => rw [Jp hpp] at hj2; cases hj2
   | false =>
   simp only [Box.ids, hpp, Qi6, if_false, Qi5] at hj2
   obtain ⟨r, hr, d, hd, hj3⟩ := hj2
   rcases Ny hr with rfl | hr
   ·have : (d.canS).sid = [] := hz.all _ (by rw [<- hrow]; exact List.mem_map_of_mem hd)
    rw [Gl] at this
    rw [this] at hj3; cases hj3
   ·obtain ⟨z, hzm, rfl⟩ := Qjc.1 hr
    rw [(hoth z hzm).all d hd] at hj3; cases hj3
  ·exact Q3 (JL hK hb4 j b h j2 hj2)
 ·rw [hsm j hj] at hs; cases hs
 ·refine le_trans (Qb6 k QF) (le_trans (L1 QF (fun e => ?_) (fun r hr d hd => ?_)) (K1 rfl fun j => ?_))
  ·have := congrArg List.length e
   simp only [List.length_modify, List.length_set, List.length_map, List.length_nil] at this
   omega
  ·rcases KD hr with h | ⟨y, hy, rfl⟩
   ·rcases Ny h with rfl | h
    ·have : (d.canS).sid = [] := hz.all _ (by rw [<- hrow]; exact List.mem_map_of_mem hd)
     rwa [Gl] at this
    ·obtain ⟨z, hzm, rfl⟩ := Qjc.1 h
     exact (hoth z hzm).all d hd
   ·obtain ⟨d0, hd0, rfl⟩ := Qjc.1 hd
    rw [Gl]
    rcases Ny hy with rfl | h
    ·have : (d0.canS).sid = [] := hz.all _ (by rw [<- hrow]; exact List.mem_map_of_mem hd0)
     rwa [Gl] at this
    ·obtain ⟨z, hzm, rfl⟩ := Qjc.1 h
     exact (hoth z hzm).all d0 hd0
  ·have erows : ((us[i].cs.map dCR).set k (row.map (D.fzS H (· == kk)))).modify k (fun r => r.map D.canS) = ((us[i].cs.set k z').map dCR) := by
    refine List.ext_getElem Wd fun m h1 h2 => ?_
    simp only [List.getElem_modify, List.getElem_set, List.getElem_map]
    by_cases e : k = m
    ·subst e
     simp only [if_true]
     exact hrow
    ·simp only [if_neg e]
   have hK' := Nb (i := i) (k := k) (z := z') hK
   by_cases e : 500001 + i = j
   ·subst e
    rw [QF, Fk hK' (by rw [ZE]; exact hi)]
    simp only [Kv hi, if_true, erows]; rfl
   ·rw [Qm, if_neg e, Qm, if_neg e, Qm, if_neg e]
    cases h : lk (wA us eu ec eg L J b4) j with
    | none =>
     cases h' : lk (wA (GC us i k z') eu ec eg L J b4) j with
     | none => rfl
     | some b =>
      have : (lk (wA us eu ec eg L J b4) j).isSome = true := by
       rcases Hg hK' h' with ⟨rfl, _⟩ | ⟨rfl, _⟩ | ⟨rfl, _⟩ | ⟨m, hm, rfl, _⟩
       ·rfl
       ·rfl
       ·rfl
       ·rw [ZE] at hm; rw [Fk hK hm]; rfl
      rw [h] at this; cases this
    | some b =>
     rcases Hg hK h with ⟨rfl, rfl⟩ | ⟨rfl, rfl⟩ | ⟨rfl, rfl⟩ | ⟨m, hm, rfl, rfl⟩
     ·rw [MC, CA]
     ·rfl
     ·rfl
     ·rw [Fk hK' (by rw [ZE]; exact hm)]
      simp only [Kv hm, if_neg (Wa : ¬ i = m)]
end
theorem FS : ∀ {H : QiV} {j : Nat}, j ∈ H.map Prod.fst -> (lk H j).isSome = true
 | [], _, h => by cases h
 | (k, b) :: H, j, h => by
  by_cases e : k = j
  ·subst e; exact Q5
  ·refine Q3 (FS ?_)
   simp only [List.map_cons, Qi0] at h
   exact h.resolve_left (Ne.symm e)
theorem QcO {us : List UR} (h : Yd us) {i : Nat} (hi : i < us.length) : (us.map dUR)[((i : Nat) : Int).toNat]? = some [.str us[i].n, .str us[i].f, .osl (500001 + i) us[i].cs.length] := by
 rw [Int.toNat_natCast, List.getElem?_map, List.getElem?_eq_getElem hi, Option.map_some, dUR, h i hi]
theorem Qgn {cs : List CR} {k : Nat} (hk : k < cs.length) : (cs.map dCR)[((k : Nat) : Int).toNat]? = some (dCR cs[k]) := by
 rw [Int.toNat_natCast, List.getElem?_map, List.getElem?_eq_getElem hk]; rfl
theorem Dm {us : List UR} {eu ec eg : Nat} {L : List Int} {J : Int} {b4 g1 : Box} (h : Yd us) (k : Nat) : lk (((500000, (⟨us.map dUR, 3, eu, false⟩ : Box)) :: fbx ec us) ++ ([(12, gB L J eg)] ++ [(12, g1), (4, b4)])) k = lk (wA us eu ec eg L J b4) k := by
 show lk ((500000, _) :: (fbx ec us ++ [(12, gB L J eg), (12, g1), (4, b4)])) k = lk ((500000, _) :: (12, _) :: (4, _) :: fbx ec us) k
 rw [Qm, Qm]
 split
 ·rfl
 ·rw [ZV]
  cases hh : lk (fbx ec us) k with
  | some v =>
   have := Sc h k v hh
   simp only
   rw [Qm, if_neg Wa, Qm, if_neg Wa, hh]
  | none =>
   simp only [Qm, hh]
   by_cases e : 12 = k
   ·rw [if_pos e, if_pos e]
   ·rw [if_neg e, if_neg e, if_neg e]; rfl
theorem CH {us : List UR} {eu ec eg : Nat} {L : List Int} {J : Int} {b4 : Box} (h : Yd us) (hv : ∀ y ∈ us, y.cs.length <= 16 /\ ∀ z ∈ y.cs, PQ z.v) : Fam (wA us eu ec eg L J b4) 12 500000 eu ec us := by
 refine ⟨by decide, ⟨false, rfl⟩, fun y hy => ?_, hv⟩
 obtain ⟨j, hj, rfl⟩ := Qjk hy
 refine ⟨by rw [h j hj]; omega, true, by rw [h j hj]; exact Fk h hj⟩
/-! ### Filled candidates -/
def QdH (n : Nat) (x : WantT) : Prop := 0 <= x.u /\ x.u < n /\ SetOk x.s
theorem WantIn.w {n : Nat} {x : WantT} (h : WantIn n x) : QdH n x := ⟨by have := h.1; omega, h.2.1, h.2.2⟩
structure JO (n : Nat) (c : CandT) : Prop where
 v : PQ c.v
 nl : c.ns.length <= 10
 nr : ∀ r ∈ c.ns, r.length <= 2 /\ ∀ x ∈ r, QdH n x
 bl : c.bs.length <= 1
 bw : ∀ x ∈ c.bs, QdH n x
def S7 (c : CandT) : CR := ⟨c.v, .int .i64 c.sh, Q9 c.ns, Q8 c.bs⟩
def DoneC (n : Nat) (z : CR) : Prop := ∃ c, z = S7 c /\ JO n c
def FreshC (z : CR) : Prop := ∃ v sh, z = zr v sh /\ PQ v
theorem DoneC.pure {n : Nat} {z : CR} (h : DoneC n z) : PureC z := by obtain ⟨c, rfl, _⟩ := h; exact ⟨rfl, rfl, rfl⟩
theorem FreshC.pure {z : CR} (h : FreshC z) : PureC z := by obtain ⟨v, sh, rfl, _⟩ := h; exact ⟨rfl, rfl, rfl⟩
theorem DoneC.vr {n : Nat} {z : CR} (h : DoneC n z) : PQ z.v := by obtain ⟨c, rfl, q⟩ := h; exact q.v
theorem FreshC.vr {z : CR} (h : FreshC z) : PQ z.v := by obtain ⟨v, sh, rfl, q⟩ := h; exact q
structure Prog (n : Nat) (us : List UR) (i k : Nat) : Prop where
 keys : Yd us
 len : us.length = n /\ 2 <= n /\ n <= 11
 cl : ∀ u ∈ us, u.cs.length <= 4
 done : ∀ j, ∀ hj : j < us.length, ∀ m, ∀ hm : m < us[j].cs.length, (j < i \/ (j = i /\ m < k)) -> DoneC n us[j].cs[m]
 fresh : ∀ j, ∀ hj : j < us.length, ∀ m, ∀ hm : m < us[j].cs.length, ¬ (j < i \/ (j = i /\ m < k)) -> FreshC us[j].cs[m]
theorem Prog.pure {n : Nat} {us : List UR} {i k : Nat} (h : Prog n us i k) {j : Nat} (hj : j < us.length) : ∀ z ∈ us[j].cs, PureC z /\ PQ z.v := fun z hz => by
 obtain ⟨m, hm, rfl⟩ := Qjk hz
 by_cases hd : j < i \/ (j = i /\ m < k)
 ·exact ⟨(h.done j hj m hm hd).pure, (h.done j hj m hm hd).vr⟩
 ·exact ⟨(h.fresh j hj m hm hd).pure, (h.fresh j hj m hm hd).vr⟩
theorem Prog.fam {n : Nat} {us : List UR} {i k : Nat} (h : Prog n us i k) : ∀ y ∈ us, y.cs.length <= 16 /\ ∀ z ∈ y.cs, PQ z.v := fun y hy => by
 obtain ⟨j, hj, rfl⟩ := Qjk hy
 exact ⟨Qjh (h.cl _ hy) Wa, fun z hz => (h.pure hj z hz).2⟩
theorem Prog.put {n : Nat} {us : List UR} {i k : Nat} (h : Prog n us i k) (hi : i < us.length) (hk : k < us[i].cs.length) {z : CR} (hz : DoneC n z) : Prog n (GC us i k z) i (k + 1) := by
 have at' := fun (j : Nat) (hj : j < us.length) => Kv (i := i) (k := k) (z := z) hj
 refine ⟨Nb h.keys, by rw [ZE]; exact h.len, fun u hu => ?_, fun j hj m hm hd => ?_, fun j hj m hm hd => ?_⟩
 ·obtain ⟨j, hj, rfl⟩ := Qjk hu
  rw [ZE] at hj
  rw [at' j hj]
  split
  ·simp only [NH, List.length_set]; exact h.cl _ (Qi3 _)
  ·exact h.cl _ (Qi3 _)
 ·rw [ZE] at hj
  have e := at' j hj
  by_cases hij : i = j
  ·subst hij
   rw [if_pos rfl] at e
   have hm' : m < (NH us[i] k z).cs.length := by rw [<- e]; exact hm
   have e2 : (GC us i k z)[i].cs[m] = (NH us[i] k z).cs[m]'hm' := by congr 1; rw [e]
   rw [e2]
   simp only [NH, List.getElem_set]
   split
   ·exact hz
   ·simp only [NH, List.length_set] at hm'
    exact h.done i hi m hm' Wa
  ·rw [if_neg hij] at e
   have hm' : m < us[j].cs.length := by rw [<- e]; exact hm
   have e2 : (GC us i k z)[j].cs[m] = us[j].cs[m]'hm' := by congr 1; rw [e]
   rw [e2]; exact h.done j hj m hm' Wa
 ·rw [ZE] at hj
  have e := at' j hj
  by_cases hij : i = j
  ·subst hij
   rw [if_pos rfl] at e
   have hm' : m < (NH us[i] k z).cs.length := by rw [<- e]; exact hm
   have e2 : (GC us i k z)[i].cs[m] = (NH us[i] k z).cs[m]'hm' := by congr 1; rw [e]
   rw [e2]
   simp only [NH, List.length_set] at hm'
   simp only [NH, List.getElem_set]
   rw [if_neg Wa]
   exact h.fresh i hi m hm' Wa
  ·rw [if_neg hij] at e
   have hm' : m < us[j].cs.length := by rw [<- e]; exact hm
   have e2 : (GC us i k z)[j].cs[m] = us[j].cs[m]'hm' := by congr 1; rw [e]
   rw [e2]; exact h.fresh j hj m hm' Wa
theorem Prog.next {n : Nat} {us : List UR} {i k : Nat} (h : Prog n us i k) (hi : i < us.length) (hk : us[i].cs.length <= k) : Prog n us (i + 1) 0 := by
 refine ⟨h.keys, h.len, h.cl, fun j hj m hm hd => h.done j hj m hm ?_, fun j hj m hm hd => h.fresh j hj m hm Wa⟩
 by_cases e : j = i
 ·subst e; exact .inr ⟨rfl, Wa⟩
 ·exact .inl Wa
theorem Prog.again {n : Nat} {us : List UR} {i k : Nat} (h : Prog n us i (k + 1)) (hi : i < us.length) (hk : k < us[i].cs.length) {z : CR} (hz : DoneC n z) : Prog n (GC us i k z) i (k + 1) := by
 have at' := fun (j : Nat) (hj : j < us.length) => Kv (i := i) (k := k) (z := z) hj
 refine ⟨Nb h.keys, by rw [ZE]; exact h.len, fun u hu => ?_, fun j hj m hm hd => ?_, fun j hj m hm hd => ?_⟩
 ·obtain ⟨j, hj, rfl⟩ := Qjk hu
  rw [ZE] at hj
  rw [at' j hj]
  split
  ·simp only [NH, List.length_set]; exact h.cl _ (Qi3 _)
  ·exact h.cl _ (Qi3 _)
 ·rw [ZE] at hj
  have e := at' j hj
  by_cases hij : i = j
  ·subst hij
   rw [if_pos rfl] at e
   have hm' : m < (NH us[i] k z).cs.length := by rw [<- e]; exact hm
   have e2 : (GC us i k z)[i].cs[m] = (NH us[i] k z).cs[m]'hm' := by congr 1; rw [e]
   rw [e2]
   simp only [NH, List.getElem_set]
   split
   ·exact hz
   ·simp only [NH, List.length_set] at hm'
    exact h.done i hi m hm' Wa
  ·rw [if_neg hij] at e
   have hm' : m < us[j].cs.length := by rw [<- e]; exact hm
   have e2 : (GC us i k z)[j].cs[m] = us[j].cs[m]'hm' := by congr 1; rw [e]
   rw [e2]; exact h.done j hj m hm' Wa
 ·rw [ZE] at hj
  have e := at' j hj
  by_cases hij : i = j
  ·subst hij
   rw [if_pos rfl] at e
   have hm' : m < (NH us[i] k z).cs.length := by rw [<- e]; exact hm
   have e2 : (GC us i k z)[i].cs[m] = (NH us[i] k z).cs[m]'hm' := by congr 1; rw [e]
   rw [e2]
   simp only [NH, List.length_set] at hm'
   simp only [NH, List.getElem_set]
   rw [if_neg Wa]
   exact h.fresh i hi m hm' Wa
  ·rw [if_neg hij] at e
   have hm' : m < us[j].cs.length := by rw [<- e]; exact hm
   have e2 : (GC us i k z)[j].cs[m] = us[j].cs[m]'hm' := by congr 1; rw [e]
   rw [e2]; exact h.fresh j hj m hm' Wa
theorem Qav {l : List Nat} {fr fr1 fr' : QiW} {us : List UR} {eu ec eg e1 e3 : Nat} {L : List Int} {J : Int} {b4 bK : Box} {i : Nat} {x : WantT} (hf : Zd l fr = fr1) (ef : fr1 = fr') (hK : Yd us) (hi : i < us.length) (hb4 : b4.pr = true) (hbK : ∀ j ∈ bK.ids, j = 64)
  (hfr : ∀ p ∈ fr', ∀ j ∈ p.2.ids, j = 500000 \/ j = 12 \/ j = 4 \/ ∃ u ∈ us, j = u.k) :
  St.le ⟨fr, (500001 + i, bK) :: (64, ⟨[[.osl 63 1]], 1, e1, false⟩) :: (63, ⟨[Kp x], 3, e3, true⟩) :: wA us eu ec eg L J b4⟩ ⟨fr', (500001 + i, bK) :: (64, ⟨[[Q8 [x]]], 1, e1, true⟩) :: wA us eu ec eg L J b4⟩ := by
 subst hf ef
 have no63 : ∀ j, (j = 500000 \/ j = 12 \/ j = 4 \/ ∃ u ∈ us, j = u.k) -> j ≠ 63 := fun j hj e => by
  subst e
  rcases hj with h | h | h | ⟨u, hu, h⟩
  ·cases h
  ·cases h
  ·cases h
  ·have := (KZ hK hu).1; omega
 have eq63 : ∀ j, j ≠ 63 -> (j == 63) = false := fun j hj => by simp [hj]
 have up : ∀ b b' j, (lk (wA us eu ec eg L J b4) j).isSome = true -> (lk ((500001 + i, b) :: (64, b') :: wA us eu ec eg L J b4) j).isSome = true := fun b b' j hj => Q3 (Q3 hj)
 refine le_trans (HR l fr _) (le_trans (Qc8 63 (H' := (500001 + i, bK) :: (64, ⟨[[Q8 [x]]], 1, e1, false⟩) :: wA us eu ec eg L J b4) Wg (fr' := Zd l fr) (fun t d h => ⟨d, h, TE fun j hj => eq63 j (no63 j (hfr (t, d) (ZP h) j hj))⟩) (fun j b h => ?_) (fun t d h j hj => up _ _ j (Dq hK (hfr (t, d) (ZP h) j hj))) (fun j b h j2 hj2 => ?_) fun j hj hs => ?_) ?_)
 ·rw [Qm] at h
  split at h
  ·rename_i e; cases h; subst e
   refine ⟨Wa, _, QF, XV (.inr fun j hj => ?_)⟩
   rw [hbK j hj]; rfl
  ·rename_i e
   rw [Qm] at h
   split at h
   ·rename_i e2; cases h; subst e2
    refine ⟨by decide, _, Qo e QF, ?_⟩
    have h63 : lk ((500001 + i, bK) :: (64, (⟨[[.osl 63 1]], 1, e1, false⟩ : Box)) :: (63, ⟨[Kp x], 3, e3, true⟩) :: wA us eu ec eg L J b4) 63 = some ⟨[Kp x], 3, e3, true⟩ := Qo Wa (Qo Wg QF)
    simp only [Box.fz, Qi6, if_false, List.map_cons, List.map_nil, D.fzS, beq_self_eq_true, if_true, h63, List.length_singleton, and_self, Q8]
   ·rename_i e2
    have h2 : lk ((500001 + i, bK) :: (64, (⟨[[.osl 63 1]], 1, e1, false⟩ : Box)) :: (63, ⟨[Kp x], 3, e3, true⟩) :: wA us eu ec eg L J b4) j = some b := by
     have hj : j ≠ 63 := by
      rcases Hg hK h with ⟨rfl, _⟩ | ⟨rfl, _⟩ | ⟨rfl, _⟩ | ⟨m, _, rfl, _⟩ <;> omega
     exact Qo e (Qo e2 (Qo (Ne.symm hj) h))
    rcases Hg hK h with ⟨rfl, rfl⟩ | ⟨rfl, rfl⟩ | ⟨rfl, rfl⟩ | ⟨m, hm, rfl, rfl⟩
    ·exact ⟨by decide, _, h2, XV (.inr fun j hj => eq63 j (no63 j (.inr (.inr (.inr (Hf hj))))))⟩
    ·exact ⟨by decide, _, h2, rfl⟩
    ·exact ⟨by decide, _, h2, XV (.inl hb4)⟩
    ·exact ⟨Wa, _, h2, rfl⟩
 ·rw [Qm] at h
  split at h
  ·cases h
   rw [hbK j2 hj2]; exact Q3 Q5
  ·rw [Qm] at h
   split at h
   ·cases h; simp [Box.ids, D.sid, Q8] at hj2
   ·exact up _ _ j2 (JL hK hb4 j b h j2 hj2)
 ·by_cases e : 500001 + i = j
  ·subst e; exact Q5
  ·rw [Qm, if_neg e, Qm, if_neg Wa, Qm, if_neg Wa] at hs
   exact up _ _ j hs
 ·have h64 : lk ((500001 + i, bK) :: (64, (⟨[[Q8 [x]]], 1, e1, false⟩ : Box)) :: wA us eu ec eg L J b4) 64 = some ⟨[[Q8 [x]]], 1, e1, false⟩ := Qo Wa QF
  refine le_trans (L1 h64 Wd (by intro r hr d hd; simp only [Qi7] at hr; subst hr; simp only [Qi7] at hd; subst hd; rfl)) (K1 rfl fun j => ?_)
  by_cases e : 64 = j
  ·subst e; rw [QF, Qm, if_neg Wa, QF]
  ·by_cases eK : 500001 + i = j
   ·subst eK; rw [Qm, if_neg e, QF, QF]
   ·rw [Qm, if_neg e, Qm, if_neg eK, Qm, if_neg e, Qm, if_neg eK, Qm, if_neg e]
theorem BR {n : Nat} : ∀ {cs : List CR}, (∀ z ∈ cs, DoneC n z) -> ∃ l : List CandT, cs = l.map S7 /\ ∀ c ∈ l, JO n c
 | [], _ => ⟨[], rfl, by simp⟩
 | z :: cs, h => by
  obtain ⟨l, h1, h2⟩ := BR (cs := cs) fun y hy => h y (by simp [hy])
  obtain ⟨c, rfl, hc⟩ := h z Wd
  exact ⟨c :: l, by rw [h1]; rfl, fun y hy => by
   rcases Qi0.1 hy with rfl | hy
   ·exact hc
   ·exact h2 y hy⟩
def Qfb (n : Nat) (u : UR) (x : R0) : Prop := x.n = u.n /\ x.f = u.f /\ u.cs = x.cs.map S7 /\ ∀ c ∈ x.cs, JO n c
theorem BS {n : Nat} : ∀ {us : List UR}, (∀ u ∈ us, ∀ z ∈ u.cs, DoneC n z) -> ∃ w : Qz, w.length = us.length /\ ∀ j, ∀ h : j < us.length, ∀ h' : j < w.length, Qfb n us[j] w[j]
 | [], _ => ⟨[], rfl, fun j h => by simp at h⟩
 | u :: us, h => by
  obtain ⟨w, h1, h2⟩ := BS (us := us) fun y hy => h y (by simp [hy])
  obtain ⟨l, q1, q2⟩ := BR (h u Wd)
  refine ⟨⟨u.n, u.f, l⟩ :: w, by simp [h1], fun j hj hj' => ?_⟩
  cases j with
  | zero => exact ⟨rfl, rfl, q1, q2⟩
  | succ j => simp only [List.getElem_cons_succ]; exact h2 j (by simpa using hj) (by simpa using hj')
structure WMade (w : Qz) : Prop where
 sm : WSm w
 len : 2 <= w.length /\ w.length <= 11
 cs : ∀ u ∈ w, u.cs.length <= 4
 cand : ∀ u ∈ w, ∀ c ∈ u.cs, JO w.length c
theorem Qed {w : Qz} (h2 : 2 <= w.length) (h11 : w.length <= 11) (hc : ∀ u ∈ w, u.cs.length <= 4) (hd : ∀ u ∈ w, ∀ c ∈ u.cs, JO w.length c) : WMade w := by
 refine ⟨⟨Wa, fun u hu => Qjh (hc u hu) Wa, fun u hu c hcm => (hd u hu c hcm).v, fun u hu c hcm => ⟨Qjh (hd u hu c hcm).nl Wa, Qjh (hd u hu c hcm).bl Wa⟩, fun u hu c hcm r hr => Qjh ((hd u hu c hcm).nr r hr).1 Wa, fun u hu c hcm r hr x hx => (((hd u hu c hcm).nr r hr).2 x hx).2.2.sm, fun u hu c hcm x hx => ((hd u hu c hcm).bw x hx).2.2.sm⟩, ⟨h2, h11⟩, hc, hd⟩
theorem Qb8 {n : Nat} {us : List UR} {eu ec eg : Nat} {L : List Int} {J : Int} {b4 : Box} {k : Nat} (h : Prog n us us.length k) (hb4 : b4.pr = true) :
  ∃ w : Qz, w.length = us.length /\ WMade w /\ ∀ {l : List Nat} {fr fr1 fr' : QiW}, Zd l fr = fr1 -> fr1 = fr' -> (∀ p ∈ fr', ∀ j ∈ p.2.ids, j = 500000 \/ j = 4) -> St.le ⟨fr, wA us eu ec eg L J b4⟩ ⟨fr', [(500000, ⟨w.map YA, 3, eu, true⟩), (4, b4)]⟩ := by
 obtain ⟨w, hw1, hw2⟩ := BS (n := n) (us := us) fun u hu z hz => by
  obtain ⟨j, hj, rfl⟩ := Qjk hu
  obtain ⟨m, hm, rfl⟩ := Qjk hz
  exact h.done j hj m hm (.inl hj)
 have hcs : ∀ u ∈ w, u.cs.length <= 4 /\ ∀ c ∈ u.cs, JO n c := fun u hu => by
  obtain ⟨j, hj, rfl⟩ := Qjk hu
  obtain ⟨_, _, q3, q4⟩ := hw2 j Wa hj
  have := h.cl us[j] (Qi3 _)
  rw [q3, List.length_map] at this
  exact ⟨this, q4⟩
 have hlen := h.len
 refine ⟨w, hw1, Qed Wa Wa (fun u hu => (hcs u hu).1) (fun u hu c hc => by have := (hcs u hu).2 c hc; rwa [show w.length = n by omega]), ?_⟩
 intro l fr fr1 fr' hf ef hfr
 subst hf ef
 have hK := h.keys
 let S : Nat -> Bool := fun k => decide (500001 <= k) && decide (k < 1000000)
 have hS1 : ∀ k, k < 500001 -> S k = false := fun k hk => by
  show (decide (500001 <= k) && decide (k < 1000000)) = false
  rw [decide_eq_false Wa]; rfl
 have hS2 : ∀ k, 500001 <= k -> k < 1000000 -> S k = true := fun k h1 h2 => by
  show (decide (500001 <= k) && decide (k < 1000000)) = true
  rw [decide_eq_true h1, decide_eq_true h2]; rfl
 have hrow : ∀ j, ∀ h1 : j < us.length, ∀ h2 : j < w.length, (dUR us[j]).map (D.fzS (wA us eu ec eg L J b4) S) = YA w[j] := fun j h1 h2 => by
  obtain ⟨q1, q2, q3, q4⟩ := hw2 j h1 h2
  have hk := hK j h1
  have hc := Fk (eu := eu) (ec := ec) (eg := eg) (L := L) (J := J) (b4 := b4) hK h1
  generalize us[j] = u at q1 q2 q3 hk hc
  generalize w[j] = x at q1 q2 q3 q4
  obtain ⟨un, uf, uk, ucs⟩ := u
  simp only at q1 q2 q3 hk hc
  subst hk q3
  simp only [dUR, YA, List.map_cons, List.map_nil, D.fzS]
  rw [hS2 _ Wa Wa, hc]
  simp only [if_true, true_and, List.length_map, q1, q2, DI, List.map_map]
  rfl
 have hrows : (us.map dUR).map (fun r => r.map (D.fzS (wA us eu ec eg L J b4) S)) = w.map YA := by
  refine List.ext_getElem (by simp [hw1]) fun j h1 h2 => ?_
  simp only [List.getElem_map]
  exact hrow j (by simpa using h1) (by simpa using h2)
 refine le_trans (HR l fr _) (le_trans (Qea S (fun k hk => by
  simp only [S, Qi2, decide_eq_true_eq] at hk; exact hk.2) (fr' := Zd l fr) (H' := [(500000, ⟨w.map YA, 3, eu, false⟩), (4, b4)]) (fun t d hd => ⟨d, hd, TE fun j hj => ?_⟩) (fun j b hj => ?_) (fun t d hd j hj => ?_) (fun j b hb i hi => ?_) fun j hj hs => ?_) (le_trans (L1 (k := 500000) (b := ⟨w.map YA, 3, eu, false⟩) rfl (fun e => ?_) (fun r hr d hd => ?_)) (K1 rfl fun j => ?_)))
 ·rcases hfr (t, d) (ZP hd) j hj with rfl | rfl
  ·exact hS1 _ Wg
  ·exact hS1 _ Wg
 ·rw [Qm] at hj
  split at hj
  ·rename_i e; cases hj; subst e
   refine ⟨hS1 _ Wg, _, MC, ?_⟩
   simp only [Box.fz, Qi6, if_false, hrows]
  ·rw [Qm] at hj
   split at hj
   ·rename_i e; cases hj; subst e
    exact ⟨hS1 _ Wg, _, PV, XV (.inl hb4)⟩
   ·cases hj
 ·rcases hfr (t, d) (ZP hd) j hj with rfl | rfl
  ·rfl
  ·rfl
 ·rw [Qm] at hb
  split at hb
  ·cases hb
   simp only [Box.ids, Qi6, if_false, Qi5, Qjc] at hi
   obtain ⟨r, ⟨u, _, rfl⟩, d, hd, hi⟩ := hi
   simp only [YA, Qi0, QiZ, or_false] at hd
   rcases hd with rfl | rfl | rfl <;> simp [D.sid, DI] at hi
  ·rw [Qm] at hb
   split at hb
   ·cases hb; rw [Jp hb4] at hi; cases hi
   ·cases hb
 ·obtain ⟨b, hb⟩ := Qi4.1 hs
  rcases Hg hK hb with ⟨rfl, _⟩ | ⟨rfl, _⟩ | ⟨rfl, _⟩ | ⟨m, hm, rfl, _⟩ <;> omega
 ·have := congrArg List.length e
  simp only [List.length_map, List.length_nil] at this
  omega
 ·obtain ⟨u, _, rfl⟩ := Qjc.1 hr
  simp only [YA, Qi0, QiZ, or_false] at hd
  rcases hd with rfl | rfl | rfl <;> rfl
 ·by_cases e : 500000 = j
  ·subst e; rfl
  ·rw [Qm, if_neg e, Qm, if_neg e]; rw [Qm (k := 500000), if_neg e]
def LP (us : List UR) (i : Nat) : Nat := match us[i]? with
 | some u => u.cs.length
 | none => 0
theorem Ko {us : List UR} {i : Nat} (h : i < us.length) : LP us i = us[i].cs.length := by rw [LP, List.getElem?_eq_getElem h]
theorem JZ (us : List UR) (i k : Nat) (z : CR) : LP (GC us i k z) i = LP us i := by
 by_cases h : i < us.length
 ·rw [Ko h, Ko (by rw [ZE]; exact h), Kv h, if_pos rfl]
  simp [NH]
 ·have e : (GC us i k z).length = us.length := ZE ..
  rw [LP, LP, List.getElem?_eq_none (Wa : us.length <= i), List.getElem?_eq_none (Wa : (GC us i k z).length <= i)]
theorem Lh {us : List UR} {i k : Nat} {z : CR} (hi : i < us.length) (hk : k < us[i].cs.length) {us2 : List UR} (e : us2 = GC us i k z) (hi2 : i < us2.length) (hk2 : k < us2[i].cs.length) : us2[i].cs[k] = z := by
 subst e
 have e1 := Kv (i := i) (k := k) (z := z) hi
 rw [if_pos rfl] at e1
 have e2 : (GC us i k z)[i].cs[k] = (NH us[i] k z).cs[k]'(by simpa [NH] using hk) := by congr 1; rw [e1]
 rw [e2]; simp [NH]
theorem QdX {cs : List CR} {k : Nat} {z : CR} (hk : k < cs.length) (hz : cs[k] = z) : (cs.map dCR)[((k : Nat) : Int).toNat]? = some (dCR z) := by rw [Qgn hk, hz]
theorem Qdn {cs : List CR} {k : Nat} {row : List D} (hk : k < cs.length) : ((cs.map dCR).set ((k : Nat) : Int).toNat row)[((k : Nat) : Int).toNat]? = some row := by
 rw [Int.toNat_natCast, List.getElem?_set_self (by simpa using hk)]
theorem TN {K k e t : Nat} {L : List (List D)} {r1 r2 : List D} {p : Bool} {H : QiV} : lk ((K, (⟨(L.set k r1).set k r2, e, t, p⟩ : Box)) :: H) K = some ⟨L.set k r2, e, t, p⟩ := by rw [QF, List.set_set]
theorem Mg {H : QiV} {kk m e t : Nat} {ys : List (List D)} {v : Vr} {sh : Int} (h : lk H kk = some ⟨ys, e, t, true⟩) (hm : m = ys.length) : ([D.int .i64 v.a, .int .i64 v.b, .int .i64 v.c, .str v.p, .str v.q, .int .i64 sh, .osl kk m, .fsl []].map (D.fzS H (· == kk))).map D.canS = [.int .i64 v.a, .int .i64 v.b, .int .i64 v.c, .str v.p, .str v.q, .int .i64 sh, .sl ys, .sl []] := by
 simp only [List.map_cons, List.map_nil, D.fzS, beq_self_eq_true, if_true, h, hm, and_self, D.canS]
theorem Qae {H : QiV} {kk m e t : Nat} {ys : List (List D)} {v : Vr} {sh : Int} {ns : List (List WantT)} (h : lk H kk = some ⟨ys, e, t, true⟩) (hm : m = ys.length) : ([D.int .i64 v.a, .int .i64 v.b, .int .i64 v.c, .str v.p, .str v.q, .int .i64 sh, Q9 ns, .osl kk m].map (D.fzS H (· == kk))).map D.canS = [.int .i64 v.a, .int .i64 v.b, .int .i64 v.c, .str v.p, .str v.q, .int .i64 sh, Q9 ns, .sl ys] := by
 simp only [Q9, List.map_cons, List.map_nil, D.fzS, beq_self_eq_true, if_true, h, hm, and_self, D.canS]
theorem Qf1 {us : List UR} {eu ec eg : Nat} {L : List Int} {J J2 : Int} {b4 : Box} (k : Nat) : lk ((12, gB L J2 eg) :: wA us eu ec eg L J b4) k = lk (wA us eu ec eg L J2 b4) k := by
 show lk ((12, _) :: (500000, _) :: (12, _) :: (4, _) :: fbx ec us) k = lk ((500000, _) :: (12, _) :: (4, _) :: fbx ec us) k
 by_cases e : 12 = k
 ·subst e; rfl
 ·rw [Qm, if_neg e, Qm, Qm (k := 500000)]
  split
  ·rfl
  ·rw [Qm, if_neg e, Qm (k := 12), if_neg e]
theorem Dg {cs : List CR} {k e t : Nat} {row : List D} (h : ∀ z ∈ cs, PureC z) (hr : ∀ d ∈ row, ∀ j ∈ d.sid, j = 64) : ∀ j ∈ Box.ids ⟨(cs.map dCR).set k row, e, t, false⟩, j = 64 := fun j hj => by
 simp only [Box.ids, Qi6, if_false, Qi5] at hj
 obtain ⟨r, hrm, d, hd, hj⟩ := hj
 rcases Ny hrm with rfl | hrm
 ·exact hr d hd j hj
 ·obtain ⟨z, hz, rfl⟩ := Qjc.1 hrm
  rw [(h z hz).all d hd] at hj; cases hj
theorem Qhx {us : List UR} {eu ec eg : Nat} {L : List Int} {J : Int} {b4 b64 : Box} {n i k : Nat} (h : Prog n us i k) (hi : i < us.length) (hk : k < us[i].cs.length) {zx : CR} (hv : PQ zx.v) (hrow : zx.x.sid = [] /\ zx.y.sid = [64] /\ zx.z.sid = []) (hb4 : b4.pr = true) (h64 : b64.pr = true) :
  Fam ((500001 + i, ⟨(us[i].cs.map dCR).set k (dCR zx), 8, ec, false⟩) :: (64, b64) :: wA us eu ec eg L J b4) 12 500000 eu ec (GC us i k zx) /\ Closed ((500001 + i, ⟨(us[i].cs.map dCR).set k (dCR zx), 8, ec, false⟩) :: (64, b64) :: wA us eu ec eg L J b4) := by
 refine ⟨⟨by decide, ⟨false, ?_⟩, fun y hy => ?_, fun y hy => ?_⟩, ?_⟩
 ·rw [Qm, if_neg Wa, Qm, if_neg Wg, MC, CA]
 ·obtain ⟨j, hj, rfl⟩ := Qjk hy
  have hK' := Nb (i := i) (k := k) (z := zx) h.keys
  have hj' := hj
  rw [ZE] at hj'
  refine ⟨by rw [hK' j hj]; omega, ?_⟩
  rw [hK' j hj]
  by_cases e : i = j
  ·subst e
   refine ⟨false, ?_⟩
   rw [QF, Kv hj', if_pos rfl, NH, List.map_set]
  ·refine ⟨true, ?_⟩
   rw [Qm, if_neg Wa, Qm, if_neg Wa, Fk h.keys hj', Kv hj', if_neg e]
 ·obtain ⟨j, hj, rfl⟩ := Qjk hy
  have hj' := hj
  rw [ZE] at hj'
  rw [Kv hj']
  have hfam := h.fam us[j] (Qi3 _)
  split
  ·refine ⟨by simpa [NH] using hfam.1, fun z hz => ?_⟩
   rcases Ny hz with rfl | hz
   ·exact hv
   ·exact hfam.2 z hz
  ·exact hfam
 ·refine ((JL h.keys hb4).pr h64).cons fun j hj => ?_
  have := Dg (e := 8) (t := ec) (k := k) (row := dCR zx) (fun z hz => (h.pure hi z hz).1) (fun d hd j hj => by
   simp only [dCR, Qi0, QiZ, or_false] at hd
   rcases hd with rfl | rfl | rfl | rfl | rfl | rfl | rfl | rfl
   ·cases hj
   ·cases hj
   ·cases hj
   ·cases hj
   ·cases hj
   ·rw [hrow.1] at hj; cases hj
   ·rw [hrow.2.1] at hj; simpa using hj
   ·rw [hrow.2.2] at hj; cases hj) j hj
  subst this; exact Q5
theorem Prog.start {us : List UR} (h : UnitsIn us) (h2 : 2 <= us.length) (h11 : us.length <= 11) : Prog us.length us 0 0 := by
 refine ⟨h.keys, ⟨rfl, h2, h11⟩, fun u hu => (h.fresh u hu).1, fun j hj m hm hd => Wa, fun j hj m hm _ => ?_⟩
 obtain ⟨v, sh, e, hv⟩ := (h.fresh _ (Qi3 hj)).2 _ (Qi3 hm)
 exact ⟨v, sh, e, hv⟩
theorem Nm {n : Nat} {m : Int} {v : Vr} {sh : Int} {ns : List (List WantT)} (hv : PQ v) (h : MF n m ns) (hm : m <= 3) : JO n ⟨v, sh, ns, []⟩ :=
 ⟨hv, by show ns.length <= 10; have := h.1; omega, fun r hr => ⟨(h.2 r hr).1, fun x hx => ((h.2 r hr).2 x hx).w⟩, Qja _, fun x hx => by cases hx⟩
theorem Ts {n i : Nat} {m : Int} {v : Vr} {sh : Int} {ns : List (List WantT)} (hv : PQ v) (h : MF n m ns) (hm : m <= 3) (h1 : 1 <= i) (hi : i < n) : JO n ⟨v, sh, [⟨(i : Int) - 1, Xq v.a v.b v.c v.p v.q⟩] :: ns, []⟩ := by
 refine ⟨hv, by show (_ :: ns).length <= 10; have := h.1; simp only [List.length_cons]; omega, fun r hr => ?_, Qja _, fun x hx => by cases hx⟩
 rcases Qi0.1 hr with rfl | hr
 ·refine ⟨by simp, fun x hx => ?_⟩
  simp only [Qi7] at hx; subst hx
  have := Gp (a := v.a) (b := v.b) (c := v.c) (q := v.q) hv.1
  exact ⟨by show 0 <= (i : Int) - 1; omega, by show (i : Int) - 1 < n; omega, this.1.up Wa, this.2.up Wa⟩
 ·exact ⟨(h.2 r hr).1, fun x hx => ((h.2 r hr).2 x hx).w⟩
theorem Tr {n : Nat} {v : Vr} {sh : Int} {ns : List (List WantT)} (h : JO n ⟨v, sh, ns, []⟩) {x : WantT} (hx : WantIn n x) : JO n ⟨v, sh, ns, [x]⟩ := ⟨h.v, h.nl, h.nr, by simp, by intro y hy; simp only [Qi7] at hy; subst hy; exact hx.w⟩
theorem Li {us : List UR} {i k : Nat} {z : CR} (hi : i < us.length) (hk : k < us[i].cs.length) {us2 : List UR} (e : GC us i k z = us2) (hi2 : i < us2.length) : k < us2[i].cs.length := by
 rw [<- Ko hi2, <- e, JZ, Ko hi]; exact hk
theorem Qdj {l : List (List WantT)} : ∀ r ∈ l.map (fun r => [Q8 r]), r.length = 1 := fun r hr => by obtain ⟨x, _, rfl⟩ := Qjc.1 hr; rfl
end M25
namespace M25
open Go Go.Abs M3
/-! ### Trails that may be -/
open Go Go.Abs M3
/-! ### What every program says -/
/-! ### A world's facts, and more -/
theorem QfM {α : Type} {f : α -> D} {l : List α} : ∀ r ∈ l.map (fun x => [f x]), r.length = 1 := fun r hr => by obtain ⟨x, _, rfl⟩ := Qjc.1 hr; rfl
open Go Go.Abs M3
/-! ### Powers of two -/
/-! ### Steps that may be: the program's -/
/-! ### Deciding -/
open Go Go.Abs M3
/-! ### Back, Sure, When -/
/-! ### What valid trails are -/
/-! ### Levels -/
open Go Go.Abs M3
def Qcc {α : Type} (p : α -> Bool) (l : List α) : Int := match l.findIdx? p with
 | some i => i
 | none => -1
theorem J5 {α : Type} {p : α -> Bool} {l : List α} {i : Nat} (h : i < l.length) (ha : (l.take i).any p = false) (hp : p l[i] = true) : Qcc p l = i := by
 have e : l.findIdx? p = some i := by
  rw [List.findIdx?_eq_some_iff_getElem]
  refine ⟨h, hp, fun j hj => ?_⟩
  have := List.any_eq_false.1 ha l[j] (by
   rw [List.mem_take_iff_getElem]
   exact ⟨j, Wa, rfl⟩)
  simpa using this
 rw [Qcc, e]
theorem Qc6 {α : Type} {p : α -> Bool} {l : List α} {i : Nat} (h : l.length <= i) (ha : (l.take i).any p = false) : Qcc p l = -1 := by
 have e : l.findIdx? p = none := by
  rw [List.findIdx?_eq_none_iff]
  rw [Qje h] at ha
  intro x hx
  simpa using List.any_eq_false.1 ha x hx
 rw [Qcc, e]
theorem Qao {α : Type} (p : α -> Bool) (l : List α) : decide (Qcc p l >= 0) = l.any p := by
 cases e : l.findIdx? p with
 | none =>
  rw [Qcc, e]
  rw [List.findIdx?_eq_none_iff] at e
  have : l.any p = false := List.any_eq_false.2 fun x hx => by simpa using e x hx
  rw [this]; rfl
 | some i =>
  rw [Qcc, e]
  rw [List.findIdx?_eq_some_iff_getElem] at e
  obtain ⟨h, hp, _⟩ := e
  rw [LD h hp]
  simp
/-! ### The first row of lefts -/
open Go Go.Abs M3
/-! ### When, S8 by S8 -/
/-! ### The Rd world -/
end M25
namespace M25
open Go Go.Abs M3
/-! ### What a run is: steps, one open after the other -/
inductive Bo (w : Qz) (db : List (List TermT)) : List KL -> List KL -> Prop
 | nil (l : List KL) : Bo w db l l
 | cons {l x : List KL} (a k : Nat) (ho : Qe1 w db l a k) (h : Bo w db (l ++ [Qhw w l ((db[a]'ho.ha)[k]'ho.hk) a]) x) : Bo w db l x
section
variable {w : Qz} {db : List (List TermT)}
def Below (w : Qz) (b l : List KL) : Prop := ∀ u i, tb (P9 w b u) i = true -> tb (P9 w l u) i = true
theorem Below.refl (l : List KL) : Below w l l := fun _ _ h => h
/-! ### Sound: a choice stays -/
end
end M25
namespace M25
open Go Go.Abs M3
end M25
namespace M25
open Go Go.Abs M3
/-! ### More of runs -/
open Go Go.Abs M3
/-! ### The facts in another order -/
open Go Go.Abs M3
/-! ### How long a run is -/
structure Good (w : Qz) (l : List KL) : Prop where
 p : Qe2 w l
 nz : ∀ u, inW w u = true -> P9 w l u ≠ 0
 le : ∀ u i, tb (P9 w l u) i = true -> tb (Xd w u) i = true
open Go Go.Abs M3
/-! ### Masks are of values that there are -/
/-! ### Each S8 of a run -/
end M25
namespace M25
open Go Go.Abs M3
open Go Go.Abs M3
/-! ### Derive again -/
/-! ### Sure, and what holds -/
open Go Go.Abs M3
/-! ### The choice that a trail has decided -/
end M25
namespace Go.Proofs
open Go Go.Abs M3 M25
theorem KN {a b : List Int} (ha : a.length <= 10000000) : Ok Tryz.prog 22 [QN a, QN b] (.bool (decide (a = b))) := by
 refine Ok.ofT ZN Tryz.func22 QhO (QiY Z) ?_
 show TW _ _ tf22.body _ _
 refine Qd fun K hK => Qa Z (kc2 hK Z Z ?_)
 refine QB ?_ -- 0
 refine Qd fun K hK => Qa Z (Zb Z QU (Qa Z (Zb Z QU (Ym Z Z (kc3 hK Z Z Z ?_)))))
 refine Qt Z (fun h1 => ?_) (fun h1 => ?_)
 ·rw [h1]
  simp only [qA] at h1
  refine Qd fun K hK => Qa Z (kc1 hK Z ?_)
  refine Qp (Qj (Qk Z ?_))
  rw [decide_eq_false fun e => h1 (by rw [e])]
 ·rw [h1]
  simp only [qA] at h1
  refine Qq (ks2 Z Z ?_)
  refine QB ?_ -- 1
  refine Qd fun K hK => Qa Z (kc3 hK Z Z Z ?_)
  refine QA ?_
  refine Zg (ι := Nat) (fun i => ⟨[(0, QN a), (1, QN b), (5, .int .i64 i)], []⟩) (fun i => i <= a.length /\ a.take i = b.take i) (fun i => a.length - i) 0 ?_ ?_ ?_
  ·exact QS (kp3 rfl rfl rfl)
  ·exact ⟨Qja _, by simp⟩
  intro i hI
  refine QB ?_ -- 2
  refine Qd fun K hK => mv2 Z Z (Zb Z QU (ZS Z Z (kc4 hK Z Z Z Z ?_)))
  refine Qt Z (fun h2 => ?_) (fun h2 => ?_)
  ·rw [h2]
   simp only [qA] at h2
   refine Qq (ks3 Z Z Z ?_)
   refine QB ?_ -- 3
   refine QA (Qd fun K hK => mv2 Z Z (QG Z Z Z Wa (QV Wa) Z (QQ (ds0 := [0]) Z Z Z Z Z (mv2 Z Z (QG Z Z Z Wa (QV Wa) Z (QQ (ds0 := [0]) Z Z Z Z Z (Ym Z Z (kc4 hK Z Z Z Z ?_))))))))
   refine Qt Z (fun h3 => ?_) (fun h3 => ?_)
   ·rw [h3]
    simp only [qA] at h3
    refine Qd fun K hK => Qa Z (kc1 hK Z ?_)
    refine Qp (Qr (Qj (QR (Qr (Qj (Qk Z ?_))))))
    rw [Qa8 (i := i) Wa Wa h3]
   ·rw [h3]
    simp only [qA] at h3
    refine Qq (Qf (ks3 Z Z Z (QL fun K hK => Qa Z (QW Z Z Wb (Qa Z (hK _ ?_))))))
    refine Qi (i + 1) ?_ ?_ ?_
    ·exact QS (kp3 rfl rfl rfl)
    ·exact ⟨Wa, Ll Wa Wa hI.2 h3⟩
    ·omega
  ·rw [h2]
   simp only [qA] at h2
   refine Q2 (QE (Qs (QC (QP (Zm) (Qd fun K hK => Qa Z (kc1 hK Z ?_))))))
   refine Qp (Qk Z ?_)
   rw [Qje Wa, Qje Wa] at hI; exact (decide_eq_true hI.2).symm
open Go Go.Abs M3 M25
theorem H4 {s : St} {args : List Opd} {kg : Nat} {L : List Int} {I n : Int} {et : Nat} (ha : Zs s args = some [.ref kg 0 0, .int .i64 n]) (hg : lk s.H kg = some (gB L I et)) (hL : ∀ x ∈ L, I64 x) (hn : n <= 9223372036854775807) : Hq Tryz.prog 33 args s [(kg, gB L I et)] [] [(kg, gB L (nxI I) et)] (.int .i64 (nx L I n)) := by
 refine DF (b' := gB L (nxI I) et) (ds' := [.ref (upN kg) 0 0, .int .i64 n]) ha (fun j x h => ?_) (fun k b hk j hj => ?_) (fun x hx j hj => ?_) ?_ Z Z Z Z ?_
 ·obtain ⟨rfl, rfl⟩ := Jh h; exact hg
 ·obtain ⟨rfl, rfl⟩ := Jh hk; simp [Box.ids, gB] at hj
 ·simp only [Qi0, QiZ, or_false] at hx
  rcases hx with rfl | rfl
  ·simp [D.ids, D.sid] at hj; subst hj; rw [QF]; rfl
  ·simp [D.ids, D.sid] at hj
 ·rw [QF]; rfl
 ·exact XW (by unfold upN; omega) hL hn et
theorem _root_.Wi {p : Prop} (h : p := by first | decide | omega) : p := h
theorem _root_.Ww {p : Prop} (h : p := by simp [Dr.ok, HM]) : p := h
theorem _root_.Wl {p : Prop} (h : p := by repeat (first | exact QF | refine Qo (by first | decide | omega) ?_)) : p := h
theorem Fw {H : QiV} {kg kc : Nat} {L : List Int} {I : Int} {eg ec : Nat} {pr : Bool} {zs : List CR} (hkg : 1000000 <= kg) (hg : lk H kg = some (gB L I eg)) (hc : lk H kc = some ⟨zs.map dCR, 8, ec, pr⟩) (hne : kg ≠ kc) (hB : Big H) (hC : Closed H) (hL : ∀ x ∈ L, I64 x) (hz : ∀ z ∈ zs, PQ z.v) (hn : zs.length <= 16) : ∃ d H2, (∃ s I2, SetOk s /\ d = MY s /\ H2 = (kg, gB L I2 eg) :: H) /\ OkH Tryz.prog 67 [.ref kg 0 0, .osl kc zs.length] H d H2 := by
 have hkc := hB _ _ hc
 refine OkH.ofX (R := fun d H2 => ∃ s I2, SetOk s /\ d = MY s /\ H2 = (kg, gB L I2 eg) :: H) ZN Tryz.func67 Qiq (QiY Z) ?_
 show TX _ _ tf67.body _ _
 refine Zu fun K hK => ?_
 refine Zw (by repeat (first | exact hB.none Wg | refine ZA Wi ?_)) ?_
 refine hK _ _ (Q7 (kp3 Z Z Z) ?_)
 refine Zu fun K hK => Qa Z (YO (H4 (I := I) Z (Qo Wa hg) hL Wa) (Qa Z (hK _ _ (Q7 (kp4 Z Z Z Z) ?_))))
 refine Zu fun K hK => Qw (Z9) Z Z (.inl Z) ?_
 refine Zw (by repeat (first | exact hB.none Wg | refine ZA Wi ?_)) ?_
 refine Q4 Z Z Z Z Z Z Z Z (hK _ _ (Q7 (kp5 Z Z Z Z Z) ?_))
 refine JM ?_ -- 0
 refine Zu fun K hK => Qa Z (hK _ _ (Q7 (kp6 Z Z Z Z Z Z) ?_))
 refine Xn ?_
 refine MH (ι := Nat × NN) (fun ⟨i, s⟩ => ⟨[(0, .ref kg 0 0), (1, .osl kc zs.length), (4, .ref 4 0 0), (5, .int .i64 (nx L I 8)), (6, .ref 6 0 0), (7, .int .i64 i)], [(4, ⟨[[.fsl [], .fsl []]], 2, 66, true⟩), (6, ⟨[[Zl s.1, Zl s.2]], 2, 66, true⟩), (kg, gB L (nxI I) eg)] ++ H⟩) (fun ⟨i, s⟩ => i <= zs.length /\ CP (bnd i - 4) s) (fun ⟨i, s⟩ => zs.length - i) (0, ([], [])) ?_ ?_ ?_
 ·exact Pf (l := [0, 1, 4, 5, 6, 7]) (B := [_, _, _, _]) (kp6 rfl rfl rfl rfl rfl rfl) rfl (by intro p hp; simp only [Qi0, QiZ, or_false] at hp; rcases hp with rfl | rfl | rfl <;> exact ⟨by repeat (first | exact QF | refine Qo Wi ?_), rfl⟩) rfl (by intro p hp h; simp only [Qi0, QiZ, or_false] at hp; rcases hp with rfl | rfl | rfl | rfl <;> first | (simp only at h; omega) | (repeat (first | exact Q5 | refine Q3 ?_))) hB hC (by intro p hp k hk; simp only [Qi0, QiZ, or_false] at hp; rcases hp with rfl | rfl | rfl | rfl | rfl | rfl <;> first | (simp [D.ids, D.sid, Q8, Q9, QN] at hk; done) | (simp [D.ids, D.sid, Q8, Q9, QN] at hk; subst hk; repeat (first | exact Q5 | exact Zy hg | exact Zy hc | refine Q3 ?_)))
 ·exact ⟨Qja _, SmN.nil _, SmN.nil _⟩
 intro ⟨i, s⟩ hI
 dsimp only at hI
 have hb16 := QcY (i := i) Wa
 dsimp only
 refine JM ?_ -- 1
 refine Zu fun K hK => mv2 Z Z (Zb Z Z (ZS Z Z (hK _ _ (Q7 (kp7 Z Z Z Z Z Z Z) ?_))))
 refine XD Z (fun h1 => ?_) (fun h1 => ?_)
 ·rw [h1]
  simp only [qA] at h1
  refine XU (Zf (kp6 Z Z Z Z Z Z) ?_)
  refine JM ?_ -- 2
  refine Xn (Zu fun K hK => mv2 Z Z (NL Z (Ni Wa Wa) (Qe8 Z Z Wa (Nj Z Z (Yt Z Z (hK _ _ (Q7 (kp7 Z Z Z Z Z Z Z) ?_)))))))
  refine XD Z (fun h2 => ?_) (fun h2 => ?_)
  ·rw [h2]
   simp only [qA] at h2
   have hvp := (hz _ (Qi3 (Wa : i < zs.length))).1
   refine Z5 fun K hK => QM (ds0 := [1, 0]) (cs := [_, _]) Z Z Z Z Ww Z (mv2 Z Z (Fo (ds0 := [4, 3, 2, 1, 0]) Z Z (Qo Wa (Qo Wa (Qo Wa hc))) Wd Wa Wa Z Ww Z (Qg Z (Zy (Qo Wa (Qo Wa (Qo Wa hc)))) (QM (ds0 := [2, 1, 0]) (cs := [_, _, _, _, _]) Z (Ye (Qo Wa (Qo Wa (Qo Wa hc))) (QV Wa)) Z Z Ww Z (Q0 (ds0 := [1, 0]) (Jd (hz _ (Qi3 Wa)).1 (hz _ (Qi3 Wa)).2) Z Z (.inl Z) Ww Z (Q0 (ds0 := [0]) (Nk (a := s) (b := (Xq (zs[i]'Wa).v.a (zs[i]'Wa).v.b (zs[i]'Wa).v.c (zs[i]'Wa).v.p (zs[i]'Wa).v.q)) (hI.2.1.sm Wa) (hI.2.2.sm Wa) ((Gp hvp).1.sm Wa) ((Gp hvp).2.sm Wa) (by have := hI.2.1.1; have := (Gp (a := (zs[i]'Wa).v.a) (b := (zs[i]'Wa).v.b) (c := (zs[i]'Wa).v.c) (q := (zs[i]'Wa).v.q) hvp).1.1; omega) (by have := hI.2.2.1; have := (Gp (a := (zs[i]'Wa).v.a) (b := (zs[i]'Wa).v.b) (c := (zs[i]'Wa).v.c) (q := (zs[i]'Wa).v.q) hvp).2.1; omega)) Z Z (.inl Z) Ww Z (Yv (ds0 := []) Z Z Z Z Z Z Z Z Ww Z (hK _ ?_))))))))
   refine Qf (Zf (kp6 Z Z Z Z Z Z) (Z5 fun K hK => Qa Z (QW Z Z Wb (Qa Z (hK _ ?_)))))
   refine Qi (i + 1, Qdc s (Xq (zs[i]'Wa).v.a (zs[i]'Wa).v.b (zs[i]'Wa).v.c (zs[i]'Wa).v.p (zs[i]'Wa).v.q)) ?_ ?_ ?_
   ·exact Pf (l := [0, 1, 4, 5, 6, 7]) (B := [_, _, _, _]) (kp6 rfl rfl rfl rfl rfl rfl) rfl (by intro p hp; simp only [Qi0, QiZ, or_false] at hp; rcases hp with rfl | rfl | rfl <;> exact ⟨by repeat (first | exact QF | refine Qo Wi ?_), rfl⟩) rfl (by intro p hp h; simp only [Qi0, QiZ, or_false] at hp; rcases hp with rfl | rfl | rfl | rfl <;> first | (simp only at h; omega) | (repeat (first | exact Q5 | refine Q3 ?_))) hB hC (by intro p hp k hk; simp only [Qi0, QiZ, or_false] at hp; rcases hp with rfl | rfl | rfl | rfl | rfl | rfl <;> first | (simp [D.ids, D.sid, Q8, Q9, QN] at hk; done) | (simp [D.ids, D.sid, Q8, Q9, QN] at hk; subst hk; repeat (first | exact Q5 | exact Zy hg | exact Zy hc | refine Q3 ?_)))
   ·exact ⟨by show i + 1 <= _; omega, QfO hI.2 (hz _ (Qi3 Wa)).1 Wa⟩
   ·show zs.length - (i + 1) < zs.length - i; omega
  ·rw [h2]
   simp only [qA] at h2
   have hvp := (hz _ (Qi3 (Wa : i < zs.length))).1
   refine XU (Qf (Zf (kp6 Z Z Z Z Z Z) (Z5 fun K hK => Qa Z (QW Z Z Wb (Qa Z (hK _ ?_))))))
   refine Qi (i + 1, s) ?_ ?_ ?_
   ·exact Pf (l := [0, 1, 4, 5, 6, 7]) (B := [_, _, _]) (kp6 rfl rfl rfl rfl rfl rfl) rfl (by intro p hp; simp only [Qi0, QiZ, or_false] at hp; rcases hp with rfl | rfl | rfl <;> exact ⟨by repeat (first | exact QF | refine Qo Wi ?_), rfl⟩) rfl (by intro p hp h; simp only [Qi0, QiZ, or_false] at hp; rcases hp with rfl | rfl | rfl <;> first | (simp only at h; omega) | (repeat (first | exact Q5 | refine Q3 ?_))) hB hC (by intro p hp k hk; simp only [Qi0, QiZ, or_false] at hp; rcases hp with rfl | rfl | rfl | rfl | rfl | rfl <;> first | (simp [D.ids, D.sid, Q8, Q9, QN] at hk; done) | (simp [D.ids, D.sid, Q8, Q9, QN] at hk; subst hk; repeat (first | exact Q5 | exact Zy hg | exact Zy hc | refine Q3 ?_)))
   ·exact ⟨by show i + 1 <= _; omega, QcG hI.2⟩
   ·show zs.length - (i + 1) < zs.length - i; omega
 ·rw [h1]
  simp only [qA] at h1
  refine NO (X1 (Qs (QC (Zf (kp3 Z Z Z) ?_))))
  refine JM ?_ -- 3
  refine Zu fun K hK => Qa Z (YO (H4 (I := nxI I) Z (Qo Wa (Qo Wa QF)) hL Wa) (hK _ _ (Q7 (kp3 Z Z Z) ?_)))
  refine Xn (Zu fun K hK => Yt Z Z (Qa Z (hK _ _ (Q7 (kp4 Z Z Z Z) ?_))))
  refine XD Z (fun h3 => ?_) (fun h3 => ?_)
  ·rw [h3]
   simp only [qA] at h3
   refine Zu fun K hK => Qw (JY) Z Z (.inl Z) (Q4 Z (Qo Wa Z) Z Z Z Z Z Z (hK _ _ (Q7 (kp1 Z) ?_)))
   refine Ti (Qr (Cz ?_))
   refine ⟨MY PX, (kg, gB L (nxI (nxI I)) eg) :: H, ⟨PX, _, ⟨DD.1.up Wa, DD.2.up Wa⟩, rfl, rfl⟩, (XR hB hC hkg rfl).1, (XR hB hC hkg rfl).2, ?_⟩
   refine Gz (cs := [Zl PX.1, Zl PX.2]) Z (Ye Wl Z) Z Z Z ?_
   exact J6 (B := [_, _, _, _, _]) hB Wl (by intro p hp h; simp only [Qi0, QiZ, or_false] at hp; rcases hp with rfl | rfl | rfl | rfl | rfl <;> first | rfl | (simp only at h; omega))
  ·rw [h3]
   simp only [qA] at h3
   refine Zu fun K hK => Yt Z Z (Qa Z (hK _ _ (Q7 (kp3 Z Z Z) ?_)))
   refine XD Z (fun h4 => ?_) (fun h4 => ?_)
   ·rw [h4]
    simp only [qA] at h4
    refine Zu fun K hK => QD (cs := [_, _]) Z (Ye (Qo Wa Z) Z) Z Z (Qw (FA (a := s) (hI.2.1.sm Wa) (hI.2.2.sm Wa)) Z Z (.inl Z) (Q4 Z (Qo Wa Z) Z Z Z Z Z Z (hK _ _ (Q7 (kp1 Z) ?_))))
    refine Ti (Qr (Cz ?_))
    refine ⟨MY (Sy s), (kg, gB L (nxI (nxI I)) eg) :: H, ⟨(Sy s), _, ⟨(QaF hI.2 Wa).1.up Wa, (QaF hI.2 Wa).2.up Wa⟩, rfl, rfl⟩, (XR hB hC hkg rfl).1, (XR hB hC hkg rfl).2, ?_⟩
    refine Gz (cs := [Zl (Sy s).1, Zl (Sy s).2]) Z (Ye Wl Z) Z Z Z ?_
    exact J6 (B := [_, _, _, _, _]) hB Wl (by intro p hp h; simp only [Qi0, QiZ, or_false] at hp; rcases hp with rfl | rfl | rfl | rfl | rfl <;> first | rfl | (simp only at h; omega))
   ·rw [h4]
    simp only [qA] at h4
    refine XU (Qf (Zf (kp2 Z Z) (Zu fun K hK => QD (cs := [_, _]) Z (Ye (Qo Wa Z) Z) Z Z (Q4 Z (Qo Wa Z) Z Z Z Z Z Z (hK _ _ (Q7 (kp1 Z) ?_))))))
    refine Ti ?_
    refine ⟨MY s, (kg, gB L (nxI (nxI I)) eg) :: H, ⟨s, _, ⟨hI.2.1.up Wa, hI.2.2.up Wa⟩, rfl, rfl⟩, (XR hB hC hkg rfl).1, (XR hB hC hkg rfl).2, ?_⟩
    refine Gz (cs := [Zl s.1, Zl s.2]) Z (Ye Wl Z) Z Z Z ?_
    exact J6 (B := [_, _, _, _, _]) hB Wl (by intro p hp h; simp only [Qi0, QiZ, or_false] at hp; rcases hp with rfl | rfl | rfl | rfl | rfl <;> first | rfl | (simp only at h; omega))
open Go Go.Abs M3 M25
/-- The call of 'set', over boxes that are lent. -/
theorem Qgy {H : QiV} {kg kc : Nat} {L : List Int} {I : Int} {eg ec : Nat} {pr : Bool} {zs : List CR} (hg : lk H kg = some (gB L I eg)) (hc : lk H kc = some ⟨zs.map dCR, 8, ec, pr⟩) (hne : kg ≠ kc) (hC : Closed H) (hL : ∀ x ∈ L, I64 x) (hz : ∀ z ∈ zs, PQ z.v) (hn : zs.length <= 16) :
  ∃ s I2, SetOk s /\ ∀ (st : St) (args : List Opd), Zs st args = some [.ref kg 0 0, .osl kc zs.length] -> (∀ j x, lk H j = some x -> lk st.H j = some x) -> Hq Tryz.prog 67 args st H [] [(kg, gB L I2 eg)] (MY s) := by
 obtain ⟨d, H2, ⟨s, I2, hs, rfl, rfl⟩, hok⟩ := Fw (H := upH H) (kg := upN kg) (kc := upN kc) (L := L) (I := I) (eg := eg) (ec := ec) (pr := pr) (zs := zs.map CR.ren) (by unfold upN; omega) (by rw [J7, hg]; rfl) (by rw [J7, hc, Option.map_some, Box.ren, BN]) (fun e => hne (S1 e)) Dn (NJ hC) hL
  (fun z hz' => by obtain ⟨z0, h0, rfl⟩ := Qjc.1 hz'; exact hz z0 h0) (by simpa using hn)
 refine ⟨s, I2, hs, fun st args ha hF => DF (b' := gB L I2 eg) (ds' := [.ref (upN kg) 0 0, .osl (upN kc) zs.length]) ha hF hC (fun x hx j hj => ?_) (Zy hg) Z Z Z Z ?_⟩
 ·simp only [Qi0, QiZ, or_false] at hx
  rcases hx with rfl | rfl
  ·simp [D.ids, D.sid] at hj; subst hj; exact Zy hg
  ·simp [D.ids, D.sid] at hj; subst hj; exact Zy hc
 ·rw [List.length_map] at hok; exact hok
theorem G1 {H : QiV} {kg ku : Nat} {L : List Int} {I : Int} {eg eu ec : Nat} {us : List UR} (hkg : 1000000 <= kg) (hg : lk H kg = some (gB L I eg)) (hU : Fam H kg ku eu ec us) (hB : Big H) (hC : Closed H) (hL : ∀ x ∈ L, I64 x) (h2n : 2 <= us.length) (hn : us.length <= 48) : ∃ d H2, (∃ x I2, WantIn us.length x /\ d = .agg (Kp x) /\ H2 = (kg, gB L I2 eg) :: H) /\ OkH Tryz.prog 34 [.ref kg 0 0, .osl ku us.length] H d H2 := by
 obtain ⟨pu, hu⟩ := hU.u
 have hku := hB _ _ hu
 have hne := hU.ne
 have hx0 := RE (v := J8 L (IntKind.i64.wrap (nxI I - 1))) (n := (us.length : Int) - 1)
 have hx1 := TT (v := J8 L (IntKind.i64.wrap (nxI I - 1))) (n := (us.length : Int) - 1) Wa
 change 0 <= nx L I ((us.length : Int) - 1) at hx0
 change nx L I ((us.length : Int) - 1) < _ at hx1
 obtain ⟨hyk, pr, hy⟩ := hU.c (us[(1 + nx L I ((us.length : Int) - 1)).toNat]'Wa) (Qi3 _)
 obtain ⟨hv1, hv2⟩ := hU.v (us[(1 + nx L I ((us.length : Int) - 1)).toNat]'Wa) (Qi3 _)
 obtain ⟨s, I2, hs, hcall⟩ := Qgy (H := (kg, gB L (nxI I) eg) :: H) QF (Qo (Ne.symm hyk) hy) (Ne.symm hyk) (hC.pr rfl) hL hv2 hv1
 refine OkH.ofX (R := fun d H2 => ∃ x I2, WantIn us.length x /\ d = .agg (Kp x) /\ H2 = (kg, gB L I2 eg) :: H) ZN Tryz.func34 QhW (QiY Z) ?_
 show TX _ _ tf34.body _ _
 refine Zu fun K hK => ?_
 refine Zw (by repeat (first | exact hB.none Wg | refine ZA Wi ?_)) ?_
 refine hK _ _ (Q7 (kp3 Z Z Z) ?_)
 refine Zu fun K hK => mv2 Z Z (Zb Z Z (Hl Z Z Wb (YO (H4 (I := I) Z (Qo Wa hg) hL Wa) (QW Z Z Wb (Qa Z (hK _ _ (Q7 (kp4 Z Z Z Z) ?_)))))))
 refine Zu fun K hK => Qa rfl (Qa rfl (Qa rfl (Qa rfl (Jj rfl rfl (Qo Wa (Qo Wa hu)) Wd Wa Wa rfl (Qg rfl (Zy (Qo Wa (Qo Wa hu))) (Qy rfl (Ye (Qo Wa (Qo Wa hu)) (Zq Wa Wa)) rfl (YO (hcall _ _ rfl (J6 (B := [_, _]) hB QF (by intro p hp h; simp only [Qi0, QiZ, or_false] at hp; rcases hp with rfl | rfl <;> first | rfl | (simp only at h; omega)))) (Q1 rfl rfl (Q4 rfl (Qo Wa (Qo Wa rfl)) rfl rfl rfl rfl rfl rfl (hK _ _ (Q7 (kp1 rfl) ?_)))))))))))
 refine Ti ?_
 refine ⟨.agg (Kp ⟨1 + nx L I ((us.length : Int) - 1), s⟩), (kg, gB L I2 eg) :: H, ⟨⟨1 + nx L I ((us.length : Int) - 1), s⟩, _, ⟨by show 1 <= 1 + _; omega, by show 1 + _ < (us.length : Int); omega, hs⟩, rfl, rfl⟩, (XR hB hC hkg rfl).1, (XR hB hC hkg rfl).2, ?_⟩
 refine Gz (cs := Kp ⟨1 + nx L I ((us.length : Int) - 1), s⟩) Z (Ye Wl Z) Z Z Z ?_
 exact J6 (B := [_, _, _, _]) hB Wl (by intro p hp h; simp only [Qi0, QiZ, or_false] at hp; rcases hp with rfl | rfl | rfl | rfl <;> first | rfl | (simp only at h; omega))
/-- The call of 'want'. -/
theorem Co {H : QiV} {kg ku : Nat} {L : List Int} {I : Int} {eg eu ec : Nat} {us : List UR} (hg : lk H kg = some (gB L I eg)) (hU : Fam H kg ku eu ec us) (hC : Closed H) (hL : ∀ x ∈ L, I64 x) (h2 : 2 <= us.length) (hn : us.length <= 48) :
  ∃ x I2, WantIn us.length x /\ ∀ (st : St) (args : List Opd), Zs st args = some [.ref kg 0 0, .osl ku us.length] -> (∀ j x, lk H j = some x -> lk st.H j = some x) -> Hq Tryz.prog 34 args st H [] [(kg, gB L I2 eg)] (.agg (Kp x)) := by
 obtain ⟨d, H2, ⟨x, I2, hx, rfl, rfl⟩, hok⟩ := G1 (H := upH H) (kg := upN kg) (ku := upN ku) (L := L) (I := I) (eg := eg) (eu := eu) (ec := ec) (us := us.map UR.ren) (by unfold upN; omega) (by rw [J7, hg]; rfl) hU.up Dn (NJ hC) hL (by simpa using h2) (by simpa using hn)
 obtain ⟨pu, hu⟩ := hU.u
 rw [List.length_map] at hx hok
 refine ⟨x, I2, hx, fun st args ha hF => DF (b' := gB L I2 eg) (ds' := [.ref (upN kg) 0 0, .osl (upN ku) us.length]) ha hF hC (fun x hx j hj => ?_) (Zy hg) Z Z Z Z hok⟩
 simp only [Qi0, QiZ, or_false] at hx
 rcases hx with rfl | rfl
 ·simp [D.ids, D.sid] at hj; subst hj; exact Zy hg
 ·simp [D.ids, D.sid] at hj; subst hj; exact Zy hu
open Go Go.Abs M3 M25
theorem _root_.Wq {p : Prop} (h : p := by first | (simp; done) | (simp; omega)) : p := h
theorem GL {H : QiV} {kg ku : Nat} {L : List Int} {I most : Int} {eg eu ec : Nat} {us : List UR} (hkg : 1000000 <= kg) (hg : lk H kg = some (gB L I eg)) (hU : Fam H kg ku eu ec us) (hB : Big H) (hC : Closed H) (hL : ∀ x ∈ L, I64 x) (h2n : 2 <= us.length) (hn : us.length <= 48) (hm0 : 0 <= most) (hm1 : most <= 10) : ∃ d H2, (∃ ns I2, MF us.length most ns /\ d = Q9 ns /\ H2 = (kg, gB L I2 eg) :: H) /\ OkH Tryz.prog 31 [.ref kg 0 0, .osl ku us.length, .int .i64 most] H d H2 := by
 obtain ⟨pu, hu⟩ := hU.u
 have hku := hB _ _ hu
 have hne := hU.ne
 have hk0 : 0 <= nx L I (most + 1) := RE
 have hk1 : nx L I (most + 1) < most + 1 := TT Wa
 refine OkH.ofX (R := fun d H2 => ∃ ns I2, MF us.length most ns /\ d = Q9 ns /\ H2 = (kg, gB L I2 eg) :: H) ZN Tryz.func31 QhT (QiY Z) ?_
 show TX _ _ tf31.body _ _
 refine Zu fun K hK => Qa Z (hK _ _ (Q7 (kp3 Z Z Z) ?_))
 refine Zu fun K hK => Qa Z (hK _ _ (Q7 (kp4 Z Z Z Z) ?_))
 refine JM ?_ -- 0
 refine Zu fun K hK => mv2 Z Z (QW Z Z Wb (YO (H4 (I := I) Z hg hL Wa) (Qa Z (hK _ _ (Q7 (kp4 Z Z Z Z) ?_)))))
 refine Xn ?_
 refine MH (ι := Nat × List (List WantT) × Int) (fun ⟨k, ns, J⟩ => ⟨[(0, .ref kg 0 0), (1, .osl ku us.length), (7, .osl 7 ns.length), (8, .int .i64 k)], [(7, ⟨(ns).map (fun r => [Q8 r]), 1, 61, true⟩), (kg, gB L J eg)] ++ H⟩) (fun ⟨k, ns, J⟩ => (ns.length : Int) + k <= most /\ ∀ r ∈ ns, Th us.length r) (fun ⟨k, ns, J⟩ => k) ((nx L I (most + 1)).toNat, [], nxI I) ?_ ?_ ?_
 ·exact le_trans (ZT 7 7 1 61 rfl (by repeat (first | exact hB.none Wg | refine ZA Wi ?_))) (Pf (l := [0, 1, 7, 8]) (B := [_, _]) (kp4 rfl rfl rfl rfl) (by simp only [Int.toNat_of_nonneg hk0] <;> rfl) (by intro p hp; simp only [Qi0, QiZ, or_false] at hp; rcases hp with rfl | rfl <;> exact ⟨by repeat (first | exact QF | refine Qo Wi ?_), rfl⟩) rfl (by intro p hp h; simp only [Qi0, QiZ, or_false] at hp; rcases hp with rfl | rfl <;> first | (simp only at h; omega) | (repeat (first | exact Q5 | refine Q3 ?_))) hB hC (by intro p hp k hk; simp only [Qi0, QiZ, or_false] at hp; rcases hp with rfl | rfl | rfl | rfl <;> first | (simp [D.ids, D.sid, Q8, Q9, QN] at hk; done) | (simp [D.ids, D.sid, Q8, Q9, QN] at hk; subst hk; repeat (first | exact Q5 | exact Zy hg | exact Zy hu | refine Q3 ?_))))
 ·exact ⟨by simp only [List.length_nil]; omega, by simp⟩
 intro ⟨k, ns, J⟩ hI
 dsimp only at hI
 dsimp only
 refine JM ?_ -- 1
 refine Zu fun K hK => Qa Z (GF Z Z (hK _ _ (Q7 (kp5 Z Z Z Z Z) ?_)))
 refine XD Z (fun h1 => ?_) (fun h1 => ?_)
 ·rw [h1]
  simp only [qA] at h1
  refine XU (Zf (kp4 Z Z Z Z) ?_)
  refine JM ?_ -- 2
  refine Xn (Zu fun K hK => mv2 Z Z ?_)
  obtain ⟨x1, J1, hx1, hc1⟩ := Co (I := J) (H := (kg, gB L (J) eg) :: H) QF hU.cons (hC.pr rfl) hL h2n hn
  refine YO (hc1 _ _ rfl (J6 (B := [_, _]) hB Wl (by intro p hp h; simp only [Qi0, QiZ, or_false] at hp; rcases hp with rfl | rfl <;> first | rfl | (simp only at h; omega)))) ?_
  refine QK Z (by repeat (first | exact hB.none Wg | refine ZA Wi ?_)) ?_
  refine Qa Z (hK _ _ (Q7 (kp5 Z Z Z Z Z) ?_))
  refine Qfc (ι := List WantT × Int) (fun ⟨r, J4⟩ => ⟨[(0, .ref kg 0 0), (1, .osl ku us.length), (7, .osl 7 ns.length), (8, .int .i64 k), (9, Q8 r)], [(7, ⟨(ns).map (fun r => [Q8 r]), 1, 61, true⟩), (kg, gB L J4 eg)] ++ H⟩) (fun ⟨r, J4⟩ => Th us.length r) ?_ ?_
  ·skip
   refine Zu fun K hK => Qa Z (YO (H4 (I := J1) Z (Qo Wa QF) hL Wa) (Yt Z Z (hK _ _ (Q7 (kp6 Z Z Z Z Z Z) ?_))))
   refine XD Z (fun h2 => ?_) (fun h2 => ?_)
   ·rw [h2]
    simp only [qA] at h2
    refine Z5 fun K hK => mv2 Z Z (Qa Z ?_)
    obtain ⟨x2, J2, hx2, hc2⟩ := Co (I := nxI J1) (H := (kg, gB L (nxI J1) eg) :: H) QF hU.cons (hC.pr rfl) hL h2n hn
    refine YO (hc2 _ _ rfl (J6 (B := [_, _, _, _, _]) hB Wl (by intro p hp h; simp only [Qi0, QiZ, or_false] at hp; rcases hp with rfl | rfl | rfl | rfl | rfl <;> first | rfl | (simp only at h; omega)))) ?_
    refine QK Z (by repeat (first | exact hB.none Wg | refine ZA Wi ?_)) ?_
    refine QdA Z Z Wn ⟨_, rfl, rfl, rfl, rfl, rfl⟩ (by repeat (first | exact hB.none Wg | refine ZA Wi ?_)) (Qo Wg (Qo Wa (Qo Wa Z))) Z Z Z Wd Wd ?_
    refine Qa Z (hK _ ?_)
    refine Zo ([x1, x2], J2) ?_ ?_
    ·exact le_trans (L0 (l := [0, 1, 7, 8]) (B := [_, _, _, _, _, _, _, _, _]) (A := [(7, ⟨(ns).map (fun r => [Q8 r]), 1, 61, true⟩), (kg, gB L J2 eg)]) 30 9 (kp4 rfl rfl rfl rfl) rfl rfl rfl Wq (by intro p hp hk; simp only [Qi0, QiZ, or_false] at hp; rcases hp with rfl | rfl | rfl | rfl <;> first | (simp [D.ids, D.sid, Q8, Q9, QN] at hk; done) | (simp [D.ids, D.sid, Q8, Q9, QN] at hk; omega)) (by intro p hp; simp only [Qi0, QiZ, or_false] at hp; rcases hp with rfl | rfl <;> exact ⟨by first | decide | (simp only; omega), by repeat (first | exact QF | refine Qo Wi ?_), rfl⟩) (by intro p hp h; simp only [Qi0, QiZ, or_false] at hp; rcases hp with rfl | rfl | rfl | rfl | rfl | rfl | rfl | rfl | rfl <;> first | (simp only at h; omega) | (repeat (first | exact Q5 | refine Q3 ?_))) hB hC (by intro p hp k hk; simp only [Qi0, QiZ, or_false] at hp; rcases hp with rfl | rfl | rfl | rfl <;> first | (simp [D.ids, D.sid, Q8, Q9, QN] at hk; done) | (simp [D.ids, D.sid, Q8, Q9, QN] at hk; subst hk; repeat (first | exact Q5 | exact Zy hg | exact Zy hu | refine Q3 ?_)))) (Pf (l := [0, 1, 7, 8, 9]) (B := [_, _]) (kp5 rfl rfl rfl rfl rfl) rfl (by intro p hp; simp only [Qi0, QiZ, or_false] at hp; rcases hp with rfl | rfl <;> exact ⟨by repeat (first | exact QF | refine Qo Wi ?_), rfl⟩) rfl (by intro p hp h; simp only [Qi0, QiZ, or_false] at hp; rcases hp with rfl | rfl <;> first | (simp only at h; omega) | (repeat (first | exact Q5 | refine Q3 ?_))) hB hC (by intro p hp k hk; simp only [Qi0, QiZ, or_false] at hp; rcases hp with rfl | rfl | rfl | rfl | rfl <;> first | (simp [D.ids, D.sid, Q8, Q9, QN] at hk; done) | (simp [D.ids, D.sid, Q8, Q9, QN] at hk; subst hk; repeat (first | exact Q5 | exact Zy hg | exact Zy hu | refine Q3 ?_))))
    ·exact Qex hx1 hx2
   ·rw [h2]
    simp only [qA] at h2
    refine XU ?_
    refine Zo ([x1], nxI J1) ?_ ?_
    ·exact le_trans (L0 (l := [0, 1, 7, 8]) (B := [_, _, _, _, _]) (A := [(7, ⟨(ns).map (fun r => [Q8 r]), 1, 61, true⟩), (kg, gB L (nxI J1) eg)]) 21 9 (kp4 rfl rfl rfl rfl) rfl (Qo Wa rfl) rfl Wq (by intro p hp hk; simp only [Qi0, QiZ, or_false] at hp; rcases hp with rfl | rfl | rfl | rfl <;> first | (simp [D.ids, D.sid, Q8, Q9, QN] at hk; done) | (simp [D.ids, D.sid, Q8, Q9, QN] at hk; omega)) (by intro p hp; simp only [Qi0, QiZ, or_false] at hp; rcases hp with rfl | rfl <;> exact ⟨by first | decide | (simp only; omega), by repeat (first | exact QF | refine Qo Wi ?_), rfl⟩) (by intro p hp h; simp only [Qi0, QiZ, or_false] at hp; rcases hp with rfl | rfl | rfl | rfl | rfl <;> first | (simp only at h; omega) | (repeat (first | exact Q5 | refine Q3 ?_))) hB hC (by intro p hp k hk; simp only [Qi0, QiZ, or_false] at hp; rcases hp with rfl | rfl | rfl | rfl <;> first | (simp [D.ids, D.sid, Q8, Q9, QN] at hk; done) | (simp [D.ids, D.sid, Q8, Q9, QN] at hk; subst hk; repeat (first | exact Q5 | exact Zy hg | exact Zy hu | refine Q3 ?_)))) (Pf (l := [0, 1, 7, 8, 9]) (B := [_, _]) (kp5 rfl rfl rfl rfl rfl) rfl (by intro p hp; simp only [Qi0, QiZ, or_false] at hp; rcases hp with rfl | rfl <;> exact ⟨by repeat (first | exact QF | refine Qo Wi ?_), rfl⟩) rfl (by intro p hp h; simp only [Qi0, QiZ, or_false] at hp; rcases hp with rfl | rfl <;> first | (simp only at h; omega) | (repeat (first | exact Q5 | refine Q3 ?_))) hB hC (by intro p hp k hk; simp only [Qi0, QiZ, or_false] at hp; rcases hp with rfl | rfl | rfl | rfl | rfl <;> first | (simp [D.ids, D.sid, Q8, Q9, QN] at hk; done) | (simp [D.ids, D.sid, Q8, Q9, QN] at hk; subst hk; repeat (first | exact Q5 | exact Zy hg | exact Zy hu | refine Q3 ?_))))
    ·exact Qew hx1
  intro ⟨r, J4⟩ hJ
  dsimp only at hJ
  dsimp only
  refine Z5 fun K hK => mv2 Z Z ?_
  refine QK Z (by repeat (first | exact hB.none Wg | refine ZA Wi ?_)) ?_
  refine Xw Z Z (fun _ h => Xj Z Z Z h) Z Wd Z Z Z Wf Wf (Qa Z (hK _ ?_))
  refine Qf (Zf (kp4 Z Z Z Z) (Z5 fun K hK => Qa Z (Hl Z Z Wb (Qa Z (hK _ ?_)))))
  refine Qi (k - 1, ns ++ [r], J4) ?_ ?_ ?_
  ·exact le_trans (Qfy (B := [_, _, _, _]) 7 hB hC) (Pf (l := [0, 1, 7, 8]) (A := [(7, ⟨ns.map (fun r => [Q8 r]) ++ [[Q8 r]], 1, 61, true⟩), (kg, gB L J4 eg)]) (B := [_, _, _, _]) (kp4 rfl rfl rfl rfl) (by simp [D.scrub, show ¬ kg = 7 by omega, show ¬ ku = 7 by omega] <;> omega) (by intro p hp; simp only [Qi0, QiZ, or_false] at hp; rcases hp with rfl | rfl <;> exact ⟨by repeat (first | exact QF | refine Qo Wi ?_), rfl⟩) Wd (by intro p hp h; simp only [Qi0, QiZ, or_false] at hp; rcases hp with rfl | rfl | rfl | rfl <;> first | (simp only at h; omega) | (repeat (first | exact Q5 | refine Q3 ?_))) hB hC (by intro p hp k hk; simp only [Qi0, QiZ, or_false] at hp; rcases hp with rfl | rfl | rfl | rfl <;> first | (simp [D.ids, D.sid, Q8, Q9, QN] at hk; done) | (simp [D.ids, D.sid, Q8, Q9, QN] at hk; subst hk; repeat (first | exact Q5 | exact Zy hg | exact Zy hu | refine Q3 ?_))))
  ·exact ⟨by simp only [List.length_append, List.length_singleton]; omega, Qa4 hI.2 hJ⟩
  ·show k - 1 < k; omega
 ·rw [h1]
  simp only [qA] at h1
  refine NO (X1 (Qs (QC (Zf (kp1 Z) (Zu fun K hK => mv2 Z Z (hK _ _ (Q7 (kp1 Z) ?_)))))))
  refine Ti ?_
  refine ⟨Q9 ns, (kg, gB L J eg) :: H, ⟨ns, _, ⟨Wa, hI.2⟩, rfl, rfl⟩, (XR hB hC hkg rfl).1, (XR hB hC hkg rfl).2, ?_⟩
  refine JJ Z (by simp [Qbr, D.fz, D.fzS, Rd, lk, D.can, D.canS, Q9]) ?_
  exact J6 (B := [_, _]) hB Wl (by intro p hp h; simp only [Qi0, QiZ, or_false] at hp; rcases hp with rfl | rfl <;> first | rfl | (simp only at h; omega))
open Go Go.Abs M3 M25
theorem _root_.We {p : Prop} (h : p := by repeat (first | exact QF | refine Qo (by omega) ?_)) : p := h
theorem GM {kg : Nat} {L : List Int} {I most : Int} {eg eu ec : Nat} (heu : eu = 56) (hec : ec = 63) (hkg : 1000000 <= kg) (hL : ∀ x ∈ L, I64 x) (hm0 : 1 <= most) (hm1 : most <= 5) : ∃ d H2, (∃ us I2, (UnitsIn us /\ 2 <= us.length /\ us.length <= 11) /\ d = .osl 500000 us.length /\ H2 = ((500000, ⟨us.map dUR, 3, eu, false⟩) :: fbx ec us) ++ [(kg, gB L I2 eg), (kg, gB L I eg)]) /\ OkH Tryz.prog 30 [.ref kg 0 0, .int .i64 most] [(kg, gB L I eg)] d H2 := by
 subst heu hec
 have e3 : ¬ kg = 500000 := Wa
 have k1 := QcK (a := 18) (b := 500000) hkg Wg Wg
 have k2 := QcK (a := 16) (b := 500001) hkg Wg Wg
 refine OkH.ofX (R := fun d H2 => ∃ us I2, (UnitsIn us /\ 2 <= us.length /\ us.length <= 11) /\ d = .osl 500000 us.length /\ H2 = ((500000, ⟨us.map dUR, 3, 56, false⟩) :: fbx 63 us) ++ [(kg, gB L I2 eg), (kg, gB L I eg)]) ZN Tryz.func30 QhS (QiY Z) ?_
 show TX _ _ tf30.body _ _
 refine Zu fun K hK => Qa Z (hK _ _ (Q7 (kp2 Z Z) ?_))
 refine Zu fun K hK => ?_
 refine QK Z (by repeat (first | exact Z | refine ZA Wi ?_)) ?_
 refine Qa Z (hK _ _ (Q7 (kp3 Z Z Z) ?_))
 refine Bq (L0 (l := [0, 1]) (B := [_]) (A := []) (H0 := [(kg, gB L I eg)]) 14 5 (kp2 rfl rfl) rfl rfl rfl rfl (by intro p hp hk; simp only [Qi0, QiZ, or_false] at hp; rcases hp with rfl | rfl <;> first | (simp [D.ids, D.sid, Q8, Q9, QN] at hk; done) | (simp [D.ids, D.sid, Q8, Q9, QN] at hk; omega)) (by intro p hp; cases hp) (by intro p hp h; simp only [Qi7] at hp; subst hp; simp only at h; omega) (fun k b h => by obtain ⟨rfl, rfl⟩ := Jh h; exact hkg) (fun k b h j hj => by obtain ⟨rfl, rfl⟩ := Jh h; simp [Box.ids, gB] at hj) (by intro p hp k hk; simp only [Qi0, QiZ, or_false] at hp; rcases hp with rfl | rfl <;> first | (simp [D.ids, D.sid, Q8, Q9, QN] at hk; done) | (simp [D.ids, D.sid, Q8, Q9, QN] at hk; subst hk; repeat (first | exact Q5 | refine Q3 ?_)))) ?_
 refine Zu fun K hK => Q1 Z Z ?_
 refine QK Z (by repeat (first | exact Z | refine ZA Wi ?_)) ?_
 refine Q1 Z Z ?_
 refine QK Z (by repeat (first | exact Z | refine ZA Wi ?_)) ?_
 refine Qa Z (hK _ _ (Q7 (kp4 Z Z Z Z) ?_))
 refine Zu fun K hK => Qw (Xy) Z Z (.inl Z) (Qa Z (hK _ _ (Q7 (kp5 Z Z Z Z Z) ?_)))
 refine JM ?_ -- 0
 refine Zu fun K hK => Qa Z (hK _ _ (Q7 (kp6 Z Z Z Z Z Z) ?_))
 refine Xn ?_
 refine MH (ι := List UR × Int × Nat) (fun ⟨us, J, n⟩ => ⟨[(0, .ref kg 0 0), (1, .int .i64 most), (5, .sl (Y1 names5)), (6, .osl 500000 us.length), (7, .sl (versions.map dVr)), (8, .int .i64 n)], [(500000, ⟨(us).map dUR, 3, 56, false⟩), (kg, gB L (J) eg)] ++ fbx 63 (us)⟩) (fun ⟨us, J, n⟩ => UnitsIn us /\ us.length <= 1 + 2 * n /\ n <= 5 /\ 1 + n <= us.length) (fun ⟨us, J, n⟩ => 5 - n) ([u0 v0], I, 0) ?_ ?_ ?_
 ·refine Qaw (l := [0, 1, 5, 6, 7, 8]) hkg (kp6 Z Z Z Z Z Z) ?_; simp only [List.map_cons, List.map_nil, D.ren, D.renS, k1, k2]; rfl
 ·exact ⟨UnitsIn.zero, by simp, Wa, by simp⟩
 intro ⟨us, J, n⟩ hI
 dsimp only at hI
 have e1 : ¬ kg = 500001 + us.length := Wa
 have e2 : ¬ 500000 = 500001 + us.length := Wa
 have e4 : ¬ 500001 + us.length = 500000 := Wa
 have hx0 : 0 <= nx L J most := RE
 have hx1 : nx L J most < most := TT Wa
 have hn5 := Zc
 have hv4 := QeJ
 dsimp only
 refine JM ?_ -- 1
 refine Zu fun K hK => mv2 Z Z (Qa Z ?_)
 refine YO (H4 (I := J) Z We hL Wa) ?_
 refine QW Z Z Wb (ZS Z Z (Qa Z ?_))
 refine Qu (g := 26) Z (fun h1 => ?_) (fun h1 => ?_)
 ·rw [h1]
  simp only [qA] at h1
  refine Qe Z (Qa Z (Qe Z (Qa Z (Qe Z (Zb Z QU (Qe Z (ZS Z Z (Qh Z Z (hK _ _ (Q7 (kp7 Z Z Z Z Z Z Z) ?_))))))))))
  refine XD Z (fun h2 => ?_) (fun h2 => ?_)
  ·rw [h2]
   simp only [qA] at h2
   refine XU (Zf (kp6 Z Z Z Z Z Z) ?_)
   refine JM ?_ -- 2
   refine Xn (Zu fun K hK => Qa Z (hK _ _ (Q7 (kp7 Z Z Z Z Z Z Z) ?_)))
   refine Zu fun K hK => Qa Z ?_
   refine YO (H4 (I := nxI J) Z We hL Wa) ?_
   refine Qa Z (hK _ _ (Q7 (kp8 Z Z Z Z Z Z Z Z) ?_))
   refine JM ?_ -- 3
   refine Zu fun K hK => Qa Z (hK _ _ (Q7 (kp9 Z Z Z Z Z Z Z Z Z) ?_))
   refine Xn ?_
   refine MH (ι := List CR × Nat) (fun ⟨cs, i⟩ => ⟨[(0, .ref kg 0 0), (1, .int .i64 most), (5, .sl (Y1 names5)), (6, .osl 500000 us.length), (7, .sl (versions.map dVr)), (8, .int .i64 n), (9, .osl (500001 + us.length) cs.length), (10, .int .i64 (nx L (nxI J) 16)), (11, .int .i64 i)], [(500001 + (us).length, ⟨(cs).map dCR, 8, 63, true⟩), (500000, ⟨(us).map dUR, 3, 56, false⟩), (kg, gB L (nxI (nxI J)) eg)] ++ fbx 63 (us)⟩) (fun ⟨cs, i⟩ => i <= 4 /\ CsIn i cs) (fun ⟨cs, i⟩ => 4 - i) ([], 0) ?_ ?_ ?_
   ·exact le_trans (ZT 9 (500001 + us.length) 8 63 rfl (by repeat (first | exact Y2 hI.1.keys (.inr Wa) | refine ZA Wa ?_))) (QeX (l := [0, 1, 5, 6, 7, 8, 9, 10, 11]) (B := [_, _, _, _, _]) (kp9 rfl rfl rfl rfl rfl rfl rfl rfl rfl) rfl hI.1.keys We We We (by intro p hp h; simp only [Qi0, QiZ, or_false] at hp; rcases hp with rfl | rfl | rfl | rfl | rfl <;> first | (simp only at h; omega) | exact .inl rfl | exact .inr rfl) (by intro p hp k hk; simp only [Qi0, QiZ, or_false] at hp; rcases hp with rfl | rfl | rfl | rfl | rfl | rfl | rfl | rfl | rfl <;> first | (simp [D.ids, D.sid, Q8, Q9, QN] at hk; done) | (simp [D.ids, D.sid, Q8, Q9, QN] at hk; subst hk; first | exact .inl rfl | exact .inr (.inl rfl) | exact .inr (.inr (.inl rfl)) | (refine .inr (.inr (.inl ?_)); simp; done) | (first | exact .inr (.inr ⟨_, Qjd _ (Qi7.2 rfl), rfl⟩) | exact .inr (.inr (.inr ⟨_, Qjd _ (Qi7.2 rfl), rfl⟩))))))
   ·exact ⟨Wa, CsIn.nil _⟩
   intro ⟨cs, i⟩ hC
   dsimp only at hC
   have hcl := hC.2.1
   dsimp only
   refine JM ?_ -- 4
   refine Zu fun K hK => mv2 Z Z (Zb Z QU (ZS Z Z (hK _ _ (Q7 (Fa Z Z Z Z Z Z Z Z Z Z) ?_))))
   refine XD Z (fun h3 => ?_) (fun h3 => ?_)
   ·rw [h3]
    simp only [qA] at h3
    refine XU (Zf (kp9 Z Z Z Z Z Z Z Z Z) ?_)
    refine JM ?_ -- 5
    refine Xn (Zu fun K hK => mv2 Z Z (NL Z (Ni Wa Wa) (Qe8 Z Z Wa (Nj Z Z (Yt Z Z (hK _ _ (Q7 (Fa Z Z Z Z Z Z Z Z Z Z) ?_)))))))
    refine XD Z (fun h4 => ?_) (fun h4 => ?_)
    ·rw [h4]
     simp only [qA] at h4
     refine Z5 fun K hK => mv2 Z Z (Qa Z (QG Z Z Z Wa (QV Wa) Z (QD (cs := [_, _, _, _, _]) Z Z Z Z (Q1 Z Z ?_))))
     refine QK Z (by repeat (first | exact Y2 hI.1.keys (.inl Wa) | exact Y2 hK1.keys (.inl Wa) | refine ZA Wi ?_)) ?_
     refine Xw (hk0 := Wa) Z Z (fun _ h => Xj Z Z Z h) (Qo Wa QF) Wd Z Z Z Wf Wf (Qa Z (hK _ ?_))
     refine Qf (Zf (kp9 Z Z Z Z Z Z Z Z Z) (Z5 fun K hK => Qa Z (QW Z Z Wb (Qa Z (hK _ ?_)))))
     refine Qi (cs ++ [zr (versions[i]'Wa) 0], i + 1) ?_ ?_ ?_
     ·exact le_trans (Su (B := [_, _, _, _, _]) (500001 + us.length) (M1 _ _)) (QeX (l := [0, 1, 5, 6, 7, 8, 9, 10, 11]) (B := [_, _, _, _, _]) (kp9 rfl rfl rfl rfl rfl rfl rfl rfl rfl) (by simp [D.scrub, e1, e2, e3, e4] <;> omega) hI.1.keys (by rw [List.map_append]; exact QF) (by repeat (first | exact QF | exact D8 (Lg hI.1.keys) | refine Qo Wa ?_)) We (by intro p hp h; simp only [Qi0, QiZ, or_false] at hp; rcases hp with rfl | rfl | rfl | rfl | rfl <;> first | (simp only at h; omega) | exact .inl rfl | exact .inr rfl) (by intro p hp k hk; simp only [Qi0, QiZ, or_false] at hp; rcases hp with rfl | rfl | rfl | rfl | rfl | rfl | rfl | rfl | rfl <;> first | (simp [D.ids, D.sid, Q8, Q9, QN] at hk; done) | (simp [D.ids, D.sid, Q8, Q9, QN] at hk; subst hk; first | exact .inl rfl | exact .inr (.inl rfl) | exact .inr (.inr (.inl rfl)) | (refine .inr (.inr (.inl ?_)); simp; done) | (first | exact .inr (.inr ⟨_, Qjd _ (Qi7.2 rfl), rfl⟩) | exact .inr (.inr (.inr ⟨_, Qjd _ (Qi7.2 rfl), rfl⟩))))))
     ·dsimp only
      exact ⟨Wa, hC.2.snoc (QfW Wa)⟩
     ·show 4 - (i + 1) < 4 - i; omega
    ·rw [h4]
     simp only [qA] at h4
     refine XU (Qf (Zf (kp9 Z Z Z Z Z Z Z Z Z) (Z5 fun K hK => Qa Z (QW Z Z Wb (Qa Z (hK _ ?_))))))
     refine Qi (cs, i + 1) ?_ ?_ ?_
     ·exact QeX (l := [0, 1, 5, 6, 7, 8, 9, 10, 11]) (B := [_, _, _]) (kp9 rfl rfl rfl rfl rfl rfl rfl rfl rfl) rfl hI.1.keys We We We (by intro p hp h; simp only [Qi0, QiZ, or_false] at hp; rcases hp with rfl | rfl | rfl <;> first | (simp only at h; omega) | exact .inl rfl | exact .inr rfl) (by intro p hp k hk; simp only [Qi0, QiZ, or_false] at hp; rcases hp with rfl | rfl | rfl | rfl | rfl | rfl | rfl | rfl | rfl <;> first | (simp [D.ids, D.sid, Q8, Q9, QN] at hk; done) | (simp [D.ids, D.sid, Q8, Q9, QN] at hk; subst hk; first | exact .inl rfl | exact .inr (.inl rfl) | exact .inr (.inr (.inl rfl)) | (refine .inr (.inr (.inl ?_)); simp; done) | (first | exact .inr (.inr ⟨_, Qjd _ (Qi7.2 rfl), rfl⟩) | exact .inr (.inr (.inr ⟨_, Qjd _ (Qi7.2 rfl), rfl⟩)))))
     ·dsimp only
      exact ⟨Wa, hC.2.keep⟩
     ·show 4 - (i + 1) < 4 - i; omega
   ·rw [h3]
    simp only [qA] at h3
    refine NO (X1 (Qs (QC (Zf (kp7 Z Z Z Z Z Z Z) (Zu fun K hK => mv2 Z Z (Qa Z (QG Z Z Z Wa (QV Wa) Z (Qy Z Z Z (Qa Z ?_)))))))))
    refine Q1 Z Z ?_
    refine QK Z (by repeat (first | exact Y2 hI.1.keys (.inl Wa) | exact Y2 hK1.keys (.inl Wa) | refine ZA Wi ?_)) ?_
    refine Lx (hk0 := by decide) Z Z (fun _ h => Xj Z Z Z h) (Qo Wa (Qo Wa QF)) Wd Z Z (.inr (CE hI.1.keys Wa)) Wf Wf (Qa Z (hK _ _ (Q7 (kp7 Z Z Z Z Z Z Z) ?_)))
    have hc4 : CsIn 4 cs := ⟨Wa, hC.2.2⟩
    refine Bq (le_trans (Su (B := [_, _, _, _, _]) 500000 (M1 _ _)) (QfU (u := (UR.mk (names5[n]'(by have := Zc; omega)) [] (500001 + us.length) cs)) (l := [0, 1, 5, 6, 7, 8, 9]) (fr' := [(0, .ref kg 0 0), (1, .int .i64 most), (5, .sl (Y1 names5)), (6, .osl 500000 (us ++ [(UR.mk (names5[n]'(by have := Zc; omega)) [] (500001 + us.length) cs)]).length), (7, .sl (versions.map dVr)), (8, .int .i64 n), (9, .osl (500001 + us.length) cs.length)]) (B := [_, _, _, _, _]) (kp7 rfl rfl rfl rfl rfl rfl rfl) (by simp [D.scrub, e1, e2, e3, e4]) hI.1.keys rfl We (by rw [List.map_append]; exact QF) We (by intro p hp h; simp only [Qi0, QiZ, or_false] at hp; rcases hp with rfl | rfl | rfl | rfl | rfl <;> first | (simp only at h; omega) | exact .inl rfl | exact .inr rfl) hkg Wa (by intro p hp k hk; simp only [Qi0, QiZ, or_false] at hp; rcases hp with rfl | rfl | rfl | rfl | rfl | rfl | rfl <;> first | (simp [D.ids, D.sid, Q8, Q9, QN] at hk; done) | (simp [D.ids, D.sid, Q8, Q9, QN] at hk; subst hk; first | exact .inl rfl | exact .inr (.inl rfl) | (first | exact .inr (.inr ⟨_, Qjd _ (Qi7.2 rfl), rfl⟩) | exact .inr (.inr (.inr ⟨_, Qjd _ (Qi7.2 rfl), rfl⟩))))))) ?_
    have hK1 := hI.1.snoc (n := (names5[n]'(by have := Zc; omega))) (f := []) hc4.1 hc4.2
    have hl1 : (us ++ [(UR.mk (names5[n]'(by have := Zc; omega)) [] (500001 + us.length) cs)]).length = us.length + 1 := by simp
    have f1 : ¬ kg = 500001 + (us ++ [(UR.mk (names5[n]'(by have := Zc; omega)) [] (500001 + us.length) cs)]).length := Wa
    have f2 : ¬ 500000 = 500001 + (us ++ [(UR.mk (names5[n]'(by have := Zc; omega)) [] (500001 + us.length) cs)]).length := Wa
    have f4 : ¬ 500001 + (us ++ [(UR.mk (names5[n]'(by have := Zc; omega)) [] (500001 + us.length) cs)]).length = 500000 := Wa
    have f5 : ¬ 500001 + us.length = 500001 + (us ++ [(UR.mk (names5[n]'(by have := Zc; omega)) [] (500001 + us.length) cs)]).length := Wa
    refine Zu fun K hK => Qa Z (ZS Z Z (Qa Z ?_))
    refine Qu (g := 67) Z (fun h5 => ?_) (fun h5 => ?_)
    ·rw [h5]
     simp only [qA] at h5
     refine Qe Z (Qa Z (Qe Z ?_))
     refine YO (H4 (I := nxI (nxI J)) Z We hL Wa) ?_
     refine Qe Z (Yt Z Z (Qh Z Z (hK _ _ (Q7 (kp8 Z Z Z Z Z Z Z Z) ?_))))
     refine XD Z (fun h6 => ?_) (fun h6 => ?_)
     ·rw [h6]
      simp only [qA] at h6
      refine Zu fun K hK => Qa Z (hK _ _ (Q7 (kp8 Z Z Z Z Z Z Z Z) ?_))
      refine JM ?_ -- 6
      refine Zu fun K hK => Qa Z (hK _ _ (Q7 (kp9 Z Z Z Z Z Z Z Z Z) ?_))
      refine Xn ?_
      refine MH (ι := List CR × Nat × Int) (fun ⟨c2, m, J3⟩ => ⟨[(0, .ref kg 0 0), (1, .int .i64 most), (5, .sl (Y1 names5)), (6, .osl 500000 (us ++ [(UR.mk (names5[n]'(by have := Zc; omega)) [] (500001 + us.length) cs)]).length), (7, .sl (versions.map dVr)), (8, .int .i64 n), (9, .osl (500001 + us.length) cs.length), (12, .osl (500001 + (us ++ [(UR.mk (names5[n]'(by have := Zc; omega)) [] (500001 + us.length) cs)]).length) c2.length), (13, .int .i64 m)], [(500001 + (us ++ [(UR.mk (names5[n]'(by have := Zc; omega)) [] (500001 + us.length) cs)]).length, ⟨(c2).map dCR, 8, 63, true⟩), (500000, ⟨(us ++ [(UR.mk (names5[n]'(by have := Zc; omega)) [] (500001 + us.length) cs)]).map dUR, 3, 56, false⟩), (kg, gB L (J3) eg)] ++ fbx 63 (us ++ [(UR.mk (names5[n]'(by have := Zc; omega)) [] (500001 + us.length) cs)])⟩) (fun ⟨c2, m, J3⟩ => m <= cs.length /\ CsIn m c2) (fun ⟨c2, m, J3⟩ => cs.length - m) ([], 0, nxI (nxI (nxI J))) ?_ ?_ ?_
      ·exact le_trans (ZT 12 (500001 + (us ++ [(UR.mk (names5[n]'(by have := Zc; omega)) [] (500001 + us.length) cs)]).length) 8 63 rfl (by repeat (first | exact Y2 hK1.keys (.inr Wa) | refine ZA Wa ?_))) (QeX (l := [0, 1, 5, 6, 7, 8, 9, 12, 13]) (B := [_, _, _, _]) (kp9 rfl rfl rfl rfl rfl rfl rfl rfl rfl) rfl hK1.keys We We We (by intro p hp h; simp only [Qi0, QiZ, or_false] at hp; rcases hp with rfl | rfl | rfl | rfl <;> first | (simp only at h; omega) | exact .inl rfl | exact .inr rfl) (by intro p hp k hk; simp only [Qi0, QiZ, or_false] at hp; rcases hp with rfl | rfl | rfl | rfl | rfl | rfl | rfl | rfl | rfl <;> first | (simp [D.ids, D.sid, Q8, Q9, QN] at hk; done) | (simp [D.ids, D.sid, Q8, Q9, QN] at hk; subst hk; first | exact .inl rfl | exact .inr (.inl rfl) | exact .inr (.inr (.inl rfl)) | (refine .inr (.inr (.inl ?_)); simp; done) | (first | exact .inr (.inr ⟨_, Qjd _ (Qi7.2 rfl), rfl⟩) | exact .inr (.inr (.inr ⟨_, Qjd _ (Qi7.2 rfl), rfl⟩))))))
      ·exact ⟨Wa, CsIn.nil _⟩
      intro ⟨c2, m, J3⟩ hM
      dsimp only at hM
      have hcl2 := hM.2.1
      dsimp only
      refine JM ?_ -- 7
      refine Zu fun K hK => mv2 Z Z (Zb Z Z (ZS Z Z (hK _ _ (Q7 (Fa Z Z Z Z Z Z Z Z Z Z) ?_))))
      refine XD Z (fun h7 => ?_) (fun h7 => ?_)
      ·rw [h7]
       simp only [qA] at h7
       refine XU (Zf (kp9 Z Z Z Z Z Z Z Z Z) ?_)
       refine JM ?_ -- 8
       refine Xn (Zu fun K hK => Qa Z ?_)
       refine YO (H4 (I := J3) Z We hL Wa) ?_
       refine GF Z Z (hK _ _ (Q7 (Fa Z Z Z Z Z Z Z Z Z Z) ?_))
       refine XD Z (fun h8 => ?_) (fun h8 => ?_)
       ·rw [h8]
        simp only [qA] at h8
        refine Z5 fun K hK => mv2 Z Z (Qa Z (Jj Z Z (Qo Wa (Qo Wa (Qo Wa (Qo Wa (Sd (u := (UR.mk (names5[n]'(by have := Zc; omega)) [] (500001 + us.length) cs)) hI.1.keys Z))))) Wd Wa Wa Z (Qg Z (Zy (Qo Wa (Qo Wa (Qo Wa (Qo Wa (Sd (u := (UR.mk (names5[n]'(by have := Zc; omega)) [] (500001 + us.length) cs)) hI.1.keys Z)))))) (QD (cs := [_, _, _, _, _]) Z (Ye (Qo Wa (Qo Wa (Qo Wa (Qo Wa (Sd (u := (UR.mk (names5[n]'(by have := Zc; omega)) [] (500001 + us.length) cs)) hI.1.keys Z))))) (QV (l := cs) Wa)) Z Z (Q1 Z Z ?_)))))
        refine QK Z (by repeat (first | exact Y2 hI.1.keys (.inl Wa) | exact Y2 hK1.keys (.inl Wa) | refine ZA Wi ?_)) ?_
        refine Xw (hk0 := Wa) Z Z (fun _ h => Xj Z Z Z h) (Qo Wa (Qo Wa QF)) Wd Z Z Z Wf Wf (Qa Z (hK _ ?_))
        refine Qf (Zf (kp9 Z Z Z Z Z Z Z Z Z) (Z5 fun K hK => Qa Z (QW Z Z Wb (Qa Z (hK _ ?_)))))
        refine Qi (c2 ++ [zr (cs[m]'Wa).v 0], m + 1, nxI J3) ?_ ?_ ?_
        ·exact le_trans (Su (B := [_, _, _, _, _, _]) (500001 + (us ++ [(UR.mk (names5[n]'(by have := Zc; omega)) [] (500001 + us.length) cs)]).length) (M1 _ _)) (QeX (l := [0, 1, 5, 6, 7, 8, 9, 12, 13]) (B := [_, _, _, _, _, _]) (kp9 rfl rfl rfl rfl rfl rfl rfl rfl rfl) (by simp [D.scrub, f1, f2, f4, f5] <;> omega) hK1.keys (by rw [QdY (cs := c2)]; exact QF) (by repeat (first | exact QF | exact D8 (Lg hK1.keys) | refine Qo Wa ?_)) We (by intro p hp h; simp only [Qi0, QiZ, or_false] at hp; rcases hp with rfl | rfl | rfl | rfl | rfl | rfl <;> first | (simp only at h; omega) | exact .inl rfl | exact .inr rfl) (by intro p hp k hk; simp only [Qi0, QiZ, or_false] at hp; rcases hp with rfl | rfl | rfl | rfl | rfl | rfl | rfl | rfl | rfl <;> first | (simp [D.ids, D.sid, Q8, Q9, QN] at hk; done) | (simp [D.ids, D.sid, Q8, Q9, QN] at hk; subst hk; first | exact .inl rfl | exact .inr (.inl rfl) | exact .inr (.inr (.inl rfl)) | (refine .inr (.inr (.inl ?_)); simp; done) | (first | exact .inr (.inr ⟨_, Qjd _ (Qi7.2 rfl), rfl⟩) | exact .inr (.inr (.inr ⟨_, Qjd _ (Qi7.2 rfl), rfl⟩))))))
        ·dsimp only
         exact ⟨Wa, hM.2.snoc (hC.2.at Wa)⟩
        ·show cs.length - (m + 1) < cs.length - m; omega
       ·rw [h8]
        simp only [qA] at h8
        refine XU (Qf (Zf (kp9 Z Z Z Z Z Z Z Z Z) (Z5 fun K hK => Qa Z (QW Z Z Wb (Qa Z (hK _ ?_))))))
        refine Qi (c2, m + 1, nxI J3) ?_ ?_ ?_
        ·exact QeX (l := [0, 1, 5, 6, 7, 8, 9, 12, 13]) (B := [_, _, _, _]) (kp9 rfl rfl rfl rfl rfl rfl rfl rfl rfl) rfl hK1.keys We We We (by intro p hp h; simp only [Qi0, QiZ, or_false] at hp; rcases hp with rfl | rfl | rfl | rfl <;> first | (simp only at h; omega) | exact .inl rfl | exact .inr rfl) (by intro p hp k hk; simp only [Qi0, QiZ, or_false] at hp; rcases hp with rfl | rfl | rfl | rfl | rfl | rfl | rfl | rfl | rfl <;> first | (simp [D.ids, D.sid, Q8, Q9, QN] at hk; done) | (simp [D.ids, D.sid, Q8, Q9, QN] at hk; subst hk; first | exact .inl rfl | exact .inr (.inl rfl) | exact .inr (.inr (.inl rfl)) | (refine .inr (.inr (.inl ?_)); simp; done) | (first | exact .inr (.inr ⟨_, Qjd _ (Qi7.2 rfl), rfl⟩) | exact .inr (.inr (.inr ⟨_, Qjd _ (Qi7.2 rfl), rfl⟩)))))
        ·dsimp only
         exact ⟨Wa, hM.2.keep⟩
        ·show cs.length - (m + 1) < cs.length - m; omega
      ·rw [h7]
       simp only [qA] at h7
       refine NO (X1 (Qs (QC (Zf (kp7 Z Z Z Z Z Z Z) (Z5 fun K hK => mv2 Z Z (Qa Z (QG Z Z Z Wa (QV Wa) Z (Qy Z Z Z (Qa Z ?_)))))))))
       refine Q1 Z Z ?_
       refine QK Z (by repeat (first | exact Y2 hI.1.keys (.inl Wa) | exact Y2 hK1.keys (.inl Wa) | refine ZA Wi ?_)) ?_
       refine Lx (hk0 := by decide) Z Z (fun _ h => Xj Z Z Z h) (Qo Wa (Qo Wa QF)) Wd Z Z (.inr (CE hK1.keys Wa)) Wf Wf (Qa Z (hK _ ?_))
       refine Qf (Zf (kp6 Z Z Z Z Z Z) (Z5 fun K hK => Qa Z (QW Z Z Wb (Qa Z (hK _ ?_)))))
       refine Qi (us ++ [(UR.mk (names5[n]'(by have := Zc; omega)) [] (500001 + us.length) cs)] ++ [(UR.mk (names5[n]'(by have := Zc; omega)) [102] (500001 + (us ++ [(UR.mk (names5[n]'(by have := Zc; omega)) [] (500001 + us.length) cs)]).length) c2)], J3, n + 1) ?_ ?_ ?_
       ·exact le_trans (Su (B := [_, _, _, _, _]) 500000 (M1 _ _)) (QfU (u := (UR.mk (names5[n]'(by have := Zc; omega)) [102] (500001 + (us ++ [(UR.mk (names5[n]'(by have := Zc; omega)) [] (500001 + us.length) cs)]).length) c2)) (l := [0, 1, 5, 6, 7, 8]) (B := [_, _, _, _, _]) (kp6 rfl rfl rfl rfl rfl rfl) (by simp [D.scrub, f1, f2, e3, f4, e4] <;> omega) hK1.keys rfl We (by rw [QeH (u := (UR.mk (names5[n]'(by have := Zc; omega)) [102] (500001 + (us ++ [(UR.mk (names5[n]'(by have := Zc; omega)) [] (500001 + us.length) cs)]).length) c2))]; exact QF) We (by intro p hp h; simp only [Qi0, QiZ, or_false] at hp; rcases hp with rfl | rfl | rfl | rfl | rfl <;> first | (simp only at h; omega) | exact .inl rfl | exact .inr rfl) hkg Wa (by intro p hp k hk; simp only [Qi0, QiZ, or_false] at hp; rcases hp with rfl | rfl | rfl | rfl | rfl | rfl <;> first | (simp [D.ids, D.sid, Q8, Q9, QN] at hk; done) | (simp [D.ids, D.sid, Q8, Q9, QN] at hk; subst hk; first | exact .inl rfl | exact .inr (.inl rfl) | (first | exact .inr (.inr ⟨_, Qjd _ (Qi7.2 rfl), rfl⟩) | exact .inr (.inr (.inr ⟨_, Qjd _ (Qi7.2 rfl), rfl⟩))))))
       ·dsimp only
        exact ⟨hK1.snoc Wa hM.2.2, by simp; omega, Wa, by simp; omega⟩
       ·show 5 - (n + 1) < 5 - n; omega
     ·rw [h6]
      simp only [qA] at h6
      refine XU (Qf (Zf (kp6 Z Z Z Z Z Z) (Z5 fun K hK => Qa Z (QW Z Z Wb (Qa Z (hK _ ?_))))))
      refine Qi (us ++ [(UR.mk (names5[n]'(by have := Zc; omega)) [] (500001 + us.length) cs)], nxI (nxI (nxI J)), n + 1) ?_ ?_ ?_
      ·exact Qht (l := [0, 1, 5, 6, 7, 8]) (B := [_, _, _]) (kp6 rfl rfl rfl rfl rfl rfl) rfl hK1.keys We We (by intro p hp h; simp only [Qi0, QiZ, or_false] at hp; rcases hp with rfl | rfl | rfl <;> first | (simp only at h; omega) | rfl) Wa (by intro p hp k hk; simp only [Qi0, QiZ, or_false] at hp; rcases hp with rfl | rfl | rfl | rfl | rfl | rfl <;> first | (simp [D.ids, D.sid, Q8, Q9, QN] at hk; done) | (simp [D.ids, D.sid, Q8, Q9, QN] at hk; subst hk; first | exact .inl rfl | exact .inr (.inl rfl) | (first | exact .inr (.inr ⟨_, Qjd _ (Qi7.2 rfl), rfl⟩) | exact .inr (.inr (.inr ⟨_, Qjd _ (Qi7.2 rfl), rfl⟩)))))
      ·dsimp only
       exact ⟨hK1, by simp; omega, Wa, by simp; omega⟩
      ·show 5 - (n + 1) < 5 - n; omega
    ·rw [h5]
     simp only [qA] at h5
     refine gn3 Z Z Z (Qh Z Z (hK _ _ (Q7 (kp8 Z Z Z Z Z Z Z Z) ?_)))
     refine Bp Z (XU (Qf (Zf (kp6 Z Z Z Z Z Z) (Z5 fun K hK => Qa Z (QW Z Z Wb (Qa Z (hK _ ?_)))))))
     refine Qi (us ++ [(UR.mk (names5[n]'(by have := Zc; omega)) [] (500001 + us.length) cs)], nxI (nxI J), n + 1) ?_ ?_ ?_
     ·exact Qht (l := [0, 1, 5, 6, 7, 8]) (B := [_, _]) (kp6 rfl rfl rfl rfl rfl rfl) rfl hK1.keys We We (by intro p hp h; simp only [Qi0, QiZ, or_false] at hp; rcases hp with rfl | rfl <;> first | (simp only at h; omega) | rfl) Wa (by intro p hp k hk; simp only [Qi0, QiZ, or_false] at hp; rcases hp with rfl | rfl | rfl | rfl | rfl | rfl <;> first | (simp [D.ids, D.sid, Q8, Q9, QN] at hk; done) | (simp [D.ids, D.sid, Q8, Q9, QN] at hk; subst hk; first | exact .inl rfl | exact .inr (.inl rfl) | (first | exact .inr (.inr ⟨_, Qjd _ (Qi7.2 rfl), rfl⟩) | exact .inr (.inr (.inr ⟨_, Qjd _ (Qi7.2 rfl), rfl⟩)))))
     ·dsimp only
      exact ⟨hK1, by simp; omega, Wa, by simp; omega⟩
     ·show 5 - (n + 1) < 5 - n; omega
  ·rw [h2]
   simp only [qA] at h2
   refine NO (X1 (Qs (QC (Zf (kp1 Z) (Zu fun K hK => mv2 Z Z (hK _ _ (Q7 (kp1 Z) ?_)))))))
   refine Ti ?_
   refine ⟨.osl 500000 us.length, ((500000, ⟨us.map dUR, 3, 56, false⟩) :: fbx 63 us) ++ [(kg, gB L (nxI J) eg), (kg, gB L I eg)], ⟨us, _, ⟨hI.1, Wa, Wa⟩, rfl, rfl⟩, (KI (g3 := gB L J eg) hI.1.keys hkg Z Z Wa).1, (KI (g3 := gB L J eg) hI.1.keys hkg Z Z Wa).2.1, JJ Z Z (KI (g3 := gB L J eg) hI.1.keys hkg Z Z Wa).2.2⟩
 ·rw [h1]
  simp only [qA] at h1
  refine gn4 Z Z Z Z (Qh Z Z (hK _ _ (Q7 (kp7 Z Z Z Z Z Z Z) ?_)))
  refine Bp Z (NO (X1 (Qs (QC (Zf (kp1 Z) (Zu fun K hK => mv2 Z Z (hK _ _ (Q7 (kp1 Z) ?_))))))))
  refine Ti ?_
  refine ⟨.osl 500000 us.length, ((500000, ⟨us.map dUR, 3, 56, false⟩) :: fbx 63 us) ++ [(kg, gB L (nxI J) eg), (kg, gB L I eg)], ⟨us, _, ⟨hI.1, Wa, Wa⟩, rfl, rfl⟩, (KI (g3 := gB L J eg) hI.1.keys hkg Z Z Wa).1, (KI (g3 := gB L J eg) hI.1.keys hkg Z Z Wa).2.1, JJ Z Z (KI (g3 := gB L J eg) hI.1.keys hkg Z Z Wa).2.2⟩
open Go Go.Abs M3 M25
theorem Qep {kg : Nat} {L : List Int} {I most : Int} {eg eu ec : Nat} (heu : eu = 56) (hec : ec = 63) (hL : ∀ x ∈ L, I64 x) (hm0 : 1 <= most) (hm1 : most <= 5) :
  ∃ us I2, (UnitsIn us /\ 2 <= us.length /\ us.length <= 11) /\ ∀ (st : St) (args : List Opd), Zs st args = some [.ref kg 0 0, .int .i64 most] -> lk st.H kg = some (gB L I eg) -> (∀ j, 500000 <= j -> lk st.H j = none) -> Hq Tryz.prog 30 args st [(kg, gB L I eg)] ((500000, ⟨us.map dUR, 3, eu, false⟩) :: fbx ec us) [(kg, gB L I2 eg)] (.osl 500000 us.length) := by
 obtain ⟨d, H2, ⟨us, I2, hus, rfl, rfl⟩, hok⟩ := GM (kg := upN kg) (I := I) (eg := eg) heu hec (by unfold upN; omega) hL hm0 hm1
 refine ⟨us, I2, hus, fun st args ha hg hs => ⟨_, ha, fun k b h => ?_, fun k b h j hj => ?_, fun x hx j hj => ?_, fun k b h => ?_, fun k b h => ?_, fun k hk => ?_, hok⟩⟩
 ·obtain ⟨rfl, rfl⟩ := Jh h; exact hg
 ·obtain ⟨rfl, rfl⟩ := Jh h; simp [Box.ids, gB] at hj
 ·simp only [Qi0, QiZ, or_false] at hx
  rcases hx with rfl | rfl
  ·simp [D.ids, D.sid] at hj; subst hj; exact Q5
  ·simp [D.ids, D.sid] at hj
 ·obtain ⟨rfl, rfl⟩ := Jh h
  exact ⟨Q5, fun j hj => by simp [Box.ids, gB] at hj⟩
 ·have hK := hus.1.keys
  rw [Qm] at h
  split at h
  ·rename_i e; cases h; subst e
   refine ⟨by decide, hs _ (Nat.le_refl _), fun j hj => ?_⟩
   obtain ⟨u, hu, rfl⟩ := Hf hj
   exact Q3 (FK hK hu)
  ·obtain ⟨u, hu, rfl, rfl⟩ := RA h
   have := KZ hK hu
   exact ⟨Wa, hs _ Wa, fun j hj => by simp [Box.ids] at hj⟩
 ·simp [D.ids, D.sid] at hk; subst hk; exact Q5
theorem Da {H : QiV} {kg ku : Nat} {L : List Int} {I most : Int} {eg eu ec : Nat} {us : List UR} (hg : lk H kg = some (gB L I eg)) (hU : Fam H kg ku eu ec us) (hC : Closed H) (hL : ∀ x ∈ L, I64 x) (h2 : 2 <= us.length) (hn : us.length <= 48) (hm0 : 0 <= most) (hm1 : most <= 10) :
  ∃ ns I2, MF us.length most ns /\ ∀ (st : St) (args : List Opd), Zs st args = some [.ref kg 0 0, .osl ku us.length, .int .i64 most] -> (∀ j x, lk H j = some x -> lk st.H j = some x) -> Hq Tryz.prog 31 args st H [] [(kg, gB L I2 eg)] (Q9 ns) := by
 obtain ⟨d, H2, ⟨ns, I2, hx, rfl, rfl⟩, hok⟩ := GL (H := upH H) (kg := upN kg) (ku := upN ku) (L := L) (I := I) (most := most) (eg := eg) (eu := eu) (ec := ec) (us := us.map UR.ren) (by unfold upN; omega) (by rw [J7, hg]; rfl) hU.up Dn (NJ hC) hL (by simpa using h2) (by simpa using hn) hm0 hm1
 obtain ⟨pu, hu⟩ := hU.u
 rw [List.length_map] at hx hok
 refine ⟨ns, I2, hx, fun st args ha hF => DF (b' := gB L I2 eg) (ds' := [.ref (upN kg) 0 0, .osl (upN ku) us.length, .int .i64 most]) ha hF hC (fun x hx j hj => ?_) (Zy hg) Z Z Z Z hok⟩
 simp only [Qi0, QiZ, or_false] at hx
 rcases hx with rfl | rfl | rfl
 ·simp [D.ids, D.sid] at hj; subst hj; exact Zy hg
 ·simp [D.ids, D.sid] at hj; subst hj; exact Zy hu
 ·simp [D.ids, D.sid] at hj
theorem _root_.Wk {p : Prop} (h : p := by ((try simp only [Q9, D.ids, D.sid]); simp only [Dr.ok, Xf, Xg, Xh, List.all_append, List.all_cons, List.all_nil, Bool.and_true, Bool.true_and]; (try rw [XN (by rfl)]); simp [D.ids, D.sid]; done)) : p := h
theorem _root_.Wc {p : Prop} (h : p := by repeat (first | exact QF | exact MC | exact N1 | exact PV | refine Qo (by omega) ?_)) : p := h
theorem _root_.Wp {p : Prop} (h : p := by ((try simp only [Q9, D.ids, D.sid]); simp only [Dr.ok, Xf, Xg, Xh, List.all_append, List.all_cons, List.all_nil, Bool.and_true, Bool.true_and]; (try rw [XN (by rfl)]); simp [D.ids, D.sid]; omega)) : p := h
theorem _root_.Wj {p : Prop} (h : p := by first | rfl | ((try simp only [Q9, D.ids, D.sid]); simp only [Dr.ok, Xf, Xg, Xh, List.all_append, List.all_cons, List.all_nil, Bool.and_true, Bool.true_and]; (try rw [XN (by rfl)]); simp [D.ids, D.sid]; done) | ((try simp only [Q9, D.ids, D.sid]); simp only [Dr.ok, Xf, Xg, Xh, List.all_append, List.all_cons, List.all_nil, Bool.and_true, Bool.true_and]; (try rw [XN (by rfl)]); simp [D.ids, D.sid]; omega)) : p := h
theorem GK {ws : List Int} (hL : ∀ x ∈ ws, I64 x) {most : Int} (hm0 : 1 <= most) (hm1 : most <= 5) : ∃ d, (∃ w, WMade w /\ d = Yn w) /\ Ok Tryz.prog 9 [QN ws, .int .i64 most] d := by
 refine Ok.ofX (R := fun d => (∃ w, WMade w /\ d = Yn w)) ZN Tryz.func9 tp9 (QiY Z) ?_
 show TX _ _ tf9.body _ _
 obtain ⟨us0, J0, ⟨hU, hu2, hu11⟩, hc0⟩ := Qep (kg := 12) (L := ws) (I := 0) (most := most) (eg := 73) rfl rfl hL hm0 hm1
 have hU0 := Prog.start hU hu2 hu11
 obtain ⟨z0, rest0, hfirst⟩ := hU.first
 have hi0 : 0 < us0.length := Wa
 have hcl0 : us0[0].cs = [z0] := by subst hfirst; rfl
 have hk0 : 0 < us0[0].cs.length := by rw [hcl0]; exact Nat.zero_lt_one
 obtain ⟨va, sha, hza, hva⟩ := hU0.fresh 0 hi0 0 hk0 Wa
 obtain ⟨ns0, J00, hns0, hc00⟩ := Da (H := wA (us0) 56 63 73 ws (J0) ⟨[[.fsl []]], 1, 26, true⟩) (most := 3) N1 (CH hU.keys hU0.fam) (JL hU.keys rfl) hL hu2 Wa Wg Wg
 refine Zu fun K hK => Zw Z (hK _ _ (Q7 (kp3 Z Z Z) ?_))
 refine Zu fun K hK => Qa Z (Q1 Z Z (Zp Z Z Z (Qa Z (hK _ _ (Q7 (kp3 Z Z Z) ?_)))))
 refine Zu fun K hK => Qa rfl (Qa rfl (YO (hc0 _ _ rfl rfl (by intro j hj; rw [Qm, if_neg Wa, Qm, if_neg Wa]; rfl)) (Qa rfl (hK _ _ (Q7 (kp3 rfl rfl rfl) ?_)))))
 refine Bq (K1 Z (Dm hU.keys)) (Zu fun K hK => Qa Z (Fo (ds0 := [7, 6, 2, 1, 0]) Z Z Z Wd Wa Wa Z Z Z (Qg Z Z (QQ (ds0 := [2, 1, 0]) Z (Ye Z (QcO (i := 0) hU.keys hi0)) Z Z Z (mv2 Z Z (Ly (ds0 := [0]) (hc00 _ _ Z (fun _ _ h => h)) (fun j hj => FS hj) Wk Z (Fo (ds0 := [1, 0]) Z Z (Qo Wa (Fk (j := 0) hU.keys hi0)) Wd Wa Wa Z Z Z (Qg Z (Zy (Qo Wa (Fk (j := 0) hU.keys hi0))) (Yv (ds0 := []) Z (Qo Wa (Fk (j := 0) hU.keys hi0)) (QdX (k := 0) hk0 hza) Z Z Z Z Z Wk Z ?_)))))))))
 refine hK _ _ (Q7 (kp3 Z Z Z) ?_)
 refine JM ?_ -- 0
 refine Zu fun K hK => Qa Z (hK _ _ (Q7 (kp4 Z Z Z Z) ?_))
 refine Xn ?_
 have hPs : Prog us0.length (GC us0 0 0 (S7 (CandT.mk va sha ns0 []))) 1 0 := (hU0.put hi0 hk0 ⟨_, rfl, Nm hva hns0 Wg⟩).next (by rw [ZE]; exact hi0) (by rw [<- Ko (by rw [ZE]; exact hi0), JZ, Ko hi0, hcl0]; exact Nat.le_refl 1)
 refine MH (ι := List UR × Int × Nat) (fun ⟨usA, JA, i⟩ => ⟨[(4, .ref 4 0 0), (5, .ref 12 0 0), (6, .osl 500000 usA.length), (7, .int .i64 i)], wA (usA) 56 63 73 ws (JA) ⟨[[.fsl []]], 1, 26, true⟩⟩) (fun ⟨usA, JA, i⟩ => Prog us0.length usA i 0 /\ 1 <= i /\ i <= us0.length) (fun ⟨usA, JA, i⟩ => us0.length - i) (GC us0 0 0 (S7 (CandT.mk va sha ns0 [])), J00, 1) ?_ ?_ ?_
 ·exact Pd (l := [4, 5, 6, 7]) (i := 0) (k := 0) (row := [.int .i64 va.a, .int .i64 va.b, .int .i64 va.c, .str va.p, .str va.q, .int .i64 sha, Q9 ns0, .fsl []]) (p := true) 13 (S7 (CandT.mk va sha ns0 [])) (kp4 rfl rfl rfl rfl) (by rw [ZE] <;> rfl) hU.keys hi0 hk0 QF (fun _ => rfl) rfl (fun z hz => (hU0.pure hi0 z hz).1) ⟨rfl, rfl, rfl⟩ (fun j hj hne => (Qo Wa (Qo Wa (Fk hU.keys hj)))) Wc Wc Wc rfl Wg (by intro j hj; repeat (first | exact Z2 hU.keys Wa Wa Wa (.inr Wa) | refine ZA Wa ?_)) Wa (by intro p hp j hj; simp only [Qi0, QiZ, or_false] at hp; rcases hp with rfl | rfl | rfl | rfl <;> first | (simp [D.ids, D.sid] at hj; done) | (simp [D.ids, D.sid] at hj; subst hj; first | exact .inl rfl | exact .inr (.inl rfl) | exact .inr (.inr (.inl rfl)) | exact .inr (.inr (.inr ⟨us0[0], Qi3 hi0, rfl⟩))))
 ·exact ⟨hPs, Nat.le_refl _, Wa⟩
 intro ⟨usA, JA, i⟩ hPA
 dsimp only at hPA
 have hlA := hPA.1.len.1
 dsimp only
 refine JM ?_ -- 1
 refine Zu fun K hK => mv2 Z Z (Zb Z Z (ZS Z Z (hK _ _ (Q7 (kp5 Z Z Z Z Z) ?_))))
 refine XD Z (fun h1 => ?_) (fun h1 => ?_)
 ·rw [h1]
  simp only [qA] at h1
  refine XU (Zf (kp4 Z Z Z Z) ?_)
  refine JM ?_ -- 2
  refine Xn (Zu fun K hK => Qa Z (hK _ _ (Q7 (kp5 Z Z Z Z Z) ?_)))
  refine Xn ?_
  refine MH (ι := List UR × Int × Nat) (fun ⟨us, J, k⟩ => ⟨[(4, .ref 4 0 0), (5, .ref 12 0 0), (6, .osl 500000 us.length), (7, .int .i64 i), (8, .int .i64 k)], wA (us) 56 63 73 ws (J) ⟨[[.fsl []]], 1, 26, true⟩⟩) (fun ⟨us, J, k⟩ => Prog us0.length us i k) (fun ⟨us, J, k⟩ => LP us i - k) (usA, JA, 0) ?_ ?_ ?_
  ·exact QS (l := [4, 5, 6, 7, 8]) (kp5 rfl rfl rfl rfl rfl)
  ·exact hPA.1
  intro ⟨us, J, k⟩ hP
  dsimp only at hP
  have hl := hP.len.1
  have hi : i < us.length := Wa
  have h1i := hPA.2.1
  have hcl4 := hP.cl us[i] (Qi3 hi)
  dsimp only
  refine JM ?_ -- 3
  refine Zu fun K hK => mv2 Z Z (Qa Z (Jj Z Z Z Wd Wa Wa Z (Qg Z Z (Qy Z (Ye Z (QcO hP.keys hi)) Z (Zb Z Z (ZS Z Z (hK _ _ (Q7 (kp6 Z Z Z Z Z Z) ?_))))))))
  refine XD Z (fun h2 => ?_) (fun h2 => ?_)
  ·rw [h2]
   simp only [qA] at h2
   try (have hk : k < us[i].cs.length := Wa; obtain ⟨v, sh, hz, hv⟩ := hP.fresh i hi k hk Wa)
   refine XU (Zf (kp5 Z Z Z Z Z) ?_)
   refine JM ?_ -- 4
   refine Xn (Zu fun K hK => mv2 Z Z (Jj Z Z Z Wd Wa Wa Z (Qg Z Z (Qy Z (Ye Z (QcO hP.keys hi)) Z (Qa Z (Jj Z Z (Fk hP.keys hi) Wd Wa Wa Z (Qa Z (hK _ _ (Q7 (kp6 Z Z Z Z Z Z) ?_)))))))))
   refine JM ?_ -- 5
   refine Zu fun K hK => mv2 Z Z (Jj Z Z Z Wd Wa Wa Z (Qg Z Z (Qy Z (Ye Z (QcO hP.keys hi)) Z (Bm Z Z (hK _ _ (Q7 (kp7 Z Z Z Z Z Z Z) ?_))))))
   refine XD Z (fun h3 => ?_) (fun h3 => ?_)
   ·rw [h3]
    simp only [qA] at h3
    refine Z5 fun K hK => mv2 Z Z (Hl Z Z Wb (Qa Z (Yf Z Z (Qg Z (Zy (Fk hP.keys hi)) (QD (cs := [_, _, _, _, _]) Z (Ye (Fk hP.keys hi) (QdX hk hz)) Z Z (Qw (Jd hv.1 hv.2) Z Z (.inl Z) (Q1 Z Z ?_)))))))
    refine QK Z (by repeat (first | exact Z2 hU.keys Wa Wa Wa (.inl Wa) | exact Z2 hP.keys Wa Wa Wa (.inl Wa) | exact Z2 hP2.keys Wa Wa Wa (.inl Wa) | refine ZA Wa ?_)) ?_
    refine QK Z (by repeat (first | exact Z2 hU.keys Wa Wa Wa (.inl Wa) | exact Z2 hP.keys Wa Wa Wa (.inl Wa) | exact Z2 hP2.keys Wa Wa Wa (.inl Wa) | refine ZA Wa ?_)) ?_
    refine Yf Z Z (Qg Z (Zy (Qo Wa (Qo Wa (Fk hP.keys hi)))) (Q4 Z (Qo Wa (Qo Wa (Fk hP.keys hi))) (QdX hk hz) Z Z Z Z Z (hK _ ?_)))
    refine Zf (kp6 Z Z Z Z Z Z) ?_
    first | (refine Bq (Qav (l := [4, 5, 6, 7, 8, 9]) (fr' := [(4, .ref 4 0 0), (5, .ref 12 0 0), (6, .osl 500000 us.length), (7, .int .i64 i), (8, .int .i64 k), (9, .ref (500001 + i) k 0)]) (x := (WantT.mk ((i : Int) - 1) (Xq v.a v.b v.c v.p v.q))) (kp6 rfl rfl rfl rfl rfl rfl) rfl hP.keys hi rfl (Dg (fun z hz => (hP.pure hi z hz).1) (by intro d hd j hj; simp [dCR, setRow, zr] at hd; rcases hd with rfl | rfl | rfl | rfl | rfl | rfl | rfl | rfl <;> simp [D.sid] at hj <;> exact hj)) (by intro p hp j hj; simp only [Qi0, QiZ, or_false] at hp; rcases hp with rfl | rfl | rfl | rfl | rfl | rfl <;> first | (simp [D.ids, D.sid] at hj; done) | (simp [D.ids, D.sid] at hj; subst hj; first | exact .inl rfl | exact .inr (.inl rfl) | exact .inr (.inr (.inl rfl)) | exact .inr (.inr (.inr ⟨us[i], Qi3 hi, (hP.keys i hi).symm⟩))))) ?_) | skip
    refine Zu fun K hK => mv2 Z Z (Yf Z Z (Qg Z Q5 (QQ (ds0 := [3, 0]) Z (Ye QF (Qdn hk)) Z Z Z (mv2 Z Z ?_))))
    have hfx := Qhx (eu := 56) (ec := 63) (eg := 73) (L := ws) (J := J) (b4 := ⟨[[.fsl []]], 1, 26, true⟩) (b64 := ⟨[[Q8 [(WantT.mk ((i : Int) - 1) (Xq v.a v.b v.c v.p v.q))]]], 1, 61, true⟩) (zx := (CR.mk v (.int .i64 sh) (.osl 64 1) (.fsl []))) hP hi hk hv ⟨rfl, rfl, rfl⟩ rfl rfl
    obtain ⟨ns, J1, hns, hc1⟩ := Da (H := (500001 + i, ⟨(us[i].cs.map dCR).set k (dCR (CR.mk v (.int .i64 sh) (.osl 64 1) (.fsl []))), 8, 63, false⟩) :: (64, ⟨[[Q8 [(WantT.mk ((i : Int) - 1) (Xq v.a v.b v.c v.p v.q))]]], 1, 61, true⟩) :: wA (us) 56 63 73 ws (J) ⟨[[.fsl []]], 1, 26, true⟩) (most := 2) (Qo Wa (Qo Wa N1)) hfx.1 hfx.2 hL (by (rw [ZE]; omega)) (by (rw [ZE]; omega)) Wg Wg
    rw [ZE] at hns
    refine Ly (ds0 := [3, 0]) (hc1 _ _ (by rw [ZE]; rfl) (fun _ _ h => h)) (fun j hj => FS hj) Wp Z ?_
    refine XF (ds0 := [0]) Z Z (by simp [D.ids, D.sid, Q9]) ⟨rfl, Qdj, rfl⟩ (by repeat (first | exact Z2 hU.keys Wa Wa Wa (.inl Wa) | exact Z2 hP.keys Wa Wa Wa (.inl Wa) | exact Z2 hP2.keys Wa Wa Wa (.inl Wa) | refine ZA Wa ?_)) (Qo Wa (Qo Wa QF)) Z Z Z (by have := hns.1; simp; omega) (by have := hns.1; simp; omega) Wj Z ?_
    refine Yf Z Z (Qg Z (Zy (Qo Wa (Qo Wa (Qo Wa QF)))) (Yv (ds0 := []) Z (Qo Wa (Qo Wa (Qo Wa QF))) (Qdn hk) Z Z Z Z Z Wk Z (hK _ _ (Q7 (kp6 Z Z Z Z Z Z) ?_))))
    first | (refine Bq (Pd (l := [4, 5, 6, 7, 8, 9]) (eu := 56) (ec := 63) (eg := 73) (L := ws) (J := J1) (b4 := ⟨[[.fsl []]], 1, 26, true⟩) (fr' := [(4, .ref 4 0 0), (5, .ref 12 0 0), (6, .osl 500000 us.length), (7, .int .i64 i), (8, .int .i64 k), (9, .ref (500001 + i) k 0)]) (row := [.int .i64 v.a, .int .i64 v.b, .int .i64 v.c, .str v.p, .str v.q, .int .i64 sh, .osl 75 (1 + (ns.map (fun r => [Q8 r])).length), .fsl []]) (p := false) 75 (S7 (CandT.mk v sh ([(WantT.mk ((i : Int) - 1) (Xq v.a v.b v.c v.p v.q))] :: ns) [])) (kp6 rfl rfl rfl rfl rfl rfl) rfl hP.keys hi hk TN (fun h => by cases h) (Mg (Qo Wa QF) Wq) (fun z hz => (hP.pure hi z hz).1) ⟨rfl, rfl, rfl⟩ (fun j hj hne => (Qo Wa (Qo Wa (Qo Wa (Qo Wa (Qo Wa (Qo Wa (Fk hP.keys hj)))))))) Wc Wc Wc rfl Wg (by intro j hj; repeat (first | exact Z2 hP.keys Wa Wa Wa (.inr Wa) | refine ZA Wa ?_)) Wa (by intro p hp j hj; simp only [Qi0, QiZ, or_false] at hp; rcases hp with rfl | rfl | rfl | rfl | rfl | rfl <;> first | (simp [D.ids, D.sid] at hj; done) | (simp [D.ids, D.sid] at hj; subst hj; first | exact .inl rfl | exact .inr (.inl rfl) | exact .inr (.inr (.inl rfl)) | exact .inr (.inr (.inr ⟨us[i], Qi3 hi, (hP.keys i hi).symm⟩))))) ?_; have hc2 : JO us0.length (CandT.mk v sh ([(WantT.mk ((i : Int) - 1) (Xq v.a v.b v.c v.p v.q))] :: ns) []) := (by rw [<- hl]; exact Ts hv hns Wg h1i hi); generalize hns2 : ([(WantT.mk ((i : Int) - 1) (Xq v.a v.b v.c v.p v.q))] :: ns) = ns2 at hc2 ⊢) | (refine Bq (Pd (l := [4, 5, 6, 7, 8, 9]) (eu := 56) (ec := 63) (eg := 73) (L := ws) (J := J1) (b4 := ⟨[[.fsl []]], 1, 26, true⟩) (fr' := [(4, .ref 4 0 0), (5, .ref 12 0 0), (6, .osl 500000 us.length), (7, .int .i64 i), (8, .int .i64 k), (9, .ref (500001 + i) k 0)]) (row := [.int .i64 v.a, .int .i64 v.b, .int .i64 v.c, .str v.p, .str v.q, .int .i64 sh, .osl 75 (0 + (ns.map (fun r => [Q8 r])).length), .fsl []]) (p := false) 75 (S7 (CandT.mk v sh ns [])) (kp6 rfl rfl rfl rfl rfl rfl) rfl hP.keys hi hk QF (fun h => by cases h) (Mg (Qo Wa QF) Wq) (fun z hz => (hP.pure hi z hz).1) ⟨rfl, rfl, rfl⟩ (fun j hj hne => (Qo Wa (Qo Wa (Qo Wa (Fk hP.keys hj))))) Wc Wc Wc rfl Wg (by intro j hj; repeat (first | exact Z2 hP.keys Wa Wa Wa (.inr Wa) | refine ZA Wa ?_)) Wa (by intro p hp j hj; simp only [Qi0, QiZ, or_false] at hp; rcases hp with rfl | rfl | rfl | rfl | rfl | rfl <;> first | (simp [D.ids, D.sid] at hj; done) | (simp [D.ids, D.sid] at hj; subst hj; first | exact .inl rfl | exact .inr (.inl rfl) | exact .inr (.inr (.inl rfl)) | exact .inr (.inr (.inr ⟨us[i], Qi3 hi, (hP.keys i hi).symm⟩))))) ?_; have hc2 : JO us0.length (CandT.mk v sh ns []) := (by rw [<- hl]; exact Nm hv hns Wg); generalize hns2 : ns = ns2 at hc2 ⊢)
    generalize hus2 : GC us i k (S7 (CandT.mk v sh ns2 [])) = us2
    have hP2 : Prog us0.length us2 i (k + 1) := hus2 ▸ hP.put hi hk ⟨_, rfl, hc2⟩
    have hl2 : us2.length = us.length := by rw [<- hus2, ZE]
    have hi2 : i < us2.length := Wa
    have hk2 : k < us2[i].cs.length := Li hi hk hus2 hi2
    have hz2 : us2[i].cs[k] = S7 (CandT.mk v sh ns2 []) := Lh hi hk hus2.symm hi2 hk2
    refine Zu fun K hK => Qa Z (YO (H4 (I := J1) Z N1 hL Wa) (Yt Z Z (hK _ _ (Q7 (kp7 Z Z Z Z Z Z Z) ?_))))
    refine XD Z (fun h4 => ?_) (fun h4 => ?_)
    ·rw [h4]
     simp only [qA] at h4
     refine Z5 fun K hK => mv2 Z Z (Qa Z ?_)
     obtain ⟨xb, J3, hxb, hcb⟩ := Co (H := (12, gB ws (nxI J1) 73) :: wA (us2) 56 63 73 ws (J1) ⟨[[.fsl []]], 1, 26, true⟩) QF (CH hP2.keys hP2.fam).cons ((JL hP2.keys rfl).pr rfl) hL Wa Wa
     refine YO (hcb _ _ (by rw [hl2]; rfl) (fun _ _ h => h)) ?_
     refine QK Z (by repeat (first | exact Z2 hU.keys Wa Wa Wa (.inl Wa) | exact Z2 hP.keys Wa Wa Wa (.inl Wa) | exact Z2 hP2.keys Wa Wa Wa (.inl Wa) | refine ZA Wa ?_)) ?_
     refine Yf Z Z (Qg Z (Zy (Qo Wa (Qo Wa (Qo Wa (Fk hP2.keys hi2))))) (Q4 Z (Qo Wa (Qo Wa (Qo Wa (Fk hP2.keys hi2)))) (QdX hk2 hz2) Z Z Z Z Z (hK _ ?_)))
     refine Qf (Zf (kp5 Z Z Z Z Z) (Z5 fun K hK => Qa Z (QW Z Z Wb (Qa Z (hK _ ?_)))))
     refine Qi (GC us2 i k (S7 (CandT.mk v sh ns2 [xb])), J3, k + 1) ?_ ?_ ?_
     ·exact Pd (l := [4, 5, 6, 7, 8]) (row := [.int .i64 v.a, .int .i64 v.b, .int .i64 v.c, .str v.p, .str v.q, .int .i64 sh, Q9 ns2, .osl 85 1]) (p := false) 85 (S7 (CandT.mk v sh ns2 [xb])) (kp5 rfl rfl rfl rfl rfl) (by rw [ZE, hl2] <;> rfl) hP2.keys hi2 hk2 QF (fun h => by cases h) (Qae (Qo Wa QF) rfl) (fun z hz => (hP2.pure hi2 z hz).1) ⟨rfl, rfl, rfl⟩ (fun j hj hne => (Qo Wa (Qo Wa (Qo Wa (Qo Wa (Fk hP2.keys hj)))))) Wc Wc Wc rfl Wg (by intro j hj; repeat (first | exact Z2 hP2.keys Wa Wa Wa (.inr Wa) | refine ZA Wa ?_)) Wa (by intro p hp j hj; simp only [Qi0, QiZ, or_false] at hp; rcases hp with rfl | rfl | rfl | rfl | rfl <;> first | (simp [D.ids, D.sid] at hj; done) | (simp [D.ids, D.sid] at hj; subst hj; first | exact .inl rfl | exact .inr (.inl rfl) | exact .inr (.inr (.inl rfl)) | exact .inr (.inr (.inr ⟨us2[i], Qi3 hi2, (hP2.keys i hi2).symm⟩))))
     ·exact hP2.again hi2 hk2 ⟨_, rfl, Tr hc2 (by have := hxb; rwa [hl2, hl] at this)⟩
     ·show LP (GC us2 i k _) i - (k + 1) < LP us i - k; rw [JZ, <- hus2, JZ, Ko hi]; omega
    ·rw [h4]
     simp only [qA] at h4
     refine XU (Qf (Zf (kp5 Z Z Z Z Z) (Z5 fun K hK => Qa Z (QW Z Z Wb (Qa Z (hK _ ?_))))))
     refine Qi (us2, nxI J1, k + 1) ?_ ?_ ?_
     ·exact le_trans (QS (l := [4, 5, 6, 7, 8]) (kp5 rfl rfl rfl rfl rfl)) (K1 (by rw [hl2] <;> rfl) Qf1)
     ·exact hP2
     ·show LP us2 i - (k + 1) < LP us i - k; rw [<- hus2, JZ, Ko hi]; omega
   ·rw [h3]
    simp only [qA] at h3
    refine XU (Zf (kp6 Z Z Z Z Z Z) ?_)
    first | (refine Bq (Qav (l := [4, 5, 6, 7, 8, 9]) (fr' := [(4, .ref 4 0 0), (5, .ref 12 0 0), (6, .osl 500000 us.length), (7, .int .i64 i), (8, .int .i64 k), (9, .ref (500001 + i) k 0)]) (x := (WantT.mk ((i : Int) - 1) (Xq v.a v.b v.c v.p v.q))) (kp6 rfl rfl rfl rfl rfl rfl) rfl hP.keys hi rfl (Dg (fun z hz => (hP.pure hi z hz).1) (by intro d hd j hj; simp [dCR, setRow, zr] at hd; rcases hd with rfl | rfl | rfl | rfl | rfl | rfl | rfl | rfl <;> simp [D.sid] at hj <;> exact hj)) (by intro p hp j hj; simp only [Qi0, QiZ, or_false] at hp; rcases hp with rfl | rfl | rfl | rfl | rfl | rfl <;> first | (simp [D.ids, D.sid] at hj; done) | (simp [D.ids, D.sid] at hj; subst hj; first | exact .inl rfl | exact .inr (.inl rfl) | exact .inr (.inr (.inl rfl)) | exact .inr (.inr (.inr ⟨us[i], Qi3 hi, (hP.keys i hi).symm⟩))))) ?_) | skip
    refine Zu fun K hK => mv2 Z Z (Yf Z Z (Qg Z (Zy (Fk hP.keys hi)) (QQ (ds0 := [3, 0]) Z (Ye (Fk hP.keys hi) (QdX hk hz)) Z Z Z (mv2 Z Z ?_))))
    obtain ⟨ns, J1, hns, hc1⟩ := Da (H := wA (us) 56 63 73 ws (J) ⟨[[.fsl []]], 1, 26, true⟩) (most := 2) N1 (CH hP.keys hP.fam) (JL hP.keys rfl) hL Wa Wa Wg Wg
    refine Ly (ds0 := [3, 0]) (hc1 _ _ Z (fun _ _ h => h)) (fun j hj => FS hj) Wp Z ?_
    refine Lw (ds0 := [0]) Z Z (fun _ h => ⟨Qdj, h⟩) (by repeat (first | exact Z2 hU.keys Wa Wa Wa (.inl Wa) | exact Z2 hP.keys Wa Wa Wa (.inl Wa) | exact Z2 hP2.keys Wa Wa Wa (.inl Wa) | refine ZA Wa ?_)) (.inl Z) Wd (by have := hns.1; simp; omega) (by have := hns.1; simp; omega) Wj Z ?_
    refine Yf Z Z (Qg Z (Zy (Qo Wa (Qo Wa (Fk hP.keys hi)))) (Yv (ds0 := []) Z (Qo Wa (Qo Wa (Fk hP.keys hi))) (QdX hk hz) Z Z Z Z Z Wk Z (hK _ _ (Q7 (kp6 Z Z Z Z Z Z) ?_))))
    first | (refine Bq (Pd (l := [4, 5, 6, 7, 8, 9]) (eu := 56) (ec := 63) (eg := 73) (L := ws) (J := J1) (b4 := ⟨[[.fsl []]], 1, 26, true⟩) (fr' := [(4, .ref 4 0 0), (5, .ref 12 0 0), (6, .osl 500000 us.length), (7, .int .i64 i), (8, .int .i64 k), (9, .ref (500001 + i) k 0)]) (row := [.int .i64 v.a, .int .i64 v.b, .int .i64 v.c, .str v.p, .str v.q, .int .i64 sh, .osl 75 (1 + (ns.map (fun r => [Q8 r])).length), .fsl []]) (p := false) 75 (S7 (CandT.mk v sh ([(WantT.mk ((i : Int) - 1) (Xq v.a v.b v.c v.p v.q))] :: ns) [])) (kp6 rfl rfl rfl rfl rfl rfl) rfl hP.keys hi hk TN (fun h => by cases h) (Mg (Qo Wa QF) Wq) (fun z hz => (hP.pure hi z hz).1) ⟨rfl, rfl, rfl⟩ (fun j hj hne => (Qo Wa (Qo Wa (Qo Wa (Qo Wa (Qo Wa (Qo Wa (Fk hP.keys hj)))))))) Wc Wc Wc rfl Wg (by intro j hj; repeat (first | exact Z2 hP.keys Wa Wa Wa (.inr Wa) | refine ZA Wa ?_)) Wa (by intro p hp j hj; simp only [Qi0, QiZ, or_false] at hp; rcases hp with rfl | rfl | rfl | rfl | rfl | rfl <;> first | (simp [D.ids, D.sid] at hj; done) | (simp [D.ids, D.sid] at hj; subst hj; first | exact .inl rfl | exact .inr (.inl rfl) | exact .inr (.inr (.inl rfl)) | exact .inr (.inr (.inr ⟨us[i], Qi3 hi, (hP.keys i hi).symm⟩))))) ?_; have hc2 : JO us0.length (CandT.mk v sh ([(WantT.mk ((i : Int) - 1) (Xq v.a v.b v.c v.p v.q))] :: ns) []) := (by rw [<- hl]; exact Ts hv hns Wg h1i hi); generalize hns2 : ([(WantT.mk ((i : Int) - 1) (Xq v.a v.b v.c v.p v.q))] :: ns) = ns2 at hc2 ⊢) | (refine Bq (Pd (l := [4, 5, 6, 7, 8, 9]) (eu := 56) (ec := 63) (eg := 73) (L := ws) (J := J1) (b4 := ⟨[[.fsl []]], 1, 26, true⟩) (fr' := [(4, .ref 4 0 0), (5, .ref 12 0 0), (6, .osl 500000 us.length), (7, .int .i64 i), (8, .int .i64 k), (9, .ref (500001 + i) k 0)]) (row := [.int .i64 v.a, .int .i64 v.b, .int .i64 v.c, .str v.p, .str v.q, .int .i64 sh, .osl 75 (0 + (ns.map (fun r => [Q8 r])).length), .fsl []]) (p := false) 75 (S7 (CandT.mk v sh ns [])) (kp6 rfl rfl rfl rfl rfl rfl) rfl hP.keys hi hk QF (fun h => by cases h) (Mg (Qo Wa QF) Wq) (fun z hz => (hP.pure hi z hz).1) ⟨rfl, rfl, rfl⟩ (fun j hj hne => (Qo Wa (Qo Wa (Qo Wa (Fk hP.keys hj))))) Wc Wc Wc rfl Wg (by intro j hj; repeat (first | exact Z2 hP.keys Wa Wa Wa (.inr Wa) | refine ZA Wa ?_)) Wa (by intro p hp j hj; simp only [Qi0, QiZ, or_false] at hp; rcases hp with rfl | rfl | rfl | rfl | rfl | rfl <;> first | (simp [D.ids, D.sid] at hj; done) | (simp [D.ids, D.sid] at hj; subst hj; first | exact .inl rfl | exact .inr (.inl rfl) | exact .inr (.inr (.inl rfl)) | exact .inr (.inr (.inr ⟨us[i], Qi3 hi, (hP.keys i hi).symm⟩))))) ?_; have hc2 : JO us0.length (CandT.mk v sh ns []) := (by rw [<- hl]; exact Nm hv hns Wg); generalize hns2 : ns = ns2 at hc2 ⊢)
    generalize hus2 : GC us i k (S7 (CandT.mk v sh ns2 [])) = us2
    have hP2 : Prog us0.length us2 i (k + 1) := hus2 ▸ hP.put hi hk ⟨_, rfl, hc2⟩
    have hl2 : us2.length = us.length := by rw [<- hus2, ZE]
    have hi2 : i < us2.length := Wa
    have hk2 : k < us2[i].cs.length := Li hi hk hus2 hi2
    have hz2 : us2[i].cs[k] = S7 (CandT.mk v sh ns2 []) := Lh hi hk hus2.symm hi2 hk2
    refine Zu fun K hK => Qa Z (YO (H4 (I := J1) Z N1 hL Wa) (Yt Z Z (hK _ _ (Q7 (kp7 Z Z Z Z Z Z Z) ?_))))
    refine XD Z (fun h5 => ?_) (fun h5 => ?_)
    ·rw [h5]
     simp only [qA] at h5
     refine Z5 fun K hK => mv2 Z Z (Qa Z ?_)
     obtain ⟨xb, J3, hxb, hcb⟩ := Co (H := (12, gB ws (nxI J1) 73) :: wA (us2) 56 63 73 ws (J1) ⟨[[.fsl []]], 1, 26, true⟩) QF (CH hP2.keys hP2.fam).cons ((JL hP2.keys rfl).pr rfl) hL Wa Wa
     refine YO (hcb _ _ (by rw [hl2]; rfl) (fun _ _ h => h)) ?_
     refine QK Z (by repeat (first | exact Z2 hU.keys Wa Wa Wa (.inl Wa) | exact Z2 hP.keys Wa Wa Wa (.inl Wa) | exact Z2 hP2.keys Wa Wa Wa (.inl Wa) | refine ZA Wa ?_)) ?_
     refine Yf Z Z (Qg Z (Zy (Qo Wa (Qo Wa (Qo Wa (Fk hP2.keys hi2))))) (Q4 Z (Qo Wa (Qo Wa (Qo Wa (Fk hP2.keys hi2)))) (QdX hk2 hz2) Z Z Z Z Z (hK _ ?_)))
     refine Qf (Zf (kp5 Z Z Z Z Z) (Z5 fun K hK => Qa Z (QW Z Z Wb (Qa Z (hK _ ?_)))))
     refine Qi (GC us2 i k (S7 (CandT.mk v sh ns2 [xb])), J3, k + 1) ?_ ?_ ?_
     ·exact Pd (l := [4, 5, 6, 7, 8]) (row := [.int .i64 v.a, .int .i64 v.b, .int .i64 v.c, .str v.p, .str v.q, .int .i64 sh, Q9 ns2, .osl 85 1]) (p := false) 85 (S7 (CandT.mk v sh ns2 [xb])) (kp5 rfl rfl rfl rfl rfl) (by rw [ZE, hl2] <;> rfl) hP2.keys hi2 hk2 QF (fun h => by cases h) (Qae (Qo Wa QF) rfl) (fun z hz => (hP2.pure hi2 z hz).1) ⟨rfl, rfl, rfl⟩ (fun j hj hne => (Qo Wa (Qo Wa (Qo Wa (Qo Wa (Fk hP2.keys hj)))))) Wc Wc Wc rfl Wg (by intro j hj; repeat (first | exact Z2 hP2.keys Wa Wa Wa (.inr Wa) | refine ZA Wa ?_)) Wa (by intro p hp j hj; simp only [Qi0, QiZ, or_false] at hp; rcases hp with rfl | rfl | rfl | rfl | rfl <;> first | (simp [D.ids, D.sid] at hj; done) | (simp [D.ids, D.sid] at hj; subst hj; first | exact .inl rfl | exact .inr (.inl rfl) | exact .inr (.inr (.inl rfl)) | exact .inr (.inr (.inr ⟨us2[i], Qi3 hi2, (hP2.keys i hi2).symm⟩))))
     ·exact hP2.again hi2 hk2 ⟨_, rfl, Tr hc2 (by have := hxb; rwa [hl2, hl] at this)⟩
     ·show LP (GC us2 i k _) i - (k + 1) < LP us i - k; rw [JZ, <- hus2, JZ, Ko hi]; omega
    ·rw [h5]
     simp only [qA] at h5
     refine XU (Qf (Zf (kp5 Z Z Z Z Z) (Z5 fun K hK => Qa Z (QW Z Z Wb (Qa Z (hK _ ?_))))))
     refine Qi (us2, nxI J1, k + 1) ?_ ?_ ?_
     ·exact le_trans (QS (l := [4, 5, 6, 7, 8]) (kp5 rfl rfl rfl rfl rfl)) (K1 (by rw [hl2] <;> rfl) Qf1)
     ·exact hP2
     ·show LP us2 i - (k + 1) < LP us i - k; rw [<- hus2, JZ, Ko hi]; omega
  ·rw [h2]
   simp only [qA] at h2
   try (have hk : k < us[i].cs.length := Wa; obtain ⟨v, sh, hz, hv⟩ := hP.fresh i hi k hk Wa)
   refine NO (X1 (Qs (QC (Qf (Zf (kp4 Z Z Z Z) (Z5 fun K hK => Qa Z (QW Z Z Wb (Qa Z (hK _ ?_)))))))))
   refine Qi (us, J, i + 1) ?_ ?_ ?_
   ·exact QS (l := [4, 5, 6, 7]) (kp4 rfl rfl rfl rfl)
   ·dsimp only
    exact ⟨hP.next hi Wa, Wa, Wa⟩
   ·show us0.length - (i + 1) < us0.length - i; omega
 ·rw [h1]
  simp only [qA] at h1
  refine NO (X1 (Qs (QC (Zf (kp2 Z Z) ?_))))
  have hend : i = usA.length := by have := hPA.1.len.1; omega
  obtain ⟨w, hwl, hwm, hle⟩ := Qb8 (eu := 56) (ec := 63) (eg := 73) (L := ws) (J := JA) (b4 := ⟨[[.fsl []]], 1, 26, true⟩) (hend ▸ hPA.1) rfl
  refine Bq (hle (fr' := [(4, .ref 4 0 0), (6, .osl 500000 usA.length)]) (l := [4, 6]) (kp2 rfl rfl) rfl (by intro p hp j hj; simp only [Qi0, QiZ, or_false] at hp; rcases hp with rfl | rfl <;> (simp [D.ids, D.sid] at hj; subst hj; first | exact .inl rfl | exact .inr rfl))) (Zu fun K hK => Qa rfl (Q1 rfl rfl (Q4 rfl rfl rfl rfl rfl rfl rfl rfl (hK _ _ (Q7 (kp1 rfl) ?_)))))
  refine Ti ?_
  refine ⟨_, ⟨w, hwm, rfl⟩, ?_⟩
  exact ZG (cs := [.osl 500000 usA.length]) (ds := [.sl (w.map YA)]) rfl rfl rfl rfl (by simp [XO, D.fz, D.fzS, GG, lk, D.can, D.canS, hwl])
end Go.Proofs
namespace M25
open Go Go.Abs M3
/-! ### One without terms -/
open M3
def J9 (e a b c : Int) (p q : List UInt8) (f : Bool) : Bool := !decide (e = 0) || (!f && decide (p = []) && !(decide (a = 0) && (decide (b = 0) && (decide (c = 0) && (decide (p = []) && (decide (q = []) && true))))))
def Xm (x : Cu) : Bool := J9 x.e x.a x.b x.c x.p x.q x.f
theorem Qc1 {e a b c : Int} {p q : List UInt8} {f : Bool} (h : X4 e a b c p q f = true) : q = [] := by
 unfold X4 at h
 split at h
 ·simp at h; exact h.2
 ·simp at h; exact h.1.2.2.2.2.2
theorem Nc {x : Cu} (h : x.q = []) : Xm x = Xt x := by
 rw [Xm, Xt, J9, NY, NX, h]
 cases decide (x.e = 0) <;> cases x.f <;> cases hp : decide (x.p = []) <;> cases decide (x.a = 0) <;> cases decide (x.b = 0) <;> cases decide (x.c = 0) <;> simp_all
theorem F9 {x : Cu} (h : Xt x = true) : Xm x = true := by
 rw [Xt, NY, NX] at h
 rw [Xm, J9]
 revert h
 cases decide (x.e = 0) <;> cases x.f <;> cases hp : decide (x.p = []) <;> cases decide (x.a = 0) <;> cases decide (x.b = 0) <;> cases decide (x.c = 0) <;> simp
theorem QfC {l : List (Cu × Cu)} (h : Ht l = true) {s : Cu × Cu} (hs : s ∈ l) : s.1.q = [] /\ s.2.q = [] := by
 obtain ⟨i, hi, rfl⟩ := List.mem_iff_getElem.1 hs
 have := Qi8.1 h i (Qjl.2 hi)
 rw [L7 hi, Qi2] at this
 have h1 := this.1
 simp only [GY, Ps, Qi2] at h1
 exact ⟨Qc1 h1.1.1, Qc1 h1.1.2⟩
theorem Ms {s : List (Cu × Cu) × List (Cu × Cu)} {i : Nat} (hi : s.1.length <= i) (h : (s.1.take i).all (fun x => Xm x.1 && Xm x.2) = true) : Fc s = (Ht s.1 && Ht s.2) := by
 rw [Qje hi] at h
 rw [Fc]
 cases h1 : Ht s.1 with
 | false => rfl
 | true =>
  have : (s.1.all fun x => Xt x.1 && Xt x.2) = true := by
   rw [Qi8] at h ⊢
   intro x hx
   obtain ⟨q1, q2⟩ := QfC h1 hx
   rw [<- Nc q1, <- Nc q2]
   exact h x hx
  rw [this, Bool.true_and, Bool.and_true]
theorem Ka {s : List (Cu × Cu) × List (Cu × Cu)} {i : Nat} (hi : i < s.1.length) (h : Xm s.1[i].1 = false \/ Xm s.1[i].2 = false) : Fc s = false :=
 JI hi (h.imp (fun h => by cases e : Xt s.1[i].1 with
  | false => rfl
  | true => rw [F9 e] at h; cases h) (fun h => by cases e : Xt s.1[i].2 with
  | false => rfl
  | true => rw [F9 e] at h; cases h))
end M25
namespace Go.Abs
open Go
/-! ### Cells told otherwise -/
theorem CellsC.setW {g : Gh} {c : Array Value} {d d' : D} (hd : d'.isCell = true) (himp : ∀ v, RepS g d v -> RepS g d' v) : ∀ {off : Nat} {row : List D} {j : Nat}, CellsC g c off row -> row[j]? = some d -> CellsC g c off (row.set j d')
 | _, [], j, _, h => by simp at h
 | off, x :: row, 0, hc, h => by
  simp at h; subst h
  simp only [List.set_cons_zero, CellsC] at hc ⊢
  obtain ⟨⟨h1, y, h2, h3⟩, h4⟩ := hc
  exact ⟨⟨hd, y, h2, himp y h3⟩, h4⟩
 | off, x :: row, j + 1, hc, h => by
  simp only [List.set_cons_succ, CellsC] at hc ⊢
  exact ⟨hc.1, CellsC.setW hd himp hc.2 (by simpa using h)⟩
theorem RowsC.setW {g : Gh} {c : Array Value} {d d' : D} (hd : d'.isCell = true) (himp : ∀ v, RepS g d v -> RepS g d' v) : ∀ {off : Nat} {rows : List (List D)} {i j : Nat} {row : List D}, RowsC g c off rows -> rows[i]? = some row -> row[j]? = some d -> RowsC g c off (rows.set i (row.set j d'))
 | _, [], i, _, _, _, h, _ => by simp at h
 | off, r :: rows, 0, j, row, hc, h, hj => by
  simp at h; subst h
  simp only [List.set_cons_zero, RowsC, List.length_set] at hc ⊢
  exact ⟨CellsC.setW hd himp hc.1 hj, hc.2⟩
 | off, r :: rows, i + 1, j, row, hc, h, hj => by
  simp only [List.set_cons_succ, RowsC] at hc ⊢
  exact ⟨hc.1, RowsC.setW hd himp hc.2 (by simpa using h) hj⟩
section
variable {fr : QiW} {H : QiV}
theorem Qeb (k esz et : Nat) (hk : lk H k = none) : St.le ⟨fr, H⟩ ⟨fr, (k, ⟨[], esz, et, true⟩) :: H⟩ := fun E g a w r =>
 let ⟨g', _, _, r'⟩ := r.allocEmpty (esz := esz) (et := et) (t := k) hk
 ⟨g', r'⟩
theorem Qce {rows : List (List D)} {row : List D} {d' : D} {i j : Nat} (hrow : rows[i]? = some row) {r : List D} (hr : r ∈ rows.set i (row.set j d')) {x : D} (hx : x ∈ r) : x = d' \/ ∃ r0 ∈ rows, x ∈ r0 := by
 rcases List.mem_or_eq_of_mem_set hr with h | rfl
 ·exact .inr ⟨r, h, hx⟩
 ·rcases List.mem_or_eq_of_mem_set hx with h | rfl
  ·exact .inr ⟨row, List.mem_of_getElem? hrow, h⟩
  ·exact .inl rfl
theorem Qb7 {kk i j : Nat} {b : Box} {row : List D} {d : D} (d' : D) (pr' : Bool) (hb : lk H kk = some b) (hrow : b.rows[i]? = some row) (hj : row[j]? = some d) (hd : d'.isCell = true) (himp : ∀ (g : Gh) v, RepS g d v -> RepS g d' v)
  (hs : ∀ x ∈ d'.sid, (lk H x).isSome = true) (hpr : pr' = true -> ∀ r ∈ b.rows.set i (row.set j d'), ∀ x ∈ r, x.sid = []) :
  St.le ⟨fr, H⟩ ⟨fr, (kk, { b with rows := b.rows.set i (row.set j d'), pr := pr' }) :: H⟩ := fun E g a w r => by
 have hsome : ∀ k, (lk ((kk, ({ b with rows := b.rows.set i (row.set j d'), pr := pr' } : Box)) :: H) k).isSome = (lk H k).isSome := fun k => by
  rw [Qm]; split
  ·rename_i e; subst e; rw [hb]; rfl
  ·rfl
 refine ⟨g, r.nt, r.df, r.fr, fun t x h k hk => (hsome k).trans (r.wfF t x h k hk), fun k b' h x hx => (hsome x).trans ?_, fun k b' h => ?_, fun k k' b1 b2 B e e' h1 h2 => ?_, r.kr, r.ext, r.kx, fun k hk => let ⟨h1, h2, h3, h4⟩ := r.kp k hk; ⟨h1, h2, h3, (hsome k).trans h4⟩⟩
 ·rw [Qm] at h
  split at h
  ·cases h
   simp only [Box.ids] at hx
   split at hx
   ·cases hx
   ·obtain ⟨r0, hr0, hx⟩ := Qi5.1 hx
    obtain ⟨y, hy, hxy⟩ := Qi5.1 hx
    rcases Qce hrow hr0 hy with e | ⟨r1, h1, h2⟩
    ·rw [e] at hxy; exact hs x hxy
    ·exact r.wfB kk b hb r1 h1 y h2 x hxy
  ·exact r.wfH k b' h x hx
 ·rw [Qm] at h
  split at h
  ·rename_i e; subst e; cases h
   obtain ⟨h1, h2, h3⟩ := r.bx kk b hb
   refine ⟨fun r0 hr0 => ?_, hpr, ?_⟩
   ·rcases List.mem_or_eq_of_mem_set hr0 with h | rfl
    ·exact h1 r0 h
    ·rw [List.length_set]; exact h1 row (List.mem_of_getElem? hrow)
   ·rcases h3 with ⟨h3, _⟩ | ⟨h3, B, c, q1, q2, q3, q4, q5⟩
    ·rw [h3] at hrow; simp at hrow
    ·exact .inr ⟨fun h => h3 (by simpa using congrArg List.length h), B, c, q1, q2, q3, RowsC.setW hd (himp g) q4 hrow hj, q5⟩
  ·exact r.bx k b' h
 ·have hx : ∀ k b', lk ((kk, ({ b with rows := b.rows.set i (row.set j d'), pr := pr' } : Box)) :: H) k = some b' -> ∃ b0, lk H k = some b0 := fun k b' h => by
   have := hsome k
   rw [h] at this
   exact Qi4.1 this.symm
  obtain ⟨_, h1⟩ := hx k b1 h1
  obtain ⟨_, h2⟩ := hx k' b2 h2
  exact r.inj k k' _ _ B e e' h1 h2
theorem Qee {k : Nat} (g : Gh) (v : Value) (h : RepS g (.fsl []) v) : RepS g (.osl k 0) v := by
 simp only [RepS, RepP] at h
 obtain ⟨a, rfl, _⟩ := h
 exact ⟨a, 0, rfl, Nat.le_refl _, .inl ⟨rfl, rfl⟩⟩
end
end Go.Abs
namespace Go.Abs
abbrev gD : D := .ptr [.int .i64 0, .int .i64 0, .int .i64 0, .str [], .str []]
end Go.Abs
