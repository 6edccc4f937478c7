/- Part 4 of the means of the proof: a verified abstract evaluator, the prepared functions, and contracts of functions. It states nothing of the claim by itself. -/
import Derived.Test.YtmlclkgmdndcdaaGreatB3
set_option linter.unusedSimpArgs false
set_option linter.unusedVariables false
namespace Go.Proofs
open Go Go.Abs M3 M25
set_option linter.unusedVariables false
set_option linter.unusedSimpArgs false
theorem Qdk {a b c : Int} {p q : List UInt8} (hp : p.length <= 1000000) (hq : q.length <= 1000000) {part : Int} : Ok Tryz.prog 109 [.agg [.int .i64 a, .int .i64 b, .int .i64 c, .str p, .str q], .int .i64 part] (dOV (Qaj a b c p q part)) := by
 refine Ok.ofT ZY Tryz.func109 Qth (Nat.le_of_ble_eq_true Z) ?_
 show TW _ _ tf109.body _ _
 refine Qf fun K hK => Zz Z Z Z (ZF Z (Qa Z (hK _ _ (Qb (kp3 Z Z Z) ?_))))
 refine QE ?_ -- 0
 refine Qf fun K hK => QH (cs := [_, _, _, _, _]) Z Z Z Z (QF (Zj (by omega) (by omega)) Z Z (.inr Z) (Yh Z (Qa Z ?_)))
 refine QB (g := 10) Z (fun h1 => ?_) (fun h1 => ?_)
 ·try rw [h1]
  try simp only [qB] at h1
  refine Qp Z (Qp Z (Ql Z Z (Qa Z (Qp Z (Qp Z (Ql Z Z (hK _ _ (Qb (kp4 Z Z Z Z) ?_))))))))
  refine Zm Z (Qf fun K hK => QU Z Z (Q5 Z Z Z Z Z Z Z Z (Qa Z (hK _ _ (Qb (kp2 Z Z) ?_)))))
  refine Qv (Qk (Post.eq (XP (ds := [.int .i64 _, .int .i64 _, .int .i64 _, .str _, .str _]) (d' := .bool _) (cs := [_, _, _, _, _]) Z Z Z Z Z ⟨rfl, rfl⟩) ?_))
  first | (simp [Qaj, dOV, h1]; done) | (simp_all [Qaj, dOV]; done)
 ·try rw [h1]
  try simp only [qB] at h1
  refine Qh Z (Qa Z (Qh Z (Z9 Z Z (Ql Z Z (Qa Z ?_)))))
  refine QB (g := 14) Z (fun h2 => ?_) (fun h2 => ?_)
  ·try rw [h2]
   try simp only [qB] at h2
   refine Qp Z (Qp Z (Ql Z Z (hK _ _ (Qb (kp4 Z Z Z Z) ?_))))
   refine Zm Z (Qf fun K hK => QU Z Z (Q5 Z Z Z Z Z Z Z Z (Qa Z (hK _ _ (Qb (kp2 Z Z) ?_)))))
   refine Qv (Qk (Post.eq (XP (ds := [.int .i64 _, .int .i64 _, .int .i64 _, .str _, .str _]) (d' := .bool _) (cs := [_, _, _, _, _]) Z Z Z Z Z ⟨rfl, rfl⟩) ?_))
   first | (simp [Qaj, dOV, h1, h2]; done) | (simp_all [Qaj, dOV]; done)
  ·try rw [h2]
   try simp only [qB] at h2
   refine Qh Z (Qa Z (Qh Z (QiQ Z Z (Ql Z Z (hK _ _ (Qb (kp4 Z Z Z Z) ?_))))))
   refine Qx Z (fun h3 => ?_) (fun h3 => ?_)
   ·try rw [h3]
    try simp only [qB] at h3
    refine Qf fun K hK => QU Z Z (Q5 Z Z Z Z Z Z Z Z (Qa Z (hK _ _ (Qb (kp2 Z Z) ?_))))
    refine Qv (Qk (Post.eq (XP (ds := [.int .i64 _, .int .i64 _, .int .i64 _, .str _, .str _]) (d' := .bool _) (cs := [_, _, _, _, _]) Z Z Z Z Z ⟨rfl, rfl⟩) ?_))
    first | (simp [Qaj, dOV, h1, h2, h3]; done) | (simp_all [Qaj, dOV]; done)
   ·try rw [h3]
    try simp only [qB] at h3
    refine Qw (Qe (kp3 Z Z Z) (Qf fun K hK => ZF Z (hK _ _ (Qb (kp4 Z Z Z Z) ?_))))
    refine QE ?_ -- 1
    refine Qf fun K hK => Qa Z (hK _ _ (Qb (kp4 Z Z Z Z) ?_))
    refine QD (Qf fun K hK => ZD Z Z (Qa Z (hK _ _ (Qb (kp5 Z Z Z Z Z) ?_))))
    refine Qx Z (fun h4 => ?_) (fun h4 => ?_)
    ·try rw [h4]
     try simp only [qB] at h4
     refine QO fun K hK => Qj Z Z (Qy Z Z Z (Q2 Z Z (Qs (by have := QcL (by simpa using h1); omega) (by have := QcL (by simpa using h1); omega)) (QU Z Z (Q5 Z Z Z Z Z Z Z Z (hK _ ?_)))))
     refine Qi (Qe (kp2 Z Z) ?_)
     refine QE ?_ -- 2
     refine Qf fun K hK => QH (cs := [_, _, _, _, _]) Z Z Z Z (QF (Zj (by simp) (by simp)) Z Z (.inr Z) (Yh Z (hK _ _ (Qb (kp3 Z Z Z) ?_))))
     refine Qx Z (fun h5 => ?_) (fun h5 => ?_)
     ·try rw [h5]
      try simp only [qB] at h5
      refine Qf fun K hK => QU Z Z (Q5 Z Z Z Z Z Z Z Z (Qa Z (hK _ _ (Qb (kp2 Z Z) ?_))))
      refine Qv (Qk (Post.eq (XP (ds := [.int .i64 _, .int .i64 _, .int .i64 _, .str _, .str _]) (d' := .bool _) (cs := [_, _, _, _, _]) Z Z Z Z Z ⟨rfl, rfl⟩) ?_))
      first | (simp [Qaj, dOV, h1, h2, h3, h4, h5]; done) | (simp_all [Qaj, dOV]; done)
     ·try rw [h5]
      try simp only [qB] at h5
      refine Qw (Qe (kp2 Z Z) (Qf fun K hK => QH (cs := [_, _, _, _, _]) Z Z Z Z (Q5 Z Z Z Z Z Z Z Z (Qa Z (hK _ _ (Qb (kp2 Z Z) ?_))))))
      refine Qv (Post.eq (XP (ds := [.int .i64 _, .int .i64 _, .int .i64 _, .str _, .str _]) (d' := .bool _) (cs := [_, _, _, _, _]) Z Z Z Z Z ⟨rfl, rfl⟩) ?_)
      first | (simp [Qaj, dOV, h1, h2, h3, h4, h5]; done) | (simp_all [Qaj, dOV]; done)
    ·try rw [h4]
     try simp only [qB] at h4
     refine Qf fun K hK => ZD Z Z (Qa Z (hK _ _ (Qb (kp4 Z Z Z Z) ?_)))
     refine Qx Z (fun h6 => ?_) (fun h6 => ?_)
     ·try rw [h6]
      try simp only [qB] at h6
      refine QO fun K hK => Qj Z Z (Qy Z Z Z (Qj Z Z (Qy Z Z Z (Q2 Z Z (Qs (by have := QcL (by simpa using h1); omega) (by have := QcL (by simpa using h1); omega)) (QU Z Z (Q5 Z Z Z Z Z Z Z Z (hK _ ?_)))))))
      refine Qi (Qe (kp2 Z Z) ?_)
      refine QE ?_ -- 2
      refine Qf fun K hK => QH (cs := [_, _, _, _, _]) Z Z Z Z (QF (Zj (by simp) (by simp)) Z Z (.inr Z) (Yh Z (hK _ _ (Qb (kp3 Z Z Z) ?_))))
      refine Qx Z (fun h7 => ?_) (fun h7 => ?_)
      ·try rw [h7]
       try simp only [qB] at h7
       refine Qf fun K hK => QU Z Z (Q5 Z Z Z Z Z Z Z Z (Qa Z (hK _ _ (Qb (kp2 Z Z) ?_))))
       refine Qv (Qk (Post.eq (XP (ds := [.int .i64 _, .int .i64 _, .int .i64 _, .str _, .str _]) (d' := .bool _) (cs := [_, _, _, _, _]) Z Z Z Z Z ⟨rfl, rfl⟩) ?_))
       first | (simp [Qaj, dOV, h1, h2, h3, h4, h6, h7]; done) | (simp_all [Qaj, dOV]; done)
      ·try rw [h7]
       try simp only [qB] at h7
       refine Qw (Qe (kp2 Z Z) (Qf fun K hK => QH (cs := [_, _, _, _, _]) Z Z Z Z (Q5 Z Z Z Z Z Z Z Z (Qa Z (hK _ _ (Qb (kp2 Z Z) ?_))))))
       refine Qv (Post.eq (XP (ds := [.int .i64 _, .int .i64 _, .int .i64 _, .str _, .str _]) (d' := .bool _) (cs := [_, _, _, _, _]) Z Z Z Z Z ⟨rfl, rfl⟩) ?_)
       first | (simp [Qaj, dOV, h1, h2, h3, h4, h6, h7]; done) | (simp_all [Qaj, dOV]; done)
     ·try rw [h6]
      try simp only [qB] at h6
      refine QO fun K hK => Qj Z Z (Qy Z Z Z (Qj Z Z (Qy Z Z Z (Qj Z Z (Qy Z Z Z (Q2 Z Z (Qs (by have := QcL (by simpa using h1); omega) (by have := QcL (by simpa using h1); omega)) (QU Z Z (Q5 Z Z Z Z Z Z Z Z (hK _ ?_)))))))))
      refine Qi (Qe (kp2 Z Z) ?_)
      refine QE ?_ -- 2
      refine Qf fun K hK => QH (cs := [_, _, _, _, _]) Z Z Z Z (QF (Zj (by simp) (by simp)) Z Z (.inr Z) (Yh Z (hK _ _ (Qb (kp3 Z Z Z) ?_))))
      refine Qx Z (fun h8 => ?_) (fun h8 => ?_)
      ·try rw [h8]
       try simp only [qB] at h8
       refine Qf fun K hK => QU Z Z (Q5 Z Z Z Z Z Z Z Z (Qa Z (hK _ _ (Qb (kp2 Z Z) ?_))))
       refine Qv (Qk (Post.eq (XP (ds := [.int .i64 _, .int .i64 _, .int .i64 _, .str _, .str _]) (d' := .bool _) (cs := [_, _, _, _, _]) Z Z Z Z Z ⟨rfl, rfl⟩) ?_))
       first | (simp [Qaj, dOV, h1, h2, h3, h4, h6, h8]; done) | (simp_all [Qaj, dOV]; done)
      ·try rw [h8]
       try simp only [qB] at h8
       refine Qw (Qe (kp2 Z Z) (Qf fun K hK => QH (cs := [_, _, _, _, _]) Z Z Z Z (Q5 Z Z Z Z Z Z Z Z (Qa Z (hK _ _ (Qb (kp2 Z Z) ?_))))))
       refine Qv (Post.eq (XP (ds := [.int .i64 _, .int .i64 _, .int .i64 _, .str _, .str _]) (d' := .bool _) (cs := [_, _, _, _, _]) Z Z Z Z Z ⟨rfl, rfl⟩) ?_)
       first | (simp [Qaj, dOV, h1, h2, h3, h4, h6, h8]; done) | (simp_all [Qaj, dOV]; done)
theorem Qdl {a b c : Int} {p q : List UInt8} (hp : p.length <= 1000000) (hq : q.length <= 1000000) : Ok Tryz.prog 95 [.agg [.int .i64 a, .int .i64 b, .int .i64 c, .str p, .str q]] (dOV (QjD a b c p q)) := by
 refine Ok.ofT ZY Tryz.func95 QuY (Nat.le_of_ble_eq_true Z) ?_
 show TW _ _ tf95.body _ _
 refine Qf fun K hK => Zz Z Z Z (ZF Z (Qa Z (hK _ _ (Qb (kp2 Z Z) ?_))))
 refine QE ?_ -- 0
 refine Qf fun K hK => QH (cs := [_, _, _, _, _]) Z Z Z Z (QF (Zj (by omega) (by omega)) Z Z (.inr Z) (Yh Z (hK _ _ (Qb (kp3 Z Z Z) ?_))))
 refine Qx Z (fun h1 => ?_) (fun h1 => ?_)
 ·try rw [h1]
  try simp only [qB] at h1
  refine Qf fun K hK => QU Z Z (Q5 Z Z Z Z Z Z Z Z (Qa Z (hK _ _ (Qb (kp2 Z Z) ?_))))
  refine Qv (Qk (Post.eq (XP (ds := [.int .i64 _, .int .i64 _, .int .i64 _, .str _, .str _]) (d' := .bool _) (cs := [_, _, _, _, _]) Z Z Z Z Z ⟨rfl, rfl⟩) ?_))
  simp [QjD, dOV, h1]
 ·try rw [h1]
  try simp only [qB] at h1
  refine Qw (Qe (kp2 Z Z) ?_)
  refine QE ?_ -- 1
  refine Qf fun K hK => Qj Z Z (Qy Z Z Z (QoS Z Z (hK _ _ (Qb (kp3 Z Z Z) ?_))))
  refine Qx Z (fun h2 => ?_) (fun h2 => ?_)
  ·try rw [h2]
   try simp only [qB] at h2
   refine Qf fun K hK => Qj Z Z (Qy Z Z Z (Qj Z Z (Qy Z Z Z (Qj Z Z (Qy Z Z Z (QU Z Z (Q5 Z Z Z Z Z Z Z Z (Qa Z (hK _ _ (Qb (kp2 Z Z) ?_))))))))))
   refine Qv (Qk (Post.eq (XP (ds := [.int .i64 _, .int .i64 _, .int .i64 _, .str _, .str _]) (d' := .bool _) (cs := [_, _, _, _, _]) Z Z Z Z Z ⟨rfl, rfl⟩) ?_))
   simp [QjD, dOV, h1, h2]
  ·try rw [h2]
   try simp only [qB] at h2
   refine Qw (Qe (kp2 Z Z) ?_)
   refine QE ?_ -- 2
   refine Qf fun K hK => Qa Z (hK _ _ (Qb (kp3 Z Z Z) ?_))
   refine QD ?_
   refine Zs (ι := Nat) (fun m => ⟨[(1, .ref 1 0 0), (2, .ref 2 0 0), (4, .int .i64 ((m : Int) - 1))], [(1, ⟨[[.int .i64 a, .int .i64 b, .int .i64 c, .str p, .str q]], 5, 68, true⟩), (2, ⟨[[.int .i64 0, .int .i64 0, .int .i64 0, .str [], .str []]], 5, 68, true⟩)]⟩) (fun m => m <= 3 /\ XS a b c p q 3 = XS a b c p q m) (fun m => m) 3 ?_ ?_ ?_
   ·exact Q8 (l := [1, 2, 4]) (lH := [1, 2]) (kp3 rfl rfl rfl) (Qg rfl (Qg rfl Qr)) rfl rfl rfl
   ·exact ⟨by omega, rfl⟩
   intro m hI
   obtain ⟨hI1, hI2⟩ := hI
   try dsimp only
   refine QE ?_ -- 3
   refine Qf fun K hK => Qa Z (Qet Z Z (hK _ _ (Qb (kp4 Z Z Z Z) ?_)))
   refine Qx Z (fun h3 => ?_) (fun h3 => ?_)
   ·try rw [h3]
    try simp only [qB] at h3
    rcases Nat.eq_zero_or_pos m with hm | hm <;> first | omega | skip
    refine Qw (Qe (kp3 Z Z Z) ?_)
    refine QE ?_ -- 4
    refine QD (Qf fun K hK => QH (cs := [_, _, _, _, _]) Z Z Z Z (Qa Z (QF (Qdk (by omega) (by omega)) Z Z (.inl Z) (Qa Z (Zd Z Z (Zd Z Z (ZF Z (Q5 Z Z Z Z Z Z Z Z (Qa Z (hK _ _ (Qb (kp5 Z Z Z Z Z) ?_)))))))))))
    refine Qf fun K hK => Qa Z (hK _ _ (Qb (kp5 Z Z Z Z Z) ?_))
    refine Qx Z (fun h4 => ?_) (fun h4 => ?_)
    ·try rw [h4]
     try simp only [qB] at h4
     refine Qf fun K hK => QH (cs := [_, _, _, _, _]) Z Z Z Z (Q5 Z Z Z Z Z Z Z Z (Qa Z (hK _ _ (Qb (kp2 Z Z) ?_))))
     refine Qv (Qu (Qk (Q9 (Qu (Qk (Post.eq (XP (ds := [.int .i64 _, .int .i64 _, .int .i64 _, .str _, .str _]) (d' := .bool _) (cs := [_, _, _, _, _]) Z Z Z Z Z ⟨rfl, rfl⟩) ?_))))))
     subst h2
     simp [QjD, dOV, h1, hI2, Qi7 hm h4, h4]
    ·try rw [h4]
     try simp only [qB] at h4
     refine Qw (Qi (Qe (kp3 Z Z Z) (QO fun K hK => Qa Z (Qag Z Z (by first | exact Qs (by omega) (by omega) | rfl) (Qa Z (hK _ ?_))))))
     refine Qm (m - 1) ?_ ?_ ?_
     ·refine Q8 (l := [1, 2, 4]) (lH := [1, 2]) (kp3 Z Z Z) (Qg Z (Qg Z Qr)) ?_ Z rfl; simp only [List.cons.injEq, Prod.mk.injEq, D.int.injEq, and_true, true_and]; omega
     ·exact ⟨by omega, by rw [hI2]; exact Qkm hm h4⟩
     ·show m - 1 < m; omega
   ·try rw [h3]
    try simp only [qB] at h3
    rcases Nat.eq_zero_or_pos m with hm | hm <;> first | omega | skip
    refine Zl (QN (QC (QJ (Qe (kp1 Z) (Qf fun K hK => QU Z Z (Q5 Z Z Z Z Z Z Z Z (Qa Z (hK _ _ (Qb (kp2 Z Z) ?_)))))))))
    refine Qv (Post.eq (XP (ds := [.int .i64 _, .int .i64 _, .int .i64 _, .str _, .str _]) (d' := .bool _) (cs := [_, _, _, _, _]) Z Z Z Z Z ⟨rfl, rfl⟩) ?_)
    subst h2
    subst hm
    have hb : XS a b c [] q 3 = none := hI2
    simp [QjD, dOV, h1, hb]
end Go.Proofs
namespace Go.Proofs
open Go Go.Abs M3 M25
set_option linter.unusedVariables false
set_option linter.unusedSimpArgs false
theorem Qae {e a b c : Int} {p q : List UInt8} {f : Bool} : Ok Tryz.prog 117 [.agg [.int .i64 e, .int .i64 a, .int .i64 b, .int .i64 c, .str p, .str q, .bool f]] (.bool (Qhx e a b c p q f)) := by
 refine Ok.ofT ZY Tryz.func117 Qtp (Nat.le_of_ble_eq_true Z) ?_
 show TW _ _ tf117.body _ _
 refine Qf fun K hK => Zz Z Z Z (Qa Z (hK _ _ (Qb (kp1 Z) ?_)))
 refine Qf fun K hK => Qj Z Z (Qy Z Z Z (XY Z Z (Qa Z ?_)))
 refine QB (g := 6) Z (fun h1 => ?_) (fun h1 => ?_)
 ·try rw [h1]
  try simp only [qB] at h1
  refine Qp Z (Qp Z (Qp Z (Qp Z (ZH Z (ZH Z (ZH Z (ZH Z (Qp Z (Qp Z (ZH Z (ZH Z ?_)))))))))))
  refine ZH Z (ZH Z (Qp Z (Ql Z Z (Qa Z (hK _ _ (Qb (kp1 Z) ?_))))))
  refine Qv (Qt Z ?_)
  simp_all [Qhx]
 ·try rw [h1]
  try simp only [qB] at h1
  refine Qh Z (Qj Z Z (Qh Z (Qy Z Z Z (Qh Z (Yh Z (Qh Z (Qa Z ?_)))))))
  refine QB (g := 10) Z (fun h2 => ?_) (fun h2 => ?_)
  ·try rw [h2]
   try simp only [qB] at h2
   refine Qh Z (Qj Z Z (Qh Z (Qj Z Z (Qh Z (Qy Z Z Z (Qh Z (QfM Z Z (Qh Z (Ql Z Z (Qh Z (Qa Z ?_)))))))))))
   refine QB (g := 16) Z (fun h3 => ?_) (fun h3 => ?_)
   ·try rw [h3]
    try simp only [qB] at h3
    refine Qh Z (Qj Z Z (Qh Z (QH (cs := [_, _, _, _, _]) Z Z Z Z (Qh Z (QF (Qad) Z Z (.inr Z) (Qh Z (Yh Z (Qh Z (Ql Z Z (Ql Z Z (Qa Z ?_)))))))))))
    refine hK _ _ (Qb (kp1 Z) ?_)
    refine Qv (Qt Z ?_)
    simp_all [Qhx]
   ·try rw [h3]
    try simp only [qB] at h3
    refine Qp Z (Qp Z (Qp Z (Qp Z (Qh Z (Ql Z Z (Ql Z Z (Qa Z (hK _ _ (Qb (kp1 Z) ?_)))))))))
    refine Qv (Qt Z ?_)
    simp_all [Qhx]
  ·try rw [h2]
   try simp only [qB] at h2
   refine Qp Z (Qp Z (Qp Z (Qp Z (Qh Z (Ql Z Z (Qh Z (Qa Z (Qp Z (Qp Z (Qp Z (Qp Z ?_)))))))))))
   refine Qh Z (Ql Z Z (Ql Z Z (Qa Z (hK _ _ (Qb (kp1 Z) ?_)))))
   refine Qv (Qt Z ?_)
   simp_all [Qhx]
theorem Qc6 {a b c : Int} {p q : List UInt8} : Ok Tryz.prog 71 [.agg [.int .i64 a, .int .i64 b, .int .i64 c, .str p, .str q]] (.agg (dCu (Qgp a b c))) := by
 refine Ok.ofT ZY Tryz.func71 QuC (Nat.le_of_ble_eq_true Z) ?_
 show TW _ _ tf71.body _ _
 refine Qf fun K hK => Zz Z Z Z (ZF Z (hK _ _ (Qb (kp2 Z Z) ?_)))
 refine QE ?_ -- 0
 refine Qf fun K hK => QH (cs := [_, _, _, _, _]) Z Z Z Z (QF (Qad) Z Z (.inr Z) (hK _ _ (Qb (kp3 Z Z Z) ?_)))
 refine Qx Z (fun h1 => ?_) (fun h1 => ?_)
 ·try rw [h1]
  try simp only [qB] at h1
  refine Qf fun K hK => QF (Xb) Z Z (.inl Z) (Q5 Z Z Z Z Z Z Z Z (hK _ _ (Qb (kp1 Z) ?_)))
  refine Qv (Qk (Post.eq (ZJ (ds := [.int .i64 _, .int .i64 _, .int .i64 _, .int .i64 _, .str _, .str _, .bool _]) (cs := [_, _, _, _, _, _, _]) Z Z Z Z Z) ?_))
  simp [Qgp, dCu, Qc9, h1]
 ·try rw [h1]
  try simp only [qB] at h1
  refine Qw (Qe (kp2 Z Z) (Qf fun K hK => Qj Z Z (Qy Z Z Z (Qj Z Z (Qy Z Z Z (Qj Z Z (Qy Z Z Z (QU Z Z (QF (YW) Z Z (.inl Z) (Q5 Z Z Z Z Z Z Z Z ?_))))))))))
  refine hK _ _ (Qb (kp1 Z) ?_)
  refine Qv (Post.eq (ZJ (ds := [.int .i64 _, .int .i64 _, .int .i64 _, .int .i64 _, .str _, .str _, .bool _]) (cs := [_, _, _, _, _, _, _]) Z Z Z Z Z) ?_)
  simp [Qgp, dCu, Qc9, h1]
theorem Qcb {a b c : Int} {p q : List UInt8} : Ok Tryz.prog 72 [.agg [.int .i64 a, .int .i64 b, .int .i64 c, .str p, .str q]] (.agg (dCu (Qd4 a b c))) := by
 refine Ok.ofT ZY Tryz.func72 QuD (Nat.le_of_ble_eq_true Z) ?_
 show TW _ _ tf72.body _ _
 refine Qf fun K hK => Zz Z Z Z (ZF Z (hK _ _ (Qb (kp2 Z Z) ?_)))
 refine Qf fun K hK => Qj Z Z (Qy Z Z Z (Qj Z Z (Qy Z Z Z (Qj Z Z (Qy Z Z Z (QU Z Z (QF (Qdl (by simp) (by simp)) Z Z (.inl Z) (Qa Z (Zd Z Z (Zd Z Z ?_))))))))))
 refine ZF Z (Q5 Z Z Z Z Z Z Z Z (Qa Z (hK _ _ (Qb (kp3 Z Z Z) ?_))))
 refine QE ?_ -- 0
 refine Qf fun K hK => Qa Z (Yh Z (hK _ _ (Qb (kp3 Z Z Z) ?_)))
 refine Qx Z (fun h1 => ?_) (fun h1 => ?_)
 ·try rw [h1]
  try simp only [qB] at h1
  refine Qf fun K hK => QF (Xn) Z Z (.inl Z) (Q5 Z Z Z Z Z Z Z Z (hK _ _ (Qb (kp1 Z) ?_)))
  refine Qv (Qk (Post.eq (ZJ (ds := [.int .i64 _, .int .i64 _, .int .i64 _, .int .i64 _, .str _, .str _, .bool _]) (cs := [_, _, _, _, _, _, _]) Z Z Z Z Z) ?_))
  cases hn : QjD a b c [] [] <;> simp [Qd4, dCu, QgX, hn] at *
 ·try rw [h1]
  try simp only [qB] at h1
  refine Qw (Qe (kp2 Z Z) (Qf fun K hK => QH (cs := [_, _, _, _, _]) Z Z Z Z (QF (YW) Z Z (.inl Z) (Q5 Z Z Z Z Z Z Z Z (hK _ _ (Qb (kp1 Z) ?_))))))
  refine Qv (Post.eq (ZJ (ds := [.int .i64 _, .int .i64 _, .int .i64 _, .int .i64 _, .str _, .str _, .bool _]) (cs := [_, _, _, _, _, _, _]) Z Z Z Z Z) ?_)
  cases hn : QjD a b c [] [] <;> simp [Qd4, dCu, QgX, hn] at *
theorem Qaf  : Ok Tryz.prog 112 [] (ZL [(Qc9, QgX)]) := by
 refine Ok.ofT ZY Tryz.func112 Qtk (Nat.le_of_ble_eq_true Z) ?_
 show TW _ _ tf112.body _ _
 refine Qf fun K hK => Qa Z (hK _ _ (Qb (Q7) ?_))
 refine Qf fun K hK => QF (Xb) Z Z (.inl Z) (QF (Xn) Z Z (.inl Z) (QU Z Z (QI Z Z (Qa Z (hK _ _ (Qb (kp1 Z) ?_))))))
 refine Qv (Yn Z ?_)
 rfl
theorem Ya  : Ok Tryz.prog 68 [] (QhY ([], [])) := by
 refine Ok.ofT ZY Tryz.func68 Quz (Nat.le_of_ble_eq_true Z) ?_
 show TW _ _ tf68.body _ _
 refine Qf fun K hK => ZF Z (hK _ _ (Qb (kp1 Z) ?_))
 refine Qf fun K hK => QU Z Z (Q5 Z Z Z Z Z Z Z Z (hK _ _ (Qb (kp1 Z) ?_)))
 refine Qv (Post.eq (ZJ (ds := [.sl _, .sl _]) (cs := [_, _]) Z Z Z Z Z) ?_)
 rfl
theorem QdL  : Ok Tryz.prog 98 [] (QhY ([(Qc9, QgX)], [(Qc9, QgX)])) := by
 refine Ok.ofT ZY Tryz.func98 Qu1 (Nat.le_of_ble_eq_true Z) ?_
 show TW _ _ tf98.body _ _
 refine Qf fun K hK => ZF Z (hK _ _ (Qb (kp1 Z) ?_))
 refine Qf fun K hK => QF (Qaf) Z Z (.inl Z) (QF (Qaf) Z Z (.inl Z) (QU Z Z (Q5 Z Z Z Z Z Z Z Z (hK _ _ (Qb (kp1 Z) ?_)))))
 refine Qv (Post.eq (ZJ (ds := [.sl _, .sl _]) (cs := [_, _]) Z Z Z Z Z) ?_)
 rfl
theorem Qac {a b c : Int} {p q : List UInt8} (hp : p.length <= 1000000) (hq : q.length <= 1000000) : Ok Tryz.prog 41 [.agg [.int .i64 a, .int .i64 b, .int .i64 c, .str p, .str q]] (QhY (Xr a b c p q)) := by
 refine Ok.ofT ZY Tryz.func41 Qud (Nat.le_of_ble_eq_true Z) ?_
 show TW _ _ tf41.body _ _
 refine Qf fun K hK => Zz Z Z Z (ZF Z (hK _ _ (Qb (kp2 Z Z) ?_)))
 refine QE ?_ -- 0
 refine Qf fun K hK => QH (cs := [_, _, _, _, _]) Z Z Z Z (QF (Zj (by omega) (by omega)) Z Z (.inr Z) (Yh Z (hK _ _ (Qb (kp3 Z Z Z) ?_))))
 refine Qx Z (fun h1 => ?_) (fun h1 => ?_)
 ·try rw [h1]
  try simp only [qB] at h1
  refine Qf fun K hK => QF (Ya) Z Z (.inl Z) (Q5 Z Z Z Z Z Z Z Z (hK _ _ (Qb (kp1 Z) ?_)))
  refine Qv (Qk (Post.eq (ZJ (ds := [.sl _, .sl _]) (cs := [_, _]) Z Z Z Z Z) ?_))
  simp [Xr, QhY, ZL, Qfe, dCu, h1]
 ·try rw [h1]
  try simp only [qB] at h1
  refine Qw (Qe (kp2 Z Z) ?_)
  refine QE ?_ -- 1
  refine Qf fun K hK => Qj Z Z (Qy Z Z Z (QoS Z Z (hK _ _ (Qb (kp3 Z Z Z) ?_))))
  refine Qx Z (fun h2 => ?_) (fun h2 => ?_)
  ·try rw [h2]
   try simp only [qB] at h2
   refine Qf fun K hK => QP (ds0 := [6, 3, 2, 1, 0]) (cs := [_, _, _, _, _]) Z Z Z Z Z Z (QX (ds0 := [3, 2, 1, 0]) (YW) Z Z (.inl Z) Z Z (QP (ds0 := [4, 3, 2, 1, 0]) (cs := [_, _, _, _, _]) Z Z Z Z Z Z (QX (ds0 := [3, 2, 1, 0]) (Qca) Z Z (.inl Z) Z Z (QU Z Z (QI Z Z (QU Z Z (Xu (ds0 := []) Z Z Z Z Z Z Z Z Z Z (hK _ _ (Qb (kp1 Z) ?_)))))))))
   refine Qv (Qk (Post.eq (ZJ (ds := [.sl _, .sl _]) (cs := [_, _]) Z Z Z Z Z) ?_))
   simp [Xr, QhY, ZL, Qfe, dCu, h1, h2]
  ·try rw [h2]
   try simp only [qB] at h2
   refine Qw (Qe (kp2 Z Z) (Qf fun K hK => QP (ds0 := [6, 3, 2, 1, 0]) (cs := [_, _, _, _, _]) Z Z Z Z Z Z (QX (ds0 := [3, 2, 1, 0]) (Qc6) Z Z (.inl Z) Z Z (QP (ds0 := [4, 3, 2, 1, 0]) (cs := [_, _, _, _, _]) Z Z Z Z Z Z (QX (ds0 := [3, 2, 1, 0]) (Qcb) Z Z (.inl Z) Z Z (QU Z Z (QI Z Z (QU Z Z (Xu (ds0 := []) Z Z Z Z Z Z Z Z Z Z (hK _ _ (Qb (kp1 Z) ?_)))))))))))
   refine Qv (Post.eq (ZJ (ds := [.sl _, .sl _]) (cs := [_, _]) Z Z Z Z Z) ?_)
   subst h2
   simp [Xr, QhY, ZL, Qfe, dCu, h1]
end Go.Proofs
namespace Go.Proofs
open Go Go.Abs M3 M25
set_option linter.unusedVariables false
set_option linter.unusedSimpArgs false
theorem Z1 {l : List (Cu × Cu)} (hl : Sm l) : Ok Tryz.prog 116 [ZL l] (.bool (QeN l)) := by
 refine Ok.ofT ZY Tryz.func116 Qto (Nat.le_of_ble_eq_true Z) ?_
 show TW _ _ tf116.body _ _
 have hn := hl.1
 refine Qf fun K hK => Qa Z (hK _ _ (Qb (kp1 Z) ?_))
 refine QE ?_ -- 0
 refine Qf fun K hK => Qa Z (hK _ _ (Qb (kp2 Z Z) ?_))
 refine QD ?_
 refine Zs (ι := Nat) (fun i => ⟨[(0, ZL l), (3, .int .i64 i)], []⟩) (fun i => i <= l.length /\ (List.range i).all (QrM l) = true) (fun i => l.length - i) 0 ?_ ?_ ?_
 ·exact Zk (kp2 rfl rfl)
 ·exact ⟨Nat.zero_le _, rfl⟩
 intro i hI
 try dsimp only
 refine QE ?_ -- 1
 refine Qf fun K hK => Qa Z (Qa Z (QS Z Z (Z9 Z Z (hK _ _ (Qb (kp3 Z Z Z) ?_)))))
 refine Qx Z (fun h1 => ?_) (fun h1 => ?_)
 ·try rw [h1]
  try simp only [qA] at h1
  refine Qw (Qe (kp2 Z Z) ?_)
  refine QE ?_ -- 2
  refine QD (Qf fun K hK => Qa Z (Qa Z (QL Z Z Z (by omega) (QT (by omega)) Z (QP (ds0 := [20, 19, 18, 17, 16, 15, 14, 13, 12, 11, 10, 9, 8, 7, 6, 5, 4, 3, 2, 1, 0]) (cs := [_, _, _, _, _, _, _, _, _, _, _, _, _, _]) Z Z Z Z Z Z (QX (ds0 := [19, 18, 17, 16, 15, 14, 13, 12, 11, 10, 9, 8, 7, 6, 5, 4, 3, 2, 1, 0]) (YN (hl.at (i := i) (by omega)).1.1 (hl.at (i := i) (by omega)).1.2 (hl.at (i := i) (by omega)).2.1 (hl.at (i := i) (by omega)).2.2) Z Z (.inr Z) Z Z (Yh Z (Qa Z ?_)))))))
  refine QB (g := 16) Z (fun h2 => ?_) (fun h2 => ?_)
  ·try rw [h2]
   try simp only [qA] at h2
   refine Qp Z (Qp Z (Qp Z (ZH Z (ZH Z (ZH Z (ZH Z (ZH Z (ZH Z (ZH Z (ZH Z (ZH Z ?_)))))))))))
   refine ZH Z (ZH Z (ZH Z (ZH Z (Qp Z (Ql Z Z (hK _ _ (Qb (kp3 Z Z Z) ?_)))))))
   refine Zm Z (Qf fun K hK => Qa Z (hK _ _ (Qb (kp1 Z) ?_)))
   refine Qv (Qu (Qk (Q9 (Qu (Qk (Qt Z ?_))))))
   first
    | exact (QfE hI.2 (by omega)).symm
    | exact (QbK (i := i) (by omega) (QhD (by omega) (.inl h2))).symm
    | (simp only [Qeg] at *; exact (QbK (i := i) (by omega) (QhD (by omega) (.inr ⟨by omega, h4⟩))).symm)
  ·try rw [h2]
   try simp only [qA] at h2
   refine Qh Z (Qa Z (Qh Z (QiQ Z Z (Qh Z (Qa Z ?_)))))
   refine QB (g := 19) Z (fun h3 => ?_) (fun h3 => ?_)
   ·try rw [h3]
    try simp only [qA] at h3
    refine Qh Z (Qa Z (Qh Z (Qa Z (Qh Z (Qag Z Z (by first | exact Qs (by omega) (by omega) | rfl) (Qh Z (QL Z Z Z (by omega) (ZA (by omega) (by omega)) Z (Qh Z (Za Z Z (Qh Z (QP (ds0 := [3, 2, 1, 0]) (cs := [_, _, _, _, _, _, _]) Z Z Z Z Z Z ?_)))))))))))
    refine Qh Z (Qa Z (Qh Z (Qa Z (Qh Z (QL Z Z Z (by omega) (QT (by omega)) Z (Qh Z (Za Z Z (Qh Z (QP (ds0 := [3, 2, 1, 0]) (cs := [_, _, _, _, _, _, _]) Z Z Z Z Z Z (Qh Z (QX (ds0 := [2, 1, 0]) (Zy (hl.at (i := ((i : Int) - 1).toNat) (by omega)).2.1 (hl.at (i := ((i : Int) - 1).toNat) (by omega)).2.2 (hl.at (i := i) (by omega)).1.1 (hl.at (i := i) (by omega)).1.2) Z Z (.inr Z) Z Z ?_)))))))))))
    refine Qh Z (Qet Z Z (Qh Z (Ql Z Z (Ql Z Z (hK _ _ (Qb (kp3 Z Z Z) ?_))))))
    refine Qx Z (fun h4 => ?_) (fun h4 => ?_)
    ·try rw [h4]
     try simp only [qA] at h4
     refine Qf fun K hK => Qa Z (hK _ _ (Qb (kp1 Z) ?_))
     refine Qv (Qu (Qk (Q9 (Qu (Qk (Qt Z ?_))))))
     first
      | exact (QfE hI.2 (by omega)).symm
      | exact (QbK (i := i) (by omega) (QhD (by omega) (.inl h2))).symm
      | (simp only [Qeg] at *; exact (QbK (i := i) (by omega) (QhD (by omega) (.inr ⟨by omega, h4⟩))).symm)
    ·try rw [h4]
     try simp only [qA] at h4
     refine Qw (Qi (Qe (kp2 Z Z) (QO fun K hK => Qa Z (Q2 Z Z (by first | exact Qs (by omega) (by omega) | rfl) (Qa Z (hK _ ?_))))))
     refine Qm (i + 1) ?_ ?_ ?_
     ·exact Zk (kp2 rfl rfl)
     ·exact ⟨by omega, QiD hI.2 (Qqs (by omega) h2 (by first | exact .inl (by omega) | (simp only [Qeg] at *; exact .inr (Int.not_le.1 h4))))⟩
     ·first | omega | (simp only; omega) | (dsimp only; omega)
   ·try rw [h3]
    try simp only [qA] at h3
    refine Qp Z (Qp Z (Qp Z (Qp Z (Qp Z (Qp Z (Qp Z (Qp Z (Qp Z (Qp Z (Qp Z (Qp Z ?_)))))))))))
    refine Qp Z (Qh Z (Ql Z Z (Ql Z Z (hK _ _ (Qb (kp3 Z Z Z) ?_)))))
    refine ZS Z (Qw (Qi (Qe (kp2 Z Z) (QO fun K hK => Qa Z (Q2 Z Z (by first | exact Qs (by omega) (by omega) | rfl) (Qa Z (hK _ ?_)))))))
    refine Qm (i + 1) ?_ ?_ ?_
    ·exact Zk (kp2 rfl rfl)
    ·exact ⟨by omega, QiD hI.2 (Qqs (by omega) h2 (by first | exact .inl (by omega) | (simp only [Qeg] at *; exact .inr (Int.not_le.1 h4))))⟩
    ·first | omega | (simp only; omega) | (dsimp only; omega)
 ·try rw [h1]
  try simp only [qA] at h1
  refine Zl (QN (QC (QJ (Qe (Q7) (Qf fun K hK => Qa Z (hK _ _ (Qb (kp1 Z) ?_)))))))
  refine Qv (Qt Z ?_)
  first
   | exact (QfE hI.2 (by omega)).symm
   | exact (QbK (i := i) (by omega) (QhD (by omega) (.inl h2))).symm
   | (simp only [Qeg] at *; exact (QbK (i := i) (by omega) (QhD (by omega) (.inr ⟨by omega, h4⟩))).symm)
theorem Qbc {l : List (Cu × Cu)} (hl : Sm l) {x y : Cu} (hx : Cu.sm x) (hy : Cu.sm y) : Ok Tryz.prog 120 [ZL l, .agg (dCu x), .agg (dCu y)] (.bool (mIn l x y)) := by
 refine Ok.ofT ZY Tryz.func120 Qts (Nat.le_of_ble_eq_true Z) ?_
 show TW _ _ tf120.body _ _
 have hn := hl.1
 refine Qf fun K hK => Zz Z Z Z (Zz Z Z Z (Qa Z (hK _ _ (Qb (kp3 Z Z Z) ?_))))
 refine QE ?_ -- 0
 refine Qf fun K hK => Qa Z (hK _ _ (Qb (kp4 Z Z Z Z) ?_))
 refine QD ?_
 refine Zs (ι := Nat) (fun i => ⟨[(0, ZL l), (4, .ref 4 0 0), (5, .ref 5 0 0), (7, .int .i64 i)], [(4, ⟨[dCu x], 7, 112, true⟩), (5, ⟨[dCu y], 7, 112, true⟩)]⟩) (fun i => i <= l.length /\ (l.take i).any (inC x y) = false) (fun i => l.length - i) 0 ?_ ?_ ?_
 ·exact Q8 (l := [0, 4, 5, 7]) (lH := [4, 5]) (kp4 rfl rfl rfl rfl) (Qg rfl (Qg rfl Qr)) rfl rfl rfl
 ·exact ⟨Nat.zero_le _, by simp⟩
 intro i hI
 try dsimp only
 refine QE ?_ -- 1
 refine Qf fun K hK => Qa Z (Qa Z (QS Z Z (Z9 Z Z (hK _ _ (Qb (kp5 Z Z Z Z Z) ?_)))))
 refine Qx Z (fun h1 => ?_) (fun h1 => ?_)
 ·try rw [h1]
  try simp only [qA] at h1
  refine Qw (Qe (kp4 Z Z Z Z) ?_)
  refine QE ?_ -- 2
  refine QD (Qf fun K hK => Qa Z (Qa Z (QL Z Z Z (by omega) (QT (by omega)) Z (Za Z Z (QP (ds0 := [11, 10, 9, 8, 7, 6, 5, 4, 3, 2, 1, 0]) (cs := [_, _, _, _, _, _, _]) Z Z Z Z Z Z (QP (ds0 := [11, 10, 9, 8, 7, 6, 5, 4, 3, 2, 1, 0]) (cs := [_, _, _, _, _, _, _]) Z Z Z Z Z Z (QX (ds0 := [10, 9, 8, 7, 6, 5, 4, 3, 2, 1, 0]) (Zy (hl.at (i := i) (by omega)).1.1 (hl.at (i := i) (by omega)).1.2 hx.1 hx.2) Z Z (.inr Z) Z Z (QqL Z Z (Qa Z ?_)))))))))
  refine QB (g := 22) Z (fun h2 => ?_) (fun h2 => ?_)
  ·try rw [h2]
   try simp only [qA] at h2
   refine Qh Z (QP (ds0 := [2, 1, 0]) (cs := [_, _, _, _, _, _, _]) Z Z Z Z Z Z (Qh Z (Qa Z (Qh Z (Qa Z (Qh Z (QL Z Z Z (by omega) (QT (by omega)) Z (Qh Z (Za Z Z (Qh Z (QP (ds0 := [2, 1, 0]) (cs := [_, _, _, _, _, _, _]) Z Z Z Z Z Z ?_)))))))))))
   refine Qh Z (QX (ds0 := [1, 0]) (Zy hy.1 hy.2 (hl.at (i := i) (by omega)).2.1 (hl.at (i := i) (by omega)).2.2) Z Z (.inr Z) Z Z (Qh Z (QqL Z Z (Ql Z Z (hK _ _ (Qb (kp5 Z Z Z Z Z) ?_))))))
   refine Qx Z (fun h3 => ?_) (fun h3 => ?_)
   ·try rw [h3]
    try simp only [qA] at h3
    refine Qf fun K hK => Qa Z (hK _ _ (Qb (kp1 Z) ?_))
    refine Qv (Qu (Qk (Q9 (Qu (Qk (Qt Z ?_))))))
    first
     | exact (Qna (i := i) (by omega) hI.2).symm
     | exact (QhP (i := i) (by omega) (Qsh h2 h3)).symm
   ·try rw [h3]
    try simp only [qA] at h3
    refine Qw (Qi (Qe (kp4 Z Z Z Z) (QO fun K hK => Qa Z (Q2 Z Z (by first | exact Qs (by omega) (by omega) | rfl) (Qa Z (hK _ ?_))))))
    refine Qm (i + 1) ?_ ?_ ?_
    ·exact Q8 (l := [0, 4, 5, 7]) (lH := [4, 5]) (kp4 rfl rfl rfl rfl) (Qg rfl (Qg rfl Qr)) rfl rfl rfl
    ·exact ⟨by omega, Qg5 (by omega) hI.2 (Qsg (by first | exact .inl h2 | exact .inr h3))⟩
    ·first | omega | (simp only; omega) | (dsimp only; omega)
  ·try rw [h2]
   try simp only [qA] at h2
   refine Qp Z (Qp Z (Qp Z (Qp Z (Qp Z (Qp Z (Qp Z (Qp Z (Ql Z Z (hK _ _ (Qb (kp5 Z Z Z Z Z) ?_))))))))))
   refine ZS Z (Qw (Qi (Qe (kp4 Z Z Z Z) (QO fun K hK => Qa Z (Q2 Z Z (by first | exact Qs (by omega) (by omega) | rfl) (Qa Z (hK _ ?_)))))))
   refine Qm (i + 1) ?_ ?_ ?_
   ·exact Q8 (l := [0, 4, 5, 7]) (lH := [4, 5]) (kp4 rfl rfl rfl rfl) (Qg rfl (Qg rfl Qr)) rfl rfl rfl
   ·exact ⟨by omega, Qg5 (by omega) hI.2 (Qsg (by first | exact .inl h2 | exact .inr h3))⟩
   ·first | omega | (simp only; omega) | (dsimp only; omega)
 ·try rw [h1]
  try simp only [qA] at h1
  refine Zl (QN (QC (QJ (Qe (Q7) (Qf fun K hK => Qa Z (hK _ _ (Qb (kp1 Z) ?_)))))))
  refine Qv (Qt Z ?_)
  first
   | exact (Qna (i := i) (by omega) hI.2).symm
   | exact (QhP (i := i) (by omega) (Qsh h2 h3)).symm
end Go.Proofs
namespace Go.Proofs
open Go Go.Abs M3 M25
set_option linter.unusedVariables false
set_option linter.unusedSimpArgs false
theorem QaP {l : List (Cu × Cu)} (hl : Sm l) {a b c : Int} {p q : List UInt8} (hp : p.length <= 1000000) (hq : q.length <= 1000000) : Ok Tryz.prog 122 [ZL l, .agg [.int .i64 a, .int .i64 b, .int .i64 c, .str p, .str q]] (.bool (Qiq l a b c p q)) := by
 refine Ok.ofT ZY Tryz.func122 Qtu (Nat.le_of_ble_eq_true Z) ?_
 show TW _ _ tf122.body _ _
 have hn := hl.1
 refine Qf fun K hK => Zz Z Z Z (Qa Z (hK _ _ (Qb (kp2 Z Z) ?_)))
 refine QE ?_ -- 0
 refine Qf fun K hK => Qa Z (hK _ _ (Qb (kp3 Z Z Z) ?_))
 refine QD ?_
 refine Zs (ι := Nat) (fun i => ⟨[(0, ZL l), (3, .ref 3 0 0), (5, .int .i64 i)], [(3, ⟨[[.int .i64 a, .int .i64 b, .int .i64 c, .str p, .str q]], 5, 68, true⟩)]⟩) (fun i => i <= l.length /\ (l.take i).any (fun s => Qir s a b c p q) = false) (fun i => l.length - i) 0 ?_ ?_ ?_
 ·exact Q8 (l := [0, 3, 5]) (lH := [3]) (kp3 rfl rfl rfl) (Qg rfl Qr) rfl rfl rfl
 ·exact ⟨Nat.zero_le _, by simp⟩
 intro i hI
 try dsimp only
 refine QE ?_ -- 1
 refine Qf fun K hK => Qa Z (Qa Z (QS Z Z (Z9 Z Z (Qa Z ?_))))
 refine QB (g := 10) Z (fun h1 => ?_) (fun h1 => ?_)
 ·try rw [h1]
  try simp only [qA] at h1
  refine Qh Z (Qa Z (Qh Z (QF (Z1 hl) Z Z (.inr Z) (Ql Z Z (hK _ _ (Qb (kp4 Z Z Z Z) ?_))))))
  refine Qx Z (fun h2 => ?_) (fun h2 => ?_)
  ·try rw [h2]
   try simp only [qA] at h2
   refine Qw (Qe (kp3 Z Z Z) ?_)
   refine QE ?_ -- 2
   refine QD (Qf fun K hK => Qa Z (Qa Z (QL Z Z Z (by omega) (QT (by omega)) Z (QP (ds0 := [0]) (cs := [_, _, _, _, _, _, _, _, _, _, _, _, _, _]) Z Z Z Z Z Z (QP (ds0 := [0]) (cs := [_, _, _, _, _]) Z Z Z Z Z Z (QX (ds0 := []) (Qc5 (hl.at (i := i) (by omega)).1.1 (hl.at (i := i) (by omega)).1.2 (hl.at (i := i) (by omega)).2.1 (hl.at (i := i) (by omega)).2.2 hp hq) Z Z (.inr Z) Z Z (hK _ _ (Qb (kp4 Z Z Z Z) ?_))))))))
   refine Qx Z (fun h3 => ?_) (fun h3 => ?_)
   ·try rw [h3]
    try simp only [qA] at h3
    refine Qf fun K hK => Qa Z (hK _ _ (Qb (kp1 Z) ?_))
    refine Qv (Qu (Qk (Q9 (Qu (Qk (Qt Z ?_))))))
    first
     | exact (Qia (i := i) (by omega) hI.2).symm
     | exact (Qib h2).symm
     | exact (Qic h2 (i := i) (by omega) h3).symm
   ·try rw [h3]
    try simp only [qA] at h3
    refine Qw (Qi (Qe (kp3 Z Z Z) (QO fun K hK => Qa Z (Q2 Z Z (by first | exact Qs (by omega) (by omega) | rfl) (Qa Z (hK _ ?_))))))
    refine Qm (i + 1) ?_ ?_ ?_
    ·exact Q8 (l := [0, 3, 5]) (lH := [3]) (kp3 rfl rfl rfl) (Qg rfl Qr) rfl rfl rfl
    ·exact ⟨by omega, Qg5 (by omega) hI.2 h3⟩
    ·first | omega | (simp only; omega) | (dsimp only; omega)
  ·try rw [h2]
   try simp only [qA] at h2
   refine Zl (QN (QC (QJ (Qe (Q7) (Qf fun K hK => Qa Z (hK _ _ (Qb (kp1 Z) ?_)))))))
   refine Qv (Qt Z ?_)
   first
    | exact (Qia (i := i) (by omega) hI.2).symm
    | exact (Qib h2).symm
    | exact (Qic h2 (i := i) (by omega) h3).symm
 ·try rw [h1]
  try simp only [qA] at h1
  refine Qp Z (Qp Z (Ql Z Z (hK _ _ (Qb (kp4 Z Z Z Z) ?_))))
  refine ZS Z (Zl (QN (QC (QJ (Qe (Q7) (Qf fun K hK => Qa Z (hK _ _ (Qb (kp1 Z) ?_))))))))
  refine Qv (Qt Z ?_)
  first
   | exact (Qia (i := i) (by omega) hI.2).symm
   | exact (Qib h2).symm
   | exact (Qic h2 (i := i) (by omega) h3).symm
theorem YP {s : List (Cu × Cu) × List (Cu × Cu)} (h1s : Sm s.1) (h2s : Sm s.2) : Ok Tryz.prog 110 [QhY s] (.bool (Qgr s)) := by
 refine Ok.ofT ZY Tryz.func110 Qti (Nat.le_of_ble_eq_true Z) ?_
 show TW _ _ tf110.body _ _
 have hn := h1s.1
 refine Qf fun K hK => Zz Z Z Z (Qa Z (hK _ _ (Qb (kp1 Z) ?_)))
 refine QE ?_ -- 0
 refine Qf fun K hK => Qj Z Z (Qy Z Z Z (QF (Z1 h1s) Z Z (.inr Z) (Yh Z (Qa Z ?_))))
 refine QB (g := 8) Z (fun h1 => ?_) (fun h1 => ?_)
 ·try rw [h1]
  try simp only [qA] at h1
  refine Qp Z (Qp Z (Qp Z (Qp Z (Ql Z Z (hK _ _ (Qb (kp2 Z Z) ?_))))))
  refine Zm Z (Qf fun K hK => Qa Z (hK _ _ (Qb (kp1 Z) ?_)))
  refine Qv (Qk (Qt Z ?_))
  first
   | exact (Qec (i := i) h1 h2 (by omega) hI.2).symm
   | exact (Qa4 (i := i) (by omega) (.inl h4)).symm
   | exact (Qa4 (i := i) (by omega) (.inr h5)).symm
   | exact (Qa5 (.inl h1)).symm
   | exact (Qa5 (.inr h2)).symm
 ·try rw [h1]
  try simp only [qA] at h1
  refine Qh Z (Qj Z Z (Qh Z (Qy Z Z Z (Qh Z (QF (Z1 h2s) Z Z (.inr Z) (Qh Z (Yh Z (Ql Z Z (hK _ _ (Qb (kp2 Z Z) ?_))))))))))
  refine Qx Z (fun h2 => ?_) (fun h2 => ?_)
  ·try rw [h2]
   try simp only [qA] at h2
   refine Qf fun K hK => Qa Z (hK _ _ (Qb (kp1 Z) ?_))
   refine Qv (Qk (Qt Z ?_))
   first
    | exact (Qec (i := i) h1 h2 (by omega) hI.2).symm
    | exact (Qa4 (i := i) (by omega) (.inl h4)).symm
    | exact (Qa4 (i := i) (by omega) (.inr h5)).symm
    | exact (Qa5 (.inl h1)).symm
    | exact (Qa5 (.inr h2)).symm
  ·try rw [h2]
   try simp only [qA] at h2
   refine Qw (Qe (kp1 Z) ?_)
   refine QE ?_ -- 1
   refine Qf fun K hK => Qa Z (hK _ _ (Qb (kp2 Z Z) ?_))
   refine QD ?_
   refine Zs (ι := Nat) (fun i => ⟨[(1, .ref 1 0 0), (3, .int .i64 i)], [(1, ⟨[[ZL s.1, ZL s.2]], 2, 78, true⟩)]⟩) (fun i => i <= s.1.length /\ (s.1.take i).all (fun x => QbT x.1 && QbT x.2) = true) (fun i => s.1.length - i) 0 ?_ ?_ ?_
   ·exact Q8 (l := [1, 3]) (lH := [1]) (kp2 rfl rfl) (Qg rfl Qr) rfl rfl rfl
   ·exact ⟨Nat.zero_le _, by simp⟩
   intro i hI
   try dsimp only
   refine QE ?_ -- 2
   refine Qf fun K hK => Qa Z (Qj Z Z (Qy Z Z Z (QS Z Z (Z9 Z Z (hK _ _ (Qb (kp3 Z Z Z) ?_))))))
   refine Qx Z (fun h3 => ?_) (fun h3 => ?_)
   ·try rw [h3]
    try simp only [qA] at h3
    refine Qw (Qe (kp2 Z Z) ?_)
    refine QE ?_ -- 3
    refine QD (Qf fun K hK => Qj Z Z (Qy Z Z Z (Qa Z (QL Z Z Z (by omega) (QT (by omega)) Z (Za Z Z (QH (cs := [_, _, _, _, _, _, _]) Z Z Z Z (QF (Qae) Z Z (.inr Z) (Yh Z (Qa Z ?_)))))))))
    refine QB (g := 29) Z (fun h4 => ?_) (fun h4 => ?_)
    ·try rw [h4]
     try simp only [qA] at h4
     refine Qp Z (Qp Z (Qp Z (Qp Z (Qp Z (Qp Z (Qp Z (Qp Z (Ql Z Z (hK _ _ (Qb (kp3 Z Z Z) ?_))))))))))
     refine Zm Z (Qf fun K hK => Qa Z (hK _ _ (Qb (kp1 Z) ?_)))
     refine Qv (Qu (Qk (Q9 (Qu (Qk (Qt Z ?_))))))
     first
      | exact (Qec (i := i) h1 h2 (by omega) hI.2).symm
      | exact (Qa4 (i := i) (by omega) (.inl h4)).symm
      | exact (Qa4 (i := i) (by omega) (.inr h5)).symm
      | exact (Qa5 (.inl h1)).symm
      | exact (Qa5 (.inr h2)).symm
    ·try rw [h4]
     try simp only [qA] at h4
     refine Qh Z (Qj Z Z (Qh Z (Qy Z Z Z (Qh Z (Qa Z (Qh Z (QL Z Z Z (by omega) (QT (by omega)) Z (Qh Z (Za Z Z (Qh Z (QH (cs := [_, _, _, _, _, _, _]) Z Z Z Z ?_)))))))))))
     refine Qh Z (QF (Qae) Z Z (.inr Z) (Qh Z (Yh Z (Ql Z Z (hK _ _ (Qb (kp3 Z Z Z) ?_))))))
     refine Qx Z (fun h5 => ?_) (fun h5 => ?_)
     ·try rw [h5]
      try simp only [qA] at h5
      refine Qf fun K hK => Qa Z (hK _ _ (Qb (kp1 Z) ?_))
      refine Qv (Qu (Qk (Q9 (Qu (Qk (Qt Z ?_))))))
      first
       | exact (Qec (i := i) h1 h2 (by omega) hI.2).symm
       | exact (Qa4 (i := i) (by omega) (.inl h4)).symm
       | exact (Qa4 (i := i) (by omega) (.inr h5)).symm
       | exact (Qa5 (.inl h1)).symm
       | exact (Qa5 (.inr h2)).symm
     ·try rw [h5]
      try simp only [qA] at h5
      refine Qw (Qi (Qe (kp2 Z Z) (QO fun K hK => Qa Z (Q2 Z Z (by first | exact Qs (by omega) (by omega) | rfl) (Qa Z (hK _ ?_))))))
      refine Qm (i + 1) ?_ ?_ ?_
      ·exact Q8 (l := [1, 3]) (lH := [1]) (kp2 rfl rfl) (Qg rfl Qr) rfl rfl rfl
      ·exact ⟨by omega, Yf (by omega) hI.2 (by rw [show QbT s.1[i].1 = true from h4, show QbT s.1[i].2 = true from h5]; rfl)⟩
      ·first | omega | (simp only; omega) | (dsimp only; omega)
   ·try rw [h3]
    try simp only [qA] at h3
    refine Zl (QN (QC (QJ (Qe (Q7) (Qf fun K hK => Qa Z (hK _ _ (Qb (kp1 Z) ?_)))))))
    refine Qv (Qt Z ?_)
    first
     | exact (Qec (i := i) h1 h2 (by omega) hI.2).symm
     | exact (Qa4 (i := i) (by omega) (.inl h4)).symm
     | exact (Qa4 (i := i) (by omega) (.inr h5)).symm
     | exact (Qa5 (.inl h1)).symm
     | exact (Qa5 (.inr h2)).symm
theorem QdM {s : List (Cu × Cu) × List (Cu × Cu)} (h1s : Sm s.1) (h2s : Sm s.2) {a b c : Int} {p q : List UInt8} (hp : p.length <= 1000000) (hq : q.length <= 1000000) : Ok Tryz.prog 114 [QhY s, .agg [.int .i64 a, .int .i64 b, .int .i64 c, .str p, .str q]] (.bool (QmG s a b c p q)) := by
 refine Ok.ofT ZY Tryz.func114 Qtm (Nat.le_of_ble_eq_true Z) ?_
 show TW _ _ tf114.body _ _
 refine Qf fun K hK => Zz Z Z Z (Zz Z Z Z (Qa Z (hK _ _ (Qb (kp2 Z Z) ?_))))
 refine QE ?_ -- 0
 refine Qf fun K hK => QH (cs := [_, _]) Z Z Z Z (QF (YP h1s h2s) Z Z (.inr Z) (Yh Z (Qa Z ?_)))
 refine QB (g := 8) Z (fun h1 => ?_) (fun h1 => ?_)
 ·try rw [h1]
  try simp only [qB] at h1
  refine Qp Z (Qp Z (Qp Z (Ql Z Z (hK _ _ (Qb (kp3 Z Z Z) ?_)))))
  refine Zm Z (Qf fun K hK => Qa Z (hK _ _ (Qb (kp1 Z) ?_)))
  refine Qv (Qk (Qt Z ?_))
  simp_all [QmG]
 ·try rw [h1]
  try simp only [qB] at h1
  refine Qh Z (QH (cs := [_, _, _, _, _]) Z Z Z Z (Qh Z (QF (Zj hp hq) Z Z (.inr Z) (Qh Z (Yh Z (Ql Z Z (hK _ _ (Qb (kp3 Z Z Z) ?_))))))))
  refine Qx Z (fun h2 => ?_) (fun h2 => ?_)
  ·try rw [h2]
   try simp only [qB] at h2
   refine Qf fun K hK => Qa Z (hK _ _ (Qb (kp1 Z) ?_))
   refine Qv (Qk (Qt Z ?_))
   simp_all [QmG]
  ·try rw [h2]
   try simp only [qB] at h2
   refine Qw (Qe (kp2 Z Z) ?_)
   refine QE ?_ -- 1
   refine Qf fun K hK => Qj Z Z (Qy Z Z Z (QfM Z Z (hK _ _ (Qb (kp3 Z Z Z) ?_))))
   refine Qx Z (fun h3 => ?_) (fun h3 => ?_)
   ·try rw [h3]
    try simp only [qB] at h3
    refine Qf fun K hK => Qj Z Z (Qy Z Z Z (QH (cs := [_, _, _, _, _]) Z Z Z Z (QF (QaP h1s hp hq) Z Z (.inr Z) (Qa Z (hK _ _ (Qb (kp1 Z) ?_))))))
    refine Qv (Qk (Qt Z ?_))
    simp_all [QmG]
   ·try rw [h3]
    try simp only [qB] at h3
    refine Qw (Qe (kp2 Z Z) (Qf fun K hK => Qj Z Z (Qy Z Z Z (QH (cs := [_, _, _, _, _]) Z Z Z Z (QF (QaP h2s hp hq) Z Z (.inr Z) (Qa Z (hK _ _ (Qb (kp1 Z) ?_))))))))
    refine Qv (Qt Z ?_)
    simp_all [QmG]
end Go.Proofs
namespace Go.Proofs
open Go Go.Abs M3 M25
set_option linter.unusedVariables false
set_option linter.unusedSimpArgs false
theorem QaR {l : List Cu} {c : Cu} (hl : l.length <= 3000000) (hs : ∀ x ∈ l, Cu.sm x) (hc : Cu.sm c) : Ok Tryz.prog 125 [QhX l, .agg (dCu c)] (QhX (Qcr l c)) := by
 refine Ok.ofT ZY Tryz.func125 Qtx (Nat.le_of_ble_eq_true Z) ?_
 show TW _ _ tf125.body _ _
 refine Qf fun K hK => Zz Z Z Z (Qa Z (hK _ _ (Qb (kp2 Z Z) ?_)))
 refine Qf fun K hK => Qa Z (hK _ _ (Qb (kp3 Z Z Z) ?_))
 refine QE ?_ -- 0
 refine QD ?_
 refine Zs (ι := Nat) (fun k => ⟨[(0, QhX l), (3, .ref 3 0 0), (5, .int .i64 k)], [(3, ⟨[dCu c], 7, 112, true⟩)]⟩) (fun k => k <= l.length /\ Qcr l c = l.take k ++ Qcr (l.drop k) c) (fun k => l.length - k) 0 ?_ ?_ ?_
 ·exact Q8 (l := [0, 3, 5]) (lH := [3]) (kp3 rfl rfl rfl) (Qg rfl Qr) rfl rfl rfl
 ·exact ⟨Nat.zero_le _, by simp⟩
 intro k hI
 try dsimp only
 refine QE ?_ -- 1
 refine Qf fun K hK => Qa Z (Qa Z (QS Z Z (Z9 Z Z (Qa Z ?_))))
 refine QB (g := 10) Z (fun h1 => ?_) (fun h1 => ?_)
 ·try rw [h1]
  try simp only [qA] at h1
  refine Qh Z (Qa Z (Qh Z (Qa Z (Qh Z (QL Z Z Z (by omega) (QT (by omega)) Z (Qh Z (QP (ds0 := [2, 1, 0]) (cs := [_, _, _, _, _, _, _]) Z Z Z Z Z Z (Qh Z (QP (ds0 := [2, 1, 0]) (cs := [_, _, _, _, _, _, _]) Z Z Z Z Z Z (Qh Z (QX (ds0 := [1, 0]) (Zy (hs _ (List.getElem_mem (by omega))).1 (hs _ (List.getElem_mem (by omega))).2 hc.1 hc.2) Z Z (.inr Z) Z Z ?_)))))))))))
  refine Qh Z (Z9 Z Z (Ql Z Z (hK _ _ (Qb (kp4 Z Z Z Z) ?_))))
  refine Qx Z (fun h2 => ?_) (fun h2 => ?_)
  ·try rw [h2]
   try simp only [qA] at h2
   refine Qw (Qe (kp3 Z Z Z) (QD (QO fun K hK => Qa Z (Q2 Z Z (by first | exact Qs (by omega) (by omega) | rfl) (Qa Z (hK _ ?_))))))
   refine Qi ?_
   refine Qm (k + 1) ?_ ?_ ?_
   ·exact Q8 (l := [0, 3, 5]) (lH := [3]) (kp3 rfl rfl rfl) (Qg rfl Qr) rfl rfl rfl
   ·exact ⟨by omega, Qn5 (by omega) h2 hI.2⟩
   ·first | omega | (simp only; omega) | (dsimp only; omega)
  ·try rw [h2]
   try simp only [qA] at h2
   refine Zl (QN (QC (QJ (Qe (kp3 Z Z Z) ?_))))
   refine QE ?_ -- 2
   refine Qf fun K hK => Qa Z (Qa Z (QS Z Z (Z9 Z Z (Qa Z ?_))))
   refine QB (g := 25) Z (fun h3 => ?_) (fun h3 => ?_)
   ·try rw [h3]
    try simp only [qA] at h3
    refine Qh Z (Qa Z (Qh Z (Qa Z (Qh Z (QL Z Z Z (by omega) (QT (by omega)) Z (Qh Z (QP (ds0 := [2, 1, 0]) (cs := [_, _, _, _, _, _, _]) Z Z Z Z Z Z (Qh Z (QP (ds0 := [2, 1, 0]) (cs := [_, _, _, _, _, _, _]) Z Z Z Z Z Z (Qh Z (QX (ds0 := [1, 0]) (Zy (hs _ (List.getElem_mem (by omega))).1 (hs _ (List.getElem_mem (by omega))).2 hc.1 hc.2) Z Z (.inr Z) Z Z ?_)))))))))))
    refine Qh Z (ZD Z Z (Ql Z Z (hK _ _ (Qb (kp4 Z Z Z Z) ?_))))
    refine Qx Z (fun h4 => ?_) (fun h4 => ?_)
    ·try rw [h4]
     try simp only [qA] at h4
     refine Qf fun K hK => Qa Z (Qa Z (hK _ _ (Qb (kp1 Z) ?_)))
     refine Qv (Qk (Yn Z ?_))
     rw [Qn4 (k := k) (by omega) (by assumption) hI.2]; rfl
    ·try rw [h4]
     try simp only [qA] at h4
     refine Qw (Qe (kp3 Z Z Z) (Qf fun K hK => Qa Z (Qa Z (QfN Z Z Z Z (by omega) (by omega) (by simp; omega) QjU Z (Qes (ds0 := [5, 1, 0]) Z Z (fun _ h => ⟨QpM, h⟩) Z (.inl Z) (by simp) (by simp; omega) (by simp; omega) Z Z (QP (ds0 := [6, 5, 1, 0]) (cs := [_, _, _, _, _, _, _]) Z Z Z Z Z Z (QI Z Z (Qb3 (ds0 := [1, 0]) Z Z (by simp [D.ids, D.sid]) ⟨_, rfl, rfl, rfl, rfl, rfl⟩ Z Z (by simp) Z Z (by simp; omega) (by simp; omega) Z Z (Qa Z (Qa Z ?_))))))))))
     refine QfN Z Z Z Z (by omega) (by simp; omega) (by simp) QjU Z (Qb3 (ds0 := [0]) Z Z (by simp [D.ids, D.sid]) ⟨rfl, QpM, rfl⟩ Z Z (by simp) Z Z (by simp; omega) (by simp; omega) Z Z (Qa Z (hK _ _ (Qb (kp1 Z) ?_))))
     refine Qv (Yn Z ?_)
     rw [QlS (k := k) (by first | exact .inl (by omega) | exact .inr ⟨by omega, by assumption, by assumption⟩) hI.2]; simp [Qbp, D.fz, D.fzS, Qer, lk, D.can, D.canS, QhX, D.sid, (show ∀ a b : Nat, a + 1 + b = a + (b + 1) from fun a b => by omega), List.take_of_length_le (show (l.map dCu).length <= l.length by simp)] <;> rfl
   ·try rw [h3]
    try simp only [qA] at h3
    exact absurd h1 h3
 ·try rw [h1]
  try simp only [qA] at h1
  refine Qp Z (Qp Z (Qp Z (Qp Z (Qp Z (Qp Z (Qp Z (Ql Z Z (hK _ _ (Qb (kp4 Z Z Z Z) ?_)))))))))
  refine ZS Z (Zl (QN (QC (QJ (Qe (kp3 Z Z Z) ?_)))))
  refine QE ?_ -- 2
  refine Qf fun K hK => Qa Z (Qa Z (QS Z Z (Z9 Z Z (Qa Z ?_))))
  refine QB (g := 25) Z (fun h5 => ?_) (fun h5 => ?_)
  ·try rw [h5]
   try simp only [qA] at h5
   exact absurd h5 h1
  ·try rw [h5]
   try simp only [qA] at h5
   refine Qp Z (Qp Z (Qp Z (Qp Z (Qp Z (Qp Z (Qp Z (Ql Z Z (hK _ _ (Qb (kp4 Z Z Z Z) ?_)))))))))
   refine ZS Z (Qw (Qe (kp3 Z Z Z) (Qf fun K hK => Qa Z (Qa Z (QfN Z Z Z Z (by omega) (by omega) (by simp; omega) QjU Z (Qes (ds0 := [5, 1, 0]) Z Z (fun _ h => ⟨QpM, h⟩) Z (.inl Z) (by simp) (by simp; omega) (by simp; omega) Z Z (QP (ds0 := [6, 5, 1, 0]) (cs := [_, _, _, _, _, _, _]) Z Z Z Z Z Z (QI Z Z (Qb3 (ds0 := [1, 0]) Z Z (by simp [D.ids, D.sid]) ⟨_, rfl, rfl, rfl, rfl, rfl⟩ Z Z (by simp) Z Z (by simp; omega) (by simp; omega) Z Z (Qa Z ?_))))))))))
   refine Qa Z (QfN Z Z Z Z (by omega) (by simp; omega) (by simp) QjU Z (Qb3 (ds0 := [0]) Z Z (by simp [D.ids, D.sid]) ⟨rfl, QpM, rfl⟩ Z Z (by simp) Z Z (by simp; omega) (by simp; omega) Z Z (Qa Z (hK _ _ (Qb (kp1 Z) ?_)))))
   refine Qv (Yn Z ?_)
   rw [QlS (k := k) (by first | exact .inl (by omega) | exact .inr ⟨by omega, by assumption, by assumption⟩) hI.2]; simp [Qbp, D.fz, D.fzS, Qer, lk, D.can, D.canS, QhX, D.sid, (show ∀ a b : Nat, a + 1 + b = a + (b + 1) from fun a b => by omega), List.take_of_length_le (show (l.map dCu).length <= l.length by simp)] <;> rfl
theorem QaA {l : List (Cu × Cu)} (hl : Sm l) : Ok Tryz.prog 119 [ZL l] (QhX (Y5 l)) := by
 refine Ok.ofT ZY Tryz.func119 Qtr (Nat.le_of_ble_eq_true Z) ?_
 show TW _ _ tf119.body _ _
 have hn := hl.1
 refine Qf fun K hK => Qa Z (hK _ _ (Qb (kp1 Z) ?_))
 refine Qf fun K hK => QF (Xb) Z Z (.inl Z) (QF (Xn) Z Z (.inl Z) (QI Z Z (Qa Z (hK _ _ (Qb (kp2 Z Z) ?_)))))
 refine QE ?_ -- 0
 refine Qf fun K hK => Qa Z (hK _ _ (Qb (kp3 Z Z Z) ?_))
 refine QD ?_
 refine Zs (ι := Nat) (fun i => ⟨[(0, ZL l), (3, QhX (Y5 (l.take i))), (4, .int .i64 i)], []⟩) (fun i => i <= l.length) (fun i => l.length - i) 0 ?_ ?_ ?_
 ·exact le_trans (Qjv 7 _ (by decide)) (Q8 (l := [0, 3, 4]) (lH := []) (kp3 rfl rfl rfl) Qr rfl rfl rfl)
 ·exact Nat.zero_le _
 intro i hI
 try dsimp only
 refine QE ?_ -- 1
 refine Qf fun K hK => Qa Z (Qa Z (QS Z Z (Z9 Z Z (hK _ _ (Qb (kp4 Z Z Z Z) ?_)))))
 refine Qx Z (fun h1 => ?_) (fun h1 => ?_)
 ·try rw [h1]
  try simp only [qA] at h1
  refine Qw (Qe (kp3 Z Z Z) ?_)
  refine QE ?_ -- 2
  refine QD (QO fun K hK => Qa Z (Qa Z (Qa Z (QL Z Z Z (by omega) (QT (by omega)) Z (Za Z Z (QP (ds0 := [7, 1, 0]) (cs := [_, _, _, _, _, _, _]) Z Z Z Z Z Z (QX (ds0 := [1, 0]) (QaR (Nat.le_trans (Qfw hl i).1 (by omega)) (Qfw hl i).2 (hl.2 _ (List.getElem_mem (by omega))).1) Z Z (.inl Z) Z Z (Qa Z (Qa Z (QL Z Z Z (by omega) (QT (by omega)) Z ?_))))))))))
  refine Za Z Z (QP (ds0 := [1, 0]) (cs := [_, _, _, _, _, _, _]) Z Z Z Z Z Z (QX (ds0 := [0]) (QaR (Nat.le_trans (Qfy _ _) (by have := (Qfw hl i).1; omega)) (Qit (Qfw hl i).2 (hl.2 _ (List.getElem_mem (by omega))).1) (hl.2 _ (List.getElem_mem (by omega))).2) Z Z (.inl Z) Z Z (Qa Z (hK _ ?_))))
  refine Qi (Qe (kp3 Z Z Z) (QO fun K hK => Qa Z (Q2 Z Z (by first | exact Qs (by omega) (by omega) | rfl) (Qa Z (hK _ ?_)))))
  refine Qm (i + 1) ?_ ?_ ?_
  ·exact Q8 (l := [0, 3, 4]) (lH := []) (kp3 rfl rfl rfl) Qr (by rw [Qpx (by omega)]; rfl) rfl rfl
  ·omega
  ·first | omega | (simp only; omega) | (dsimp only; omega)
 ·try rw [h1]
  try simp only [qA] at h1
  refine Zl (QN (QC (QJ (Qe (kp1 Z) (Qf fun K hK => Qa Z (Qa Z (hK _ _ (Qb (kp1 Z) ?_))))))))
  refine Qv (Yn Z ?_)
  rw [List.take_of_length_le (show l.length <= i by omega)]; rfl
end Go.Proofs
namespace Go.Proofs
open Go Go.Abs M3 M25
set_option linter.unusedVariables false
set_option linter.unusedSimpArgs false
theorem QaB {l : List (Cu × Cu)} {x y : Cu} (hn : l.length <= 3000000) (hl : ∀ s ∈ l, Cu.sm s.1 /\ Cu.sm s.2) (hx : Cu.sm x) (hy : Cu.sm y) : OkH Tryz.prog 121 [.osl 500000 l.length, .agg (dCu x), .agg (dCu y)] [(500000, ⟨l.map Qfe, 14, 115, true⟩)] (.osl 500000 (Qcq l x y).length) [(500000, ⟨(Qcq l x y).map Qfe, 14, 115, true⟩)] := by
 refine OkH.mv ZY Tryz.func121 Qtt (Nat.le_of_ble_eq_true Z) Z ?_
 show TW _ _ tf121.body _ _
 refine Qf fun K hK => Zz Z Z Z (Zz Z Z Z (Qa Z (hK _ _ (Qb (kp3 Z Z Z) ?_))))
 refine QE ?_ -- 0
 refine Qf fun K hK => Qa Z (QS Z Z (Qag Z Z (by first | exact Qs (by omega) (by omega) | rfl) (Qa Z (hK _ _ (Qb (kp4 Z Z Z Z) ?_)))))
 refine Qf fun K hK => Qa Z (Qet Z Z (Qa Z ?_))
 refine QB (g := 13) Z (fun h1 => ?_) (fun h1 => ?_)
 ·try rw [h1]
  try simp only [qA] at h1
  refine Qh Z (Qa Z (Qh Z (Qa Z (Qh Z (XX (ds0 := [5, 4, 2, 1, 0]) Z Z Z (by simp) (by omega) (by omega) Z Z Z (Qh Z (Qj Z Z (Qh Z (QP (ds0 := [2, 1, 0]) (cs := [_, _, _, _, _, _, _]) Z (Z8 Z (ZA (by omega) (by omega))) Z Z Z Z (Qh Z (QP (ds0 := [2, 1, 0]) (cs := [_, _, _, _, _, _, _]) Z Z Z Z Z Z ?_)))))))))))
  refine Qh Z (QX (ds0 := [1, 0]) (Zy (hl _ (List.getElem_mem (by omega))).2.1 (hl _ (List.getElem_mem (by omega))).2.2 hx.1 hx.2) Z Z (.inr Z) Z Z (Qh Z (ZD Z Z (Ql Z Z (hK _ _ (Qb (kp5 Z Z Z Z Z) ?_))))))
  refine Qx Z (fun h2 => ?_) (fun h2 => ?_)
  ·try rw [h2]
   try simp only [qA] at h2
   refine Qf fun K hK => Qa Z (Qa Z (QH (cs := [_, _, _, _, _, _, _]) Z Z Z Z (Y1 Z Z Z (by simp) (by omega) (by omega) Z (Qj Z Z (Q5 Z Z (ZA (by omega) (by omega)) Z Z Z Z Z (hK _ _ (Qb (kp1 Z) ?_)))))))
   refine Qf fun K hK => Qa Z (Qa Z (hK _ _ (Qb (kp1 Z) ?_)))
   refine Qv (Qk ?_)
   refine Xe Z ?_ (QeZ ?_)
   ·rw [QjA (i := ((l.length : Int) - 1).toNat) (by omega) h2]; simp [QmY, D.fz, D.fzS, Qfk, D.can, D.canS]
   ·rw [QjA (i := ((l.length : Int) - 1).toNat) (by omega) h2]; simp [lk, List.map_set, Qfe, dCu, setRow, D.sid]
  ·try rw [h2]
   try simp only [qA] at h2
   refine Qw (Qe (kp3 Z Z Z) (Qf fun K hK => Qa Z (QH (cs := [_, _, _, _, _, _, _]) Z Z Z Z (QH (cs := [_, _, _, _, _, _, _]) Z Z Z Z (QU Z Z (QI Z Z (XW Z Z (fun _ h => XF Z Z Z h) Z (by simp) Z Z Z (by simp; omega) (by simp; omega) (Qa Z (hK _ _ (Qb (kp1 Z) ?_))))))))))
   refine Qv ?_
   refine Xe Z ?_ (QeZ ?_)
   ·rw [Qd6 (.inr ⟨((l.length : Int) - 1).toNat, by omega, h2⟩)]; simp [QmY, D.fz, D.fzS, Qfk, D.can, D.canS]
   ·rw [Qd6 (.inr ⟨((l.length : Int) - 1).toNat, by omega, h2⟩)]; simp [lk, Qfe, dCu, D.sid]
 ·try rw [h1]
  try simp only [qA] at h1
  refine Qp Z (Qp Z (Qp Z (Qp Z (Qp Z (Qp Z (Qp Z (Qp Z (Ql Z Z (hK _ _ (Qb (kp5 Z Z Z Z Z) ?_))))))))))
  refine ZS Z (Qw (Qe (kp3 Z Z Z) (Qf fun K hK => Qa Z (QH (cs := [_, _, _, _, _, _, _]) Z Z Z Z (QH (cs := [_, _, _, _, _, _, _]) Z Z Z Z (QU Z Z (QI Z Z (XW Z Z (fun _ h => XF Z Z Z h) Z (by simp) Z Z Z (by simp; omega) (by simp; omega) (Qa Z (hK _ _ (Qb (kp1 Z) ?_)))))))))))
  refine Qv ?_
  have h0 : l = [] := List.eq_nil_of_length_eq_zero (by omega)
  refine Xe Z ?_ (QeZ ?_)
  ·rw [Qd6 (.inl h0)]; simp [QmY, D.fz, D.fzS, Qfk, D.can, D.canS]
  ·rw [Qd6 (.inl h0)]; simp [lk, Qfe, dCu, D.sid]
end Go.Proofs
namespace Go.Proofs
open Go Go.Abs M3 M25
set_option linter.unusedVariables false
set_option linter.unusedSimpArgs false
theorem Qdn {l : List (Cu × Cu)} (hl : Sm l) : Ok Tryz.prog 118 [ZL l] (.tup [ZL (QkG l), .bool (l.all Qd9)]) := by
  refine Ok.ofT ZY Tryz.func118 Qtq (Nat.le_of_ble_eq_true Z) ?_
  show TW _ _ tf118.body _ _
  have hn := hl.1
  have hc1 := Qco l
  refine Qf fun K hK => Qa Z (Qa Z (hK _ _ (Qb (kp1 Z) ?_)))
  refine QE ?_ -- 0
  refine Qf fun K hK => Qa Z (hK _ _ (Qb (kp2 Z Z) ?_))
  refine QD ?_
  refine Zs (ι := Nat) (fun i => ⟨[(0, ZL l), (4, .int .i64 i)], []⟩) (fun i => i <= l.length /\ (l.take i).all Qd9 = true) (fun i => l.length - i) 0 ?_ ?_ ?_
  · exact Zk (kp2 rfl rfl)
  · exact ⟨Nat.zero_le _, by simp⟩
  intro i hI
  try dsimp only
  refine QE ?_ -- 1
  refine Qf fun K hK => Qa Z (Qa Z (QS Z Z (Z9 Z Z (hK _ _ (Qb (kp3 Z Z Z) ?_)))))
  refine Qx Z (fun h1 => ?_) (fun h1 => ?_)
  · try rw [h1]
    try simp only [qA] at h1
    refine Qw (Qe (kp2 Z Z) ?_)
    refine QE ?_ -- 2
    refine QD (Qf fun K hK => Qa Z (Qa Z (QL Z Z Z (by omega) (QT (by omega)) Z (QH (cs := [_, _, _, _, _, _, _, _, _, _, _, _, _, _]) Z Z Z Z (QF (YN (hl.at (i := i) (by omega)).1.1 (hl.at (i := i) (by omega)).1.2 (hl.at (i := i) (by omega)).2.1 (hl.at (i := i) (by omega)).2.2) Z Z (.inr Z) (Yh Z (hK _ _ (Qb (kp3 Z Z Z) ?_))))))))
    refine Qx Z (fun h2 => ?_) (fun h2 => ?_)
    · try rw [h2]
      try simp only [qA] at h2
      refine Qf fun K hK => Qa Z (Qa Z (hK _ _ (Qb (kp2 Z Z) ?_)))
      refine Qv (Qu (Qk (Q9 (Qu (Qk ?_)))))
      first
        | exact QV rfl rfl ⟨by rw [QkG, if_neg (by rw [XZ (i := i) (by omega) (by assumption)]; simp)]; rfl, by rw [XZ (i := i) (by omega) (by assumption)]; rfl⟩
        | (have ha : l.all Qd9 = true := XO (by omega) hI.2
           exact QV rfl rfl ⟨by rw [QkG, if_pos ha, hI2.done (by omega)]; simp [Qbp, D.fz, D.fzS, Qer, lk, D.can, D.canS, ZL], by rw [ha]; rfl⟩)
    · try rw [h2]
      try simp only [qA] at h2
      refine Qw (Qi (Qe (kp2 Z Z) (QO fun K hK => Qa Z (Q2 Z Z (by first | exact Qs (by omega) (by omega) | rfl) (Qa Z (hK _ ?_))))))
      refine Qm (i + 1) ?_ ?_ ?_
      · exact Zk (kp2 rfl rfl)
      · exact ⟨by omega, Yf (by omega) hI.2 (by assumption)⟩
      · first | omega | (simp only; omega) | (dsimp only; omega)
  · try rw [h1]
    try simp only [qA] at h1
    refine Zl (QN (QC (QJ (Qe (kp1 Z) (Qf fun K hK => Qa Z (hK _ _ (Qb (kp2 Z Z) ?_)))))))
    refine Qf fun K hK => Qa Z (QF (QaA hl) Z Z (.inl Z) (Qa Z (hK _ _ (Qb (kp3 Z Z Z) ?_))))
    refine QE ?_ -- 3
    refine Qf fun K hK => Qa Z (hK _ _ (Qb (kp4 Z Z Z Z) ?_))
    refine QD ?_
    refine Zs (ι := Nat × List (Cu × Cu)) (fun ⟨i, out⟩ => ⟨[(0, ZL l), (5, .osl 5 out.length), (6, QhX (Y5 l)), (7, .int .i64 i)], [(5, ⟨out.map Qfe, 14, 115, true⟩)]⟩) (fun ⟨i, out⟩ => i <= (Y5 l).length /\ FillI (mIn l) (Y5 l) i out) (fun ⟨i, out⟩ => (Y5 l).length - i) (0, []) ?_ ?_ ?_
    · exact le_trans (YG 5 5 14 115 rfl rfl) (Q8 (l := [0, 5, 6, 7]) (lH := [5]) (kp4 rfl rfl rfl rfl) (Qg rfl Qr) rfl rfl rfl)
    · exact ⟨Nat.zero_le _, FillI.zero⟩
    intro ⟨i, out⟩ hI
    obtain ⟨hI1, hI2⟩ := hI
    have hI3 := hI2.1
    try dsimp only
    refine QE ?_ -- 4
    refine Qf fun K hK => Qa Z (Q2 Z Z (by first | exact Qs (by omega) (by omega) | rfl) (Qa Z (QS Z Z (Z9 Z Z (hK _ _ (Qb (kp5 Z Z Z Z Z) ?_))))))
    refine Qx Z (fun h3 => ?_) (fun h3 => ?_)
    · try rw [h3]
      try simp only [qA] at h3
      refine Qw (Qe (kp4 Z Z Z Z) ?_)
      refine QE ?_ -- 5
      refine QD (Qf fun K hK => Qa Z (Qa Z (Qa Z (QL Z Z Z (by omega) (QT (by omega)) Z (QP (ds0 := [0]) (cs := [_, _, _, _, _, _, _]) Z Z Z Z Z Z (Qa Z (Qa Z (Q2 Z Z (by first | exact Qs (by omega) (by omega) | rfl) (QL Z Z Z (by omega) (QlA (by omega)) Z (QP (ds0 := [0]) (cs := [_, _, _, _, _, _, _]) Z Z Z Z Z Z ?_))))))))))
      refine QX (ds0 := []) (Qbc hl (YH hl _ (List.getElem_mem (by omega))) (YH hl _ (List.getElem_mem (by omega)))) Z Z (.inr Z) Z Z (hK _ _ (Qb (kp5 Z Z Z Z Z) ?_))
      refine Qx Z (fun h4 => ?_) (fun h4 => ?_)
      · try rw [h4]
        try simp only [qA] at h4
        refine QO fun K hK => Qa rfl (Qa rfl (Qa rfl (QL rfl rfl rfl (by omega) (QT (by omega)) rfl (QP (ds0 := [1, 0]) (cs := [_, _, _, _, _, _, _]) rfl rfl rfl rfl rfl rfl (Qa rfl (Qa rfl (Q2 rfl rfl (by first | exact Qs (by omega) (by omega) | rfl) (QL rfl rfl rfl (by omega) (QlA (by omega)) rfl (QP (ds0 := [1, 0]) (cs := [_, _, _, _, _, _, _]) rfl rfl rfl rfl rfl rfl (Qld (ds0 := [0]) (Qlm (k := 5) rfl rfl rfl (by decide) rfl (by decide) (by simp [D.ids, D.sid, dCu]) ⟨.osl 5 out.length, by simp, by simp [D.ids, D.sid]⟩ rfl rfl (QaB (by omega) hI2.2.1 (YH hl _ (List.getElem_mem (by omega))) (YH hl _ (List.getElem_mem (by omega))))) (fun _ h => by cases h) rfl rfl ?_))))))))))
        refine Qa Z (hK _ ?_)
        refine Qi (Qe (kp4 Z Z Z Z) (QO fun K hK => Qa Z (Q2 Z Z (by first | exact Qs (by omega) (by omega) | rfl) (Qa Z (hK _ ?_)))))
        refine Qm (i + 1, Qcq out (Y5 l)[i] (Y5 l)[i + 1]) ?_ ?_ ?_
        · exact le_trans (QnR (l := [0, 6, 7]) (t := 50) (u := 5) 5 (kp3 rfl rfl rfl) rfl rfl rfl rfl) (Q8 (l := [0, 5, 6, 7]) (lH := [5]) (kp4 rfl rfl rfl rfl) (Qg rfl Qr) rfl rfl rfl)
        · exact ⟨by omega, hI2.take (YH hl) (by omega) (by assumption)⟩
        · show (Y5 l).length - (i + 1) < (Y5 l).length - i; omega
      · try rw [h4]
        try simp only [qA] at h4
        refine Qw (Qi (Qe (kp4 Z Z Z Z) (QO fun K hK => Qa Z (Q2 Z Z (by first | exact Qs (by omega) (by omega) | rfl) (Qa Z (hK _ ?_))))))
        refine Qm (i + 1, out) ?_ ?_ ?_
        · exact Q8 (l := [0, 5, 6, 7]) (lH := [5]) (kp4 rfl rfl rfl rfl) (Qg rfl Qr) rfl rfl rfl
        · exact ⟨by omega, hI2.skip (by omega) (by assumption)⟩
        · show (Y5 l).length - (i + 1) < (Y5 l).length - i; omega
    · try rw [h3]
      try simp only [qA] at h3
      refine Zl (QN (QC (QJ (Qe (kp1 Z) (Qf fun K hK => Qa Z (Qa Z (Qa Z (hK _ _ (Qb (kp2 Z Z) ?_)))))))))
      refine Qv ?_
      first
        | exact QV rfl rfl ⟨by rw [QkG, if_neg (by rw [XZ (i := i) (by omega) (by assumption)]; simp)]; rfl, by rw [XZ (i := i) (by omega) (by assumption)]; rfl⟩
        | (have ha : l.all Qd9 = true := XO (by omega) hI.2
           exact QV rfl rfl ⟨by rw [QkG, if_pos ha, hI2.done (by omega)]; simp [Qbp, D.fz, D.fzS, Qer, lk, D.can, D.canS, ZL], by rw [ha]; rfl⟩)
end Go.Proofs
namespace Go.Proofs
open Go Go.Abs M3 M25
set_option linter.unusedVariables false
set_option linter.unusedSimpArgs false
theorem Qbb {a b : List (Cu × Cu)} (ha : Sm a) (hb : Sm b) (hab : a.length + b.length <= 1000000) : Ok Tryz.prog 111 [ZL a, ZL b] (ZL (Qqq a b)) := by
 refine Ok.ofT ZY Tryz.func111 Qtj (Nat.le_of_ble_eq_true Z) ?_
 show TW _ _ tf111.body _ _
 refine Qf fun K hK => Qa Z (hK _ _ (Qb (kp2 Z Z) ?_))
 refine QE ?_ -- 0
 refine Qf fun K hK => Qa Z (QF (Z1 ha) Z Z (.inr Z) (Yh Z (Qa Z ?_)))
 refine QB (g := 10) Z (fun h1 => ?_) (fun h1 => ?_)
 ·try rw [h1]
  try simp only [qB] at h1
  refine Qp Z (Qp Z (Qp Z (Ql Z Z (hK _ _ (Qb (kp3 Z Z Z) ?_)))))
  refine Zm Z (Qf fun K hK => Qa Z (hK _ _ (Qb (kp1 Z) ?_)))
  refine Qv (Qk (Yn Z ?_))
  rw [Qqq, if_neg (by simp [h1])]; rfl
 ·try rw [h1]
  try simp only [qB] at h1
  refine Qh Z (Qa Z (Qh Z (QF (Z1 hb) Z Z (.inr Z) (Qh Z (Yh Z (Ql Z Z (hK _ _ (Qb (kp3 Z Z Z) ?_))))))))
  refine Qx Z (fun h2 => ?_) (fun h2 => ?_)
  ·try rw [h2]
   try simp only [qB] at h2
   refine Qf fun K hK => Qa Z (hK _ _ (Qb (kp1 Z) ?_))
   refine Qv (Qk (Yn Z ?_))
   rw [Qqq, if_neg (by simp [h1, h2])]; rfl
  ·try rw [h2]
   try simp only [qB] at h2
   refine Qw (Qe (kp2 Z Z) (Qf fun K hK => Qa Z (Qp7 Z Z (fun _ h => QoF Qqv h) Z (.inl Z) (by simp) (by simp; omega) (by simp; omega) (Qa Z (XW Z Z (fun _ h => QoF Qqv h) Z (by simp) Z Z Z (by simp; omega) (by simp; omega) ?_)))))
   apply QqI [17] (by simp)
   ·simp [St.freezeL, St.freeze, rem, D.fz, D.fzS, Box.fz, lk, D.scrub]; exact ⟨rfl, rfl⟩
   ·exact Qdn (ha.app hb hab)
   ·rfl
   ·simp [Qbp, D.fz, D.fzS, Qer, D.can, D.canS, ZL]
   ·exact .inl rfl
   refine Qa Z (Zd Z Z (Zd Z Z (Qa Z (Qa Z (hK _ _ (Qb (kp1 Z) ?_))))))
   refine Qf fun K hK => Qa Z (Qa Z (hK _ _ (Qb (kp1 Z) ?_)))
   refine Qv (Yn Z ?_)
   rw [Qqq, if_pos ⟨h1, h2⟩]; rfl
theorem QaQ {a : List (Cu × Cu)} (ha : Sm a) : Ok Tryz.prog 113 [ZL a] (ZL (QkH a)) := by
 refine Ok.ofT ZY Tryz.func113 Qtl (Nat.le_of_ble_eq_true Z) ?_
 show TW _ _ tf113.body _ _
 have hn := ha.1
 have hc1 := Qco a
 refine Qf fun K hK => Qa Z (hK _ _ (Qb (kp1 Z) ?_))
 refine QE ?_ -- 0
 refine Qf fun K hK => Qa Z (QF (Z1 ha) Z Z (.inr Z) (Yh Z (hK _ _ (Qb (kp2 Z Z) ?_))))
 refine Qx Z (fun h1 => ?_) (fun h1 => ?_)
 ·try rw [h1]
  try simp only [qA] at h1
  refine Qf fun K hK => Qa Z (hK _ _ (Qb (kp1 Z) ?_))
  refine Qv (Qk (Yn Z ?_))
  rw [QkH, if_neg (by simp [h1])]; rfl
 ·try rw [h1]
  try simp only [qA] at h1
  refine Qw (Qe (kp1 Z) (Qf fun K hK => Qa Z (hK _ _ (Qb (kp2 Z Z) ?_))))
  refine Qf fun K hK => Qa Z (QF (QaA ha) Z Z (.inl Z) (Qa Z (hK _ _ (Qb (kp3 Z Z Z) ?_))))
  refine QE ?_ -- 1
  refine Qf fun K hK => Qa Z (hK _ _ (Qb (kp4 Z Z Z Z) ?_))
  refine QD ?_
  refine Zs (ι := Nat × List (Cu × Cu)) (fun ⟨i, out⟩ => ⟨[(0, ZL a), (3, .osl 3 out.length), (4, QhX (Y5 a)), (5, .int .i64 i)], [(3, ⟨out.map Qfe, 14, 115, true⟩)]⟩) (fun ⟨i, out⟩ => i <= (Y5 a).length /\ FillI (fun x y => !mIn a x y) (Y5 a) i out) (fun ⟨i, out⟩ => (Y5 a).length - i) (0, []) ?_ ?_ ?_
  ·exact le_trans (YG 3 3 14 115 rfl rfl) (Q8 (l := [0, 3, 4, 5]) (lH := [3]) (kp4 rfl rfl rfl rfl) (Qg rfl Qr) rfl rfl rfl)
  ·exact ⟨Nat.zero_le _, FillI.zero⟩
  intro ⟨i, out⟩ hI
  obtain ⟨hI1, hI2⟩ := hI
  have hI3 := hI2.1
  try dsimp only
  refine QE ?_ -- 2
  refine Qf fun K hK => Qa Z (Q2 Z Z (by first | exact Qs (by omega) (by omega) | rfl) (Qa Z (QS Z Z (Z9 Z Z (hK _ _ (Qb (kp5 Z Z Z Z Z) ?_))))))
  refine Qx Z (fun h2 => ?_) (fun h2 => ?_)
  ·try rw [h2]
   try simp only [qA] at h2
   refine Qw (Qe (kp4 Z Z Z Z) ?_)
   refine QE ?_ -- 3
   refine QD (Qf fun K hK => Qa Z (Qa Z (Qa Z (QL Z Z Z (by omega) (QT (by omega)) Z (QP (ds0 := [1, 0]) (cs := [_, _, _, _, _, _, _]) Z Z Z Z Z Z (Qa Z (Qa Z (Q2 Z Z (by first | exact Qs (by omega) (by omega) | rfl) (QL Z Z Z (by omega) (QlA (by omega)) Z (QP (ds0 := [1, 0]) (cs := [_, _, _, _, _, _, _]) Z Z Z Z Z Z ?_))))))))))
   refine QX (ds0 := [0]) (Qbc ha (YH ha _ (List.getElem_mem (by omega))) (YH ha _ (List.getElem_mem (by omega)))) Z Z (.inr Z) Z Z (Yh Z (hK _ _ (Qb (kp5 Z Z Z Z Z) ?_)))
   refine Qx Z (fun h3 => ?_) (fun h3 => ?_)
   ·try rw [h3]
    try simp only [qA] at h3
    refine QO fun K hK => Qa rfl (Qa rfl (Qa rfl (QL rfl rfl rfl (by omega) (QT (by omega)) rfl (QP (ds0 := [1, 0]) (cs := [_, _, _, _, _, _, _]) rfl rfl rfl rfl rfl rfl (Qa rfl (Qa rfl (Q2 rfl rfl (by first | exact Qs (by omega) (by omega) | rfl) (QL rfl rfl rfl (by omega) (QlA (by omega)) rfl (QP (ds0 := [1, 0]) (cs := [_, _, _, _, _, _, _]) rfl rfl rfl rfl rfl rfl (Qld (ds0 := [0]) (Qlm (k := 3) rfl rfl rfl (by decide) rfl (by decide) (by simp [D.ids, D.sid, dCu]) ⟨.osl 3 out.length, by simp, by simp [D.ids, D.sid]⟩ rfl rfl (QaB (by omega) hI2.2.1 (YH ha _ (List.getElem_mem (by omega))) (YH ha _ (List.getElem_mem (by omega))))) (fun _ h => by cases h) rfl rfl ?_))))))))))
    refine Qa Z (hK _ ?_)
    refine Qi (Qe (kp4 Z Z Z Z) (QO fun K hK => Qa Z (Q2 Z Z (by first | exact Qs (by omega) (by omega) | rfl) (Qa Z (hK _ ?_)))))
    refine Qm (i + 1, Qcq out (Y5 a)[i] (Y5 a)[i + 1]) ?_ ?_ ?_
    ·exact le_trans (QnR (l := [0, 4, 5]) (t := 40) (u := 3) 3 (kp3 rfl rfl rfl) rfl rfl rfl rfl) (Q8 (l := [0, 3, 4, 5]) (lH := [3]) (kp4 rfl rfl rfl rfl) (Qg rfl Qr) rfl rfl rfl)
    ·exact ⟨by omega, hI2.take (YH ha) (by omega) (by simp; assumption)⟩
    ·show (Y5 a).length - (i + 1) < (Y5 a).length - i; omega
   ·try rw [h3]
    try simp only [qA] at h3
    refine Qw (Qi (Qe (kp4 Z Z Z Z) (QO fun K hK => Qa Z (Q2 Z Z (by first | exact Qs (by omega) (by omega) | rfl) (Qa Z (hK _ ?_))))))
    refine Qm (i + 1, out) ?_ ?_ ?_
    ·exact Q8 (l := [0, 3, 4, 5]) (lH := [3]) (kp4 rfl rfl rfl rfl) (Qg rfl Qr) rfl rfl rfl
    ·exact ⟨by omega, hI2.skip (by omega) (by simp; assumption)⟩
    ·show (Y5 a).length - (i + 1) < (Y5 a).length - i; omega
  ·try rw [h2]
   try simp only [qA] at h2
   refine Zl (QN (QC (QJ (Qe (kp1 Z) (Qf fun K hK => Qa Z (Qa Z (hK _ _ (Qb (kp1 Z) ?_))))))))
   refine Qv (Yn Z ?_)
   rw [QkH, if_pos h1, hI2.done (by omega)]; simp [Qbp, D.fz, D.fzS, Qer, lk, D.can, D.canS, ZL]
end Go.Proofs
namespace Go.Proofs
open Go Go.Abs M3 M25
set_option linter.unusedVariables false
set_option linter.unusedSimpArgs false
theorem Qew {a b : QfO} (h1a : Sm a.1) (h2a : Sm a.2) (h1b : Sm b.1) (h2b : Sm b.2) (hl1 : a.1.length + b.1.length <= 1000000) (hl2 : a.2.length + b.2.length <= 1000000) : Ok Tryz.prog 97 [QhY a, QhY b] (QhY (Qqr a b)) := by
 refine Ok.ofT ZY Tryz.func97 Qu0 (Nat.le_of_ble_eq_true Z) ?_
 show TW _ _ tf97.body _ _
 refine Qf fun K hK => Zz Z Z Z (Zz Z Z Z (ZF Z (hK _ _ (Qb (kp3 Z Z Z) ?_))))
 refine QE ?_ -- 0
 refine Qf fun K hK => QH (cs := [_, _]) Z Z Z Z (QF (YP h1a h2a) Z Z (.inr Z) (Yh Z (Qa Z ?_)))
 refine QB (g := 8) Z (fun h1 => ?_) (fun h1 => ?_)
 ·try rw [h1]
  try simp only [qB] at h1
  refine Qp Z (Qp Z (Qp Z (Ql Z Z (hK _ _ (Qb (kp4 Z Z Z Z) ?_)))))
  refine Zm Z (Qf fun K hK => QF (Ya) Z Z (.inl Z) (Q5 Z Z Z Z Z Z Z Z (hK _ _ (Qb (kp1 Z) ?_))))
  refine Qv (Qk (Post.eq (ZJ (ds := [.sl _, .sl _]) (cs := [_, _]) Z Z Z Z Z) ?_))
  rw [Qqr, if_neg (by simp [h1])]; rfl
 ·try rw [h1]
  try simp only [qB] at h1
  refine Qh Z (QH (cs := [_, _]) Z Z Z Z (Qh Z (QF (YP h1b h2b) Z Z (.inr Z) (Qh Z (Yh Z (Ql Z Z (hK _ _ (Qb (kp4 Z Z Z Z) ?_))))))))
  refine Qx Z (fun h2 => ?_) (fun h2 => ?_)
  ·try rw [h2]
   try simp only [qB] at h2
   refine Qf fun K hK => QF (Ya) Z Z (.inl Z) (Q5 Z Z Z Z Z Z Z Z (hK _ _ (Qb (kp1 Z) ?_)))
   refine Qv (Qk (Post.eq (ZJ (ds := [.sl _, .sl _]) (cs := [_, _]) Z Z Z Z Z) ?_))
   rw [Qqr, if_neg (by simp [h1, h2])]; rfl
  ·try rw [h2]
   try simp only [qB] at h2
   refine Qw (Qe (kp3 Z Z Z) (Qf fun K hK => Qj Z Z (QR (ds0 := [7, 1, 0]) Z Z Z Z Z (Qj Z Z (QR (ds0 := [7, 1, 0]) Z Z Z Z Z (QX (ds0 := [1, 0]) (Qbb h1a h1b hl1) Z Z (.inl Z) Z Z (Qj Z Z (QR (ds0 := [2, 1, 0]) Z Z Z Z Z (Qj Z Z (QR (ds0 := [2, 1, 0]) Z Z Z Z Z ?_))))))))))
   refine QX (ds0 := [1, 0]) (Qbb h2a h2b hl2) Z Z (.inl Z) Z Z (QU Z Z (Xu (ds0 := []) Z Z Z Z Z Z Z Z Z Z (hK _ _ (Qb (kp1 Z) ?_))))
   refine Qv (Post.eq (ZJ (ds := [.sl _, .sl _]) (cs := [_, _]) Z Z Z Z Z) ?_)
   rw [Qqr, if_pos ⟨h1, h2⟩]; rfl
theorem QdN {a : QfO} (h1a : Sm a.1) (h2a : Sm a.2) : Ok Tryz.prog 99 [QhY a] (QhY (Qis a)) := by
 refine Ok.ofT ZY Tryz.func99 Qu2 (Nat.le_of_ble_eq_true Z) ?_
 show TW _ _ tf99.body _ _
 refine Qf fun K hK => Zz Z Z Z (ZF Z (hK _ _ (Qb (kp2 Z Z) ?_)))
 refine QE ?_ -- 0
 refine Qf fun K hK => QH (cs := [_, _]) Z Z Z Z (QF (YP h1a h2a) Z Z (.inr Z) (Yh Z (hK _ _ (Qb (kp3 Z Z Z) ?_))))
 refine Qx Z (fun h1 => ?_) (fun h1 => ?_)
 ·try rw [h1]
  try simp only [qB] at h1
  refine Qf fun K hK => QF (Ya) Z Z (.inl Z) (Q5 Z Z Z Z Z Z Z Z (hK _ _ (Qb (kp1 Z) ?_)))
  refine Qv (Qk (Post.eq (ZJ (ds := [.sl _, .sl _]) (cs := [_, _]) Z Z Z Z Z) ?_))
  rw [Qis, if_neg (by simp [h1])]; rfl
 ·try rw [h1]
  try simp only [qB] at h1
  refine Qw (Qe (kp2 Z Z) (Qf fun K hK => Qj Z Z (QR (ds0 := [5, 1, 0]) Z Z Z Z Z (QX (ds0 := [1, 0]) (QaQ h1a) Z Z (.inl Z) Z Z (Qj Z Z (QR (ds0 := [2, 1, 0]) Z Z Z Z Z (QX (ds0 := [1, 0]) (QaQ h2a) Z Z (.inl Z) Z Z (QU Z Z (Xu (ds0 := []) Z Z Z Z Z Z Z Z Z Z (hK _ _ (Qb (kp1 Z) ?_)))))))))))
  refine Qv (Post.eq (ZJ (ds := [.sl _, .sl _]) (cs := [_, _]) Z Z Z Z Z) ?_)
  rw [Qis, if_pos h1]; rfl
end Go.Proofs
namespace Go.Proofs
open Go Go.Abs M3 M25
set_option linter.unusedVariables false
set_option linter.unusedSimpArgs false
theorem Y8 {v n : Int} (hn : n <= 9223372036854775807) (hv : I64 v) : Ok Tryz.prog 13 [.int .i64 v, .int .i64 n] (.int .i64 (mPl v n)) := by
 refine Ok.ofT ZY Tryz.func13 QtW (Nat.le_of_ble_eq_true Z) ?_
 show TW _ _ tf13.body _ _
 refine Qf fun K hK => Qa Z (hK _ _ (Qb (kp2 Z Z) ?_))
 refine QE ?_ -- 0
 refine Qf fun K hK => Qa Z (Z9 Z Z (hK _ _ (Qb (kp3 Z Z Z) ?_)))
 refine Qx Z (fun h1 => ?_) (fun h1 => ?_)
 ·try rw [h1]
  try simp only [qB] at h1
  refine Qf fun K hK => Qa Z (hK _ _ (Qb (kp1 Z) ?_))
  refine Qv (Qk (QA Z ?_))
  rw [mPl, if_pos h1]
 ·try rw [h1]
  try simp only [qB] at h1
  refine Qw (Qe (kp2 Z Z) (Qf fun K hK => Qa Z (Qa Z (QoT Z Z (by omega) (Qa Z (hK _ _ (Qb (kp2 Z Z) ?_)))))))
  refine QE ?_ -- 1
  refine Qf fun K hK => Qa Z (Z9 Z Z (hK _ _ (Qb (kp3 Z Z Z) ?_)))
  refine Qx Z (fun h2 => ?_) (fun h2 => ?_)
  ·try rw [h2]
   try simp only [qB] at h2
   refine Qf fun K hK => Qa Z (Qa Z (Q2 Z Z (Qs (by have := Int.lt_tmod_of_pos v (show 0 < n by omega); omega) (by have := Int.tmod_lt_of_pos v (show 0 < n by omega); omega)) (Qa Z (hK _ _ (Qb (kp1 Z) ?_)))))
   refine Qv (Qk (QA Z ?_))
   rw [mPl, if_neg h1, Qgt, if_pos h2]
  ·try rw [h2]
   try simp only [qB] at h2
   refine Qw (Qe (kp1 Z) (Qf fun K hK => Qa Z (Qa Z (hK _ _ (Qb (kp1 Z) ?_)))))
   refine Qv (QA Z ?_)
   rw [mPl, if_neg h1, Qgt, if_neg h2]
theorem Qeu {l : List Int} {i : Int} : Ok Tryz.prog 73 [ZI l, .int .i64 i] (.int .i64 (QoP l i)) := by
 refine Ok.ofT ZY Tryz.func73 QuE (Nat.le_of_ble_eq_true Z) ?_
 show TW _ _ tf73.body _ _
 refine Qf fun K hK => Qa Z (hK _ _ (Qb (kp2 Z Z) ?_))
 refine QE ?_ -- 0
 refine Qf fun K hK => Qa Z (Z9 Z Z (Qa Z ?_))
 refine QB (g := 7) Z (fun h1 => ?_) (fun h1 => ?_)
 ·try rw [h1]
  try simp only [qA] at h1
  refine Qp Z (Qp Z (Qp Z (Qp Z (Ql Z Z (hK _ _ (Qb (kp3 Z Z Z) ?_))))))
  refine Zm Z (Qf fun K hK => Qa Z (QoT Z Z (by omega) (Qa Z (hK _ _ (Qb (kp1 Z) ?_)))))
  refine Qv (Qk (QA Z ?_))
  rw [QoP, if_pos (by omega)]
 ·try rw [h1]
  try simp only [qA] at h1
  refine Qh Z (Qa Z (Qh Z (Qa Z (Qh Z (QS Z Z (Qh Z (Qet Z Z (Ql Z Z (hK _ _ (Qb (kp3 Z Z Z) ?_))))))))))
  refine Qx Z (fun h2 => ?_) (fun h2 => ?_)
  ·try rw [h2]
   try simp only [qA] at h2
   refine Qf fun K hK => Qa Z (QoT Z Z (by omega) (Qa Z (hK _ _ (Qb (kp1 Z) ?_))))
   refine Qv (Qk (QA Z ?_))
   rw [QoP, if_pos (by omega)]
  ·try rw [h2]
   try simp only [qA] at h2
   refine Qw (Qe (kp2 Z Z) (Qf fun K hK => Qa Z (Qa Z (QL Z Z Z (by omega) (ZA (by omega) (by omega)) Z (Qy Z Z Z (Qa Z (hK _ _ (Qb (kp1 Z) ?_))))))))
   refine Qv (QA Z ?_)
   exact (QnY (by omega) (by omega)).symm
theorem X0 {k : Nat} {L : List Int} {I n : Int} (hk : 1000000 <= k) (hL : ∀ x ∈ L, I64 x) (hn : n <= 9223372036854775807) (et : Nat) : OkH Tryz.prog 42 [.ref k 0 0, .int .i64 n] [(k, gB L I et)] (.int .i64 (nx L I n)) ((k, gB L (nxI I) et) :: [(k, gB L I et)]) := by
 refine OkH.lent hk ZY Tryz.func42 Que (Nat.le_of_ble_eq_true Z) Z ?_
 show TW _ _ tf42.body _ _
 refine Qf fun K hK => Qa Z (hK _ _ (Qb (kp2 Z Z) ?_))
 refine Qf fun K hK => Qa Z (Yi Z Z (Qj Z Qfv (Qy Z (Z8 QeK Z) Z (Q2 Z Z Z (Yi Z Z (Qj Z Qfv (Q5 Z QeK Z Z Z Z Z Z (hK _ _ (Qb (kp2 Z Z) ?_)))))))))
 refine Qf fun K hK => Qa Z (Yi Z Z (Qj Z Qfv (QR (ds0 := [3, 1, 0]) Z (Z8 QeK Z) Z Z Z (Qa Z (Yi Z Z (Qj Z Qfv (QR (ds0 := [4, 3, 1, 0]) Z (Z8 QeK Z) Z Z Z (Qag Z Z Z (QX (ds0 := [1, 0]) (Qeu) Z Z (.inr Z) Z Z (Qa Z ?_))))))))))
 refine QX (ds0 := [0]) (Y8 hn (Qpw hL (QgO _))) Z Z (.inr Z) Z Z (Qa Z (hK _ _ (Qb (kp1 Z) ?_)))
 refine Qv ?_
 exact Xe rfl rfl (QrB QeK)
end Go.Proofs
namespace Go.Proofs
open Go Go.Abs M3 M25
set_option linter.unusedVariables false
set_option linter.unusedSimpArgs false
theorem YA {v : Int} (h0 : 0 <= v) (h1v : v <= 61) : Ok Tryz.prog 55 [.int .i64 v] (.int .i64 (2 ^ v.toNat)) := by
 refine Ok.ofT ZY Tryz.func55 Qup (Nat.le_of_ble_eq_true Z) ?_
 show TW _ _ tf55.body _ _
 refine Qf fun K hK => Qa Z (hK _ _ (Qb (kp1 Z) ?_))
 refine Qf fun K hK => Qa Z (hK _ _ (Qb (kp2 Z Z) ?_))
 refine QE ?_ -- 0
 refine Qf fun K hK => Qa Z (hK _ _ (Qb (kp3 Z Z Z) ?_))
 refine QD ?_
 refine Zs (ι := Nat) (fun i => ⟨[(0, .int .i64 v), (3, .int .i64 (2 ^ i)), (4, .int .i64 i)], []⟩) (fun i => (i : Int) <= v) (fun i => v.toNat - i) 0 ?_ ?_ ?_
 ·exact Zk (kp3 rfl rfl rfl)
 ·exact h0
 intro i hI
 have hp := QiB (i := i + 1) (by omega)
 rw [Int.pow_succ] at hp
 try dsimp only
 refine QE ?_ -- 1
 refine Qf fun K hK => Qa Z (Qa Z (Z9 Z Z (hK _ _ (Qb (kp4 Z Z Z Z) ?_))))
 refine Qx Z (fun h1 => ?_) (fun h1 => ?_)
 ·try rw [h1]
  try simp only [qB] at h1
  refine Qw (Qe (kp3 Z Z Z) ?_)
  refine QE ?_ -- 2
  refine QD (QO fun K hK => Qa rfl (QqM rfl rfl (Qs (by obtain ⟨p1, p2⟩ := hp; generalize (2 : Int) ^ i = z at *; omega) (by obtain ⟨p1, p2⟩ := hp; generalize (2 : Int) ^ i = z at *; omega)) (Qa rfl (hK _ ?_))))
  refine Qi (Qe (kp3 Z Z Z) (QO fun K hK => Qa Z (Q2 Z Z (Qs (by omega) (by omega)) (Qa Z (hK _ ?_)))))
  refine Qm (i + 1) ?_ ?_ ?_
  ·exact Q8 (l := [0, 3, 4]) (lH := []) (kp3 rfl rfl rfl) Qr (by rw [Int.pow_succ]; rfl) rfl rfl
  ·show ((i + 1 : Nat) : Int) <= v; omega
  ·first | omega | (simp only; omega) | (dsimp only; omega)
 ·try rw [h1]
  try simp only [qB] at h1
  refine Zl (QN (QC (QJ (Qe (kp1 Z) (Qf fun K hK => Qa Z (Qa Z (hK _ _ (Qb (kp1 Z) ?_))))))))
  refine Qv (QA Z ?_)
  rw [show v.toNat = i by omega]
theorem X1 {h m : Int} : Ok Tryz.prog 60 [.int .i64 h, .int .i64 m] (.int .i64 (QaX h m)) := by
 refine Ok.ofT ZY Tryz.func60 Qut (Nat.le_of_ble_eq_true Z) ?_
 show TW _ _ tf60.body _ _
 refine Qf fun K hK => Qa Z (hK _ _ (Qb (kp2 Z Z) ?_))
 refine QE ?_ -- 0
 refine QD (Qf fun K hK => Qa Z (Qa Z (Qb2 Z Z (Qa Z (ZD Z Z (Qa Z (hK _ _ (Qb (kp3 Z Z Z) ?_))))))))
 refine Qx Z (fun h1 => ?_) (fun h1 => ?_)
 ·try rw [h1]
  try simp only [qB] at h1
  refine Qf fun K hK => Qa Z (hK _ _ (Qb (kp1 Z) ?_))
  refine Qv (Qu (Qk (QA Z ?_)))
  rw [QaX, if_pos h1]
 ·try rw [h1]
  try simp only [qB] at h1
  refine Qf fun K hK => Qa Z (Qa Z (Qb2 Z Z (ZD Z Z (Qa Z (hK _ _ (Qb (kp1 Z) ?_))))))
  refine Qx Z (fun h2 => ?_) (fun h2 => ?_)
  ·try rw [h2]
   try simp only [qB] at h2
   refine Qf fun K hK => Qa Z (hK _ _ (Qb (kp1 Z) ?_))
   refine Qv (Qu (Qk (QA Z ?_)))
   rw [QaX, if_neg h1, if_pos h2]
  ·try rw [h2]
   try simp only [qB] at h2
   refine Qw (Qi (Qe (Q7) (Qf fun K hK => Qa Z (hK _ _ (Qb (kp1 Z) ?_)))))
   refine Qv (QA Z ?_)
   rw [QaX, if_neg h1, if_neg h2]
theorem Qi8 {h m : Int} : Ok Tryz.prog 52 [.int .i64 h, .int .i64 m] (.int .i64 (Qdv h m)) := by
 refine Ok.ofT ZY Tryz.func52 Quo (Nat.le_of_ble_eq_true Z) ?_
 show TW _ _ tf52.body _ _
 refine Qf fun K hK => Qa Z (hK _ _ (Qb (kp2 Z Z) ?_))
 refine QE ?_ -- 0
 refine QD (Qf fun K hK => Qa Z (Qa Z (Qfm Z Z (ZD Z Z (Qa Z (hK _ _ (Qb (kp3 Z Z Z) ?_)))))))
 refine Qx Z (fun h1 => ?_) (fun h1 => ?_)
 ·try rw [h1]
  try simp only [qB] at h1
  refine Qf fun K hK => Qa Z (hK _ _ (Qb (kp1 Z) ?_))
  refine Qv (Qu (Qk (QA Z ?_)))
  rw [Qdv, if_pos h1]
 ·try rw [h1]
  try simp only [qB] at h1
  refine Qf fun K hK => Qa Z (Qa Z (Qb2 Z Z (ZD Z Z (Qa Z (hK _ _ (Qb (kp1 Z) ?_))))))
  refine Qx Z (fun h2 => ?_) (fun h2 => ?_)
  ·try rw [h2]
   try simp only [qB] at h2
   refine Qf fun K hK => Qa Z (hK _ _ (Qb (kp1 Z) ?_))
   refine Qv (Qu (Qk (QA Z ?_)))
   rw [Qdv, if_neg h1, if_pos h2]
  ·try rw [h2]
   try simp only [qB] at h2
   refine Qw (Qi (Qe (Q7) (Qf fun K hK => Qa Z (hK _ _ (Qb (kp1 Z) ?_)))))
   refine Qv (QA Z ?_)
   rw [Qdv, if_neg h1, if_neg h2]
end Go.Proofs
namespace Go.Proofs
open Go Go.Abs M3 M25
set_option linter.unusedVariables false
set_option linter.unusedSimpArgs false
theorem Xx  : Ok Tryz.prog 66 [] (.sl (versions.map dVr)) := by
 refine Ok.ofT ZY Tryz.func66 Qux (Nat.le_of_ble_eq_true Z) ?_
 show TW _ _ tf66.body _ _
 refine Qf fun K hK => Qa Z (hK _ _ (Qb (Q7) ?_))
 refine Qf fun K hK => QU Z Z (QU Z Z (QU Z Z (QU Z Z (QI Z Z (Qa Z (hK _ _ (Qb (kp1 Z) ?_)))))))
 refine Qv (Yn Z ?_)
 rfl
end Go.Proofs
namespace M25
open Go Go.Abs M3
structure WantT where
 u : Int
 s : QfO
structure CandT where
 v : Vr
 sh : Int
 ns : List (List WantT)
 bs : List WantT
structure QoW where
 n : List UInt8
 f : List UInt8
 cs : List CandT
abbrev Qq := List QoW
def Qff (x : WantT) : List D := [.int .i64 x.u, ZL x.s.1, ZL x.s.2]
def Zc (l : List WantT) : D := .sl (l.map Qff)
def QZ (l : List (List WantT)) : D := .sl (l.map fun r => [Zc r])
def Qq4 (c : CandT) : List D := [.int .i64 c.v.a, .int .i64 c.v.b, .int .i64 c.v.c, .str c.v.p, .str c.v.q, .int .i64 c.sh, QZ c.ns, Zc c.bs]
def Qlp (l : List CandT) : D := .sl (l.map Qq4)
def YX (u : QoW) : List D := [.str u.n, .str u.f, Qlp u.cs]
def Z6 (w : Qq) : D := .agg [.sl (w.map YX)]
structure TermT where
 u : Int
 m : Int
 deriving DecidableEq
structure QK where
 u : Int
 m : Int
 l : Int
 c : Int
 deriving DecidableEq
structure RowT where
 k : Int
 u : Int
 a : Int
 b : Int
 t : List TermT
def QeD (t : TermT) : List D := [.int .i64 t.u, .int .i64 t.m]
def ZN (l : List TermT) : D := .sl (l.map QeD)
def QdQ (s : QK) : List D := [.int .i64 s.u, .int .i64 s.m, .int .i64 s.l, .int .i64 s.c]
def Zt (l : List QK) : D := .sl (l.map QdQ)
def Qnk (r : RowT) : List D := [.int .i64 r.k, .int .i64 r.u, .int .i64 r.a, .int .i64 r.b, ZN r.t]
def Qsa (l : List RowT) : D := .sl (l.map Qnk)
def dDb (l : List (List TermT)) : D := .sl (l.map fun t => [ZN t])
abbrev XG (a b : Int) : Int := QaJ .and .i64 a b
abbrev bor (a b : Int) : Int := QaJ .or .i64 a b
abbrev QiR (a b : Int) : Int := QaJ .andNot .i64 a b
def uAt (w : Qq) (u : Int) : Option QoW := if u < 0 then none else w[u.toNat]?
theorem QgN {w : Qq} {u : Int} (h0 : 0 <= u) (h : u < w.length) : uAt w u = some (w[u.toNat]'(by omega)) := by
 rw [uAt, if_neg (by omega), List.getElem?_eq_getElem (by omega)]
theorem QiM {w : Qq} {u : Int} (h : u < 0 \/ (w.length : Int) <= u) : uAt w u = none := by
 unfold uAt
 split
 ·rfl
 ·rw [List.getElem?_eq_none]; omega
def YC (w : Qq) (u : Int) : Int := match uAt w u with
 | none => 0
 | some x => 2 ^ (min x.cs.length 16 + 1) - 1
theorem Qfx {w : Qq} {u : Int} (h0 : 0 <= u) (h : u < w.length) : YC w u = 2 ^ (min (w[u.toNat]'(by omega)).cs.length 16 + 1) - 1 := by
 rw [YC, QgN h0 h]
theorem Qd5 {w : Qq} {u : Int} (h : u < 0 \/ (w.length : Int) <= u) : YC w u = 0 := by rw [YC, QiM h]
theorem Qip (w : Qq) (u : Int) : 0 <= YC w u /\ YC w u <= 131071 := by
 unfold YC
 split
 ·omega
 ·rename_i x _
  have h1 : (2 : Nat) ^ (min x.cs.length 16 + 1) <= 2 ^ 17 := Nat.pow_le_pow_right (by omega) (by omega)
  have h2 : 1 <= (2 : Nat) ^ (min x.cs.length 16 + 1) := Nat.one_le_two_pow
  have h3 : ((2 ^ (min x.cs.length 16 + 1) : Nat) : Int) = (2 : Int) ^ (min x.cs.length 16 + 1) := by simp
  rw [<- h3]
  have h4 : (2 : Nat) ^ 17 = 131072 := by decide
  omega
def Qg3 (v : Vr) : Prop := v.p.length <= 1000000 /\ v.q.length <= 1000000
structure WSm (w : Qq) : Prop where
 len : w.length <= 48
 cs : ∀ u ∈ w, u.cs.length <= 16
 vs : ∀ u ∈ w, ∀ c ∈ u.cs, Qg3 c.v
 ns : ∀ u ∈ w, ∀ c ∈ u.cs, c.ns.length <= 1000 /\ c.bs.length <= 1000
 nl : ∀ u ∈ w, ∀ c ∈ u.cs, ∀ r ∈ c.ns, r.length <= 1000
 nw : ∀ u ∈ w, ∀ c ∈ u.cs, ∀ r ∈ c.ns, ∀ x ∈ r, Sm x.s.1 /\ Sm x.s.2
 bw : ∀ u ∈ w, ∀ c ∈ u.cs, ∀ x ∈ c.bs, Sm x.s.1 /\ Sm x.s.2
def QsZ (s : QfO) (v : Vr) : Bool := QmG s v.a v.b v.c v.p v.q
def QbZ (s : QfO) (l : List CandT) : Nat -> Int
 | 0 => 0
 | n + 1 => QbZ s l n + match l[n]? with
  | some c => if QsZ s c.v = true then 2 ^ (n + 1) else 0
  | none => 0
theorem QlW (s : QfO) (l : List CandT) : ∀ n, 0 <= QbZ s l n /\ QbZ s l n <= 2 ^ (n + 1) - 2
 | 0 => by simp [QbZ]
 | n + 1 => by
  obtain ⟨h1, h2⟩ := QlW s l n
  have h3 : (2 : Int) ^ (n + 1 + 1) = 2 ^ (n + 1) * 2 := Int.pow_succ ..
  have h4 : (0 : Int) < 2 ^ (n + 1) := Int.pow_pos (by omega)
  rw [QbZ, h3]
  generalize (2 : Int) ^ (n + 1) = z at *
  split
  ·split <;> omega
  ·omega
theorem Qoa {s : QfO} {l : List CandT} {i : Nat} (h : i < l.length) (hp : QsZ s l[i].v = true) : QbZ s l (i + 1) = QbZ s l i + 2 ^ (i + 1) := by
 rw [QbZ, List.getElem?_eq_getElem h]; simp only [hp, if_true]
theorem QpB {s : QfO} {l : List CandT} {i : Nat} (h : i < l.length) (hp : QsZ s l[i].v = false) : QbZ s l (i + 1) = QbZ s l i := by
 rw [QbZ, List.getElem?_eq_getElem h]; simp only [hp, Bool.false_eq_true, if_false, Int.add_zero]
def Qkd (w : Qq) (x : WantT) : Int := match uAt w x.u with
 | none => 0
 | some un => QbZ x.s un.cs (min un.cs.length 16)
theorem Qn3 {w : Qq} {x : WantT} (h0 : 0 <= x.u) (h : x.u < w.length) : Qkd w x = QbZ x.s (w[x.u.toNat]'(by omega)).cs (min (w[x.u.toNat]'(by omega)).cs.length 16) := by
 rw [Qkd, QgN h0 h]
theorem QlP {w : Qq} {x : WantT} (h : x.u < 0 \/ (w.length : Int) <= x.u) : Qkd w x = 0 := by rw [Qkd, QiM h]
theorem QpJ {n : Nat} (h : n <= 17) : 1 <= (2 : Int) ^ n /\ (2 : Int) ^ n <= 131072 := by
 have h1 : (2 : Nat) ^ n <= 2 ^ 17 := Nat.pow_le_pow_right (by omega) h
 have h2 : 1 <= (2 : Nat) ^ n := Nat.one_le_two_pow
 have h3 : ((2 ^ n : Nat) : Int) = (2 : Int) ^ n := by simp
 rw [<- h3]
 have h4 : (2 : Nat) ^ 17 = 131072 := by decide
 omega
theorem QlV (s : QfO) (l : List CandT) {n : Nat} (h : n <= 16) : 0 <= QbZ s l n /\ QbZ s l n <= 131070 := by
 obtain ⟨h1, h2⟩ := QlW s l n
 have := QpJ (n := n + 1) (by omega)
 omega
theorem Qrk (w : Qq) (x : WantT) : 0 <= Qkd w x /\ Qkd w x <= 131070 := by
 unfold Qkd
 split
 ·omega
 ·exact QlV _ _ (by omega)
def Qeb (w : Qq) (c : List Int) (u : Int) : Int := match uAt w u with
 | none => 0
 | some x => if (c.length : Int) <= u then 0 else if c.getD u.toNat 0 < -1 \/ ((min x.cs.length 16 : Nat) : Int) <= c.getD u.toNat 0 then 0 else 2 ^ (c.getD u.toNat 0 + 1).toNat
def Yb (m : Int) : Nat -> List Int
 | 0 => []
 | n + 1 => Yb m n ++ if XG m (2 ^ n) = 0 then [] else [(n : Int) - 1]
def X5 (m : Int) : List Int := Yb m 17
theorem QeF (m : Int) : ∀ n, (Yb m n).length <= n
 | 0 => Nat.le_refl _
 | n + 1 => by
  have := QeF m n
  rw [Yb, List.length_append]
  split <;> simp <;> omega
def Qd8 (f : Int) (u : Int) : List TermT -> Int
 | [] => f
 | t :: r => if t.u = u then t.m else Qd8 f u r
def Qd7 (w : Qq) (l : List TermT) (u : Int) : Int := Qd8 (YC w u) u l
theorem QmK {f u : Int} {l : List TermT} {i : Nat} (h : i < l.length) (hn : ¬ l[i].u = u) : Qd8 f u (l.drop i) = Qd8 f u (l.drop (i + 1)) := by
 rw [List.drop_eq_getElem_cons h, Qd8, if_neg hn]
theorem Qn8 {f u : Int} {l : List TermT} {i : Nat} (h : i < l.length) (hn : l[i].u = u) : Qd8 f u (l.drop i) = l[i].m := by
 rw [List.drop_eq_getElem_cons h, Qd8, if_pos hn]
def Qci (w : Qq) : Nat -> List Int
 | 0 => []
 | n + 1 => Qci w n ++ [YC w n]
theorem Qdq (w : Qq) : ∀ n, (Qci w n).length = n
 | 0 => rfl
 | n + 1 => by rw [Qci, List.length_append, Qdq w n]; rfl
def Qbh (w : Qq) : List Int := Qci w w.length
def XM (w : Qq) (ms : List Int) : Nat -> List TermT
 | 0 => []
 | n + 1 => XM w ms n ++ if ms.getD n 0 = YC w n then [] else [⟨n, ms.getD n 0⟩]
theorem Qhy (w : Qq) (ms : List Int) : ∀ n, (XM w ms n).length <= n
 | 0 => Nat.le_refl _
 | n + 1 => by
  have := Qhy w ms n
  rw [XM, List.length_append]
  split <;> simp <;> omega
def QjC (w : Qq) (ms : List Int) : Option (List TermT) := if ms.all (fun m => !decide (m = 0)) = true then some (XM w ms ms.length) else none
def dOT (o : Option (List TermT)) : D := .tup [ZN (o.getD []), .bool o.isSome]
def XL (ms : List Int) (l : List TermT) : List Int := l.foldl (fun ms t => ms.set t.u.toNat (XG (ms.getD t.u.toNat 0) t.m)) ms
def inW (w : Qq) (u : Int) : Bool := decide (0 <= u) && decide (u < w.length)
def Qe6 (w : Qq) (l : List TermT) : Option (List TermT) := if l.all (fun t => inW w t.u) = true then QjC w (XL (Qbh w) l) else none
def Qhs (l : List TermT) (u : Int) : List TermT := l.filter fun t => !decide (t.u = u)
def Ys (l : List TermT) : Nat -> List TermT
 | 0 => []
 | n + 1 => Ys l n ++ l.filter fun t => decide (t.u = ((n : Nat) : Int))
def Qiu (l : List TermT) : List TermT := Ys l 48
def Yp (w : Qq) (u : Int) (p : Nat) (l : List WantT) (bar : Bool) : Option (List TermT) :=
 Qe6 w (⟨u, XG (YC w u) (2 * 2 ^ p)⟩ :: l.map fun x => ⟨x.u, if bar = true then Qkd w x else YC w x.u - Qkd w x⟩)
def QkE (r x : RowT) : Bool := decide (x.k = r.k) && decide (x.u = r.u) && decide (Qhs x.t r.u = Qhs r.t r.u)
def Qpq (w : Qq) (r x : RowT) : RowT := { x with t := Qiu (⟨r.u, bor (Qd7 w x.t r.u) (Qd7 w r.t r.u)⟩ :: Qhs x.t r.u) }
def Xt (w : Qq) (r : RowT) : List RowT -> List RowT
 | [] => [r]
 | x :: l => if QkE r x = true then Qpq w r x :: l else x :: Xt w r l
def Y0 (w : Qq) (u : Int) (p : Nat) (l : List (List WantT)) (rows : List RowT) : List RowT := l.foldl (fun rows n => match Yp w u p n false with
 | some t => Xt w ⟨2, u, 0, 0, t⟩ rows
 | none => rows) rows
def QbV (w : Qq) (u : Int) (p : Nat) (l : List WantT) (rows : List RowT) : List RowT := l.foldl (fun rows n => match Yp w u p [n] true with
 | some t => Xt w ⟨3, u, 0, 0, t⟩ rows
 | none => rows) rows
def YQ (w : Qq) (u : Int) (cs : List CandT) : Nat -> List RowT -> List RowT
 | 0, rows => rows
 | n + 1, rows => match cs[n]? with
  | some c => QbV w u n c.bs (Y0 w u n c.ns (YQ w u cs n rows))
  | none => YQ w u cs n rows
def Yy (w : Qq) : Nat -> List RowT
 | 0 => [⟨1, 0, 0, 0, [⟨0, 1⟩]⟩]
 | n + 1 => match w[n]? with
  | some u => YQ w n u.cs u.cs.length (Yy w n)
  | none => Yy w n
def Qd3 (w : Qq) : List RowT := Yy w w.length
def mDB (w : Qq) : List (List TermT) := (Qd3 w).map RowT.t
/-! ### Trails -/
def Ze (w : Qq) (l : List QK) (u : Int) : Int := l.foldl (fun a s => if s.u = u /\ inW w u = true then s.m else a) (YC w u)
def ZV (l : List QK) : Int := match l.getLast? with
 | none => 0
 | some s => s.l
def Ym (l : List QK) (u : Int) : Bool := l.any fun s => decide (s.u = u) && decide (s.c = -1)
def QmL : List Int -> Int
 | [x] => x
 | _ => -1
def Yq (m : Int) : Int := QmL (X5 m)
def Qak (w : Qq) (l : List QK) (s : QK) : Bool :=
 inW w s.u && decide (-1 <= s.c) && decide (XG s.m (Ze w l s.u) = s.m) &&
  if s.c = -1 then decide (0 <= Yq s.m) && !Ym l s.u && decide (s.l = IntKind.i64.wrap (ZV l + 1))
  else !decide (s.m = 0) && !decide (s.m = Ze w l s.u) && decide (s.l = ZV l)
def YR (w : Qq) (l : List QK) : Bool := (List.range l.length).all fun i => match l[i]? with
 | some s => Qak w (l.take i) s
 | none => true
def Qdu (w : Qq) (l : List QK) (inc : List TermT) : Bool := inc.all fun t => decide (QaX (Ze w l t.u) t.m = 2)
def XB (have_ : Int -> Int) : List TermT -> Int -> Int
 | [], at_ => at_
 | t :: r, at_ => if QaX (have_ t.u) t.m = 0 then -1 else if QaX (have_ t.u) t.m = 1 then (if 0 <= at_ then -1 else XB have_ r t.u) else XB have_ r at_
def Qgs (w : Qq) (l : List QK) (inc : List TermT) : Int := XB (Ze w l) inc (-1)
def Xk (w : Qq) (l : List QK) : Nat -> List (List TermT) -> Int × Int
 | _, [] => (-1, -1)
 | i, x :: r => if Qdu w l x = true then (i, -1) else if 0 <= Qgs w l x then (i, Qgs w l x) else Xk w l (i + 1) r
def Yv (w : Qq) (db : List (List TermT)) (l : List QK) : Int × Int := Xk w l 0 db
def Yu (w : Qq) (l : List QK) (t : TermT) (c : Int) : Option (List QK) :=
 if c < 0 \/ inW w t.u = false then none
 else if IntKind.i64.wrap (Ze w l t.u - XG (Ze w l t.u) t.m) = 0 \/ IntKind.i64.wrap (Ze w l t.u - XG (Ze w l t.u) t.m) = Ze w l t.u then none
 else some (l ++ [⟨t.u, IntKind.i64.wrap (Ze w l t.u - XG (Ze w l t.u) t.m), ZV l, c⟩])
def YO (w : Qq) (l : List QK) (u p : Int) : Option (List QK) := match uAt w u with
 | none => none
 | some x => if p < 0 \/ (x.cs.length : Int) <= p then none
  else if Qak w l ⟨u, IntKind.i64.wrap (2 * 2 ^ min p.toNat 64), IntKind.i64.wrap (ZV l + 1), -1⟩ = true then some (l ++ [⟨u, IntKind.i64.wrap (2 * 2 ^ min p.toNat 64), IntKind.i64.wrap (ZV l + 1), -1⟩]) else none
def dOS (o : Option (List QK)) : D := .tup [Zt (o.getD []), .bool o.isSome]
def Qfj (w : Qq) (db : List (List TermT)) : Nat -> List QK -> List QK × Int
 | 0, out => (out, -1)
 | n + 1, out => if (Yv w db out).2 < 0 then (out, (Yv w db out).1)
  else Qfj w db n ((Yu w out ⟨(Yv w db out).2, Qd7 w (db.getD (Yv w db out).1.toNat []) (Yv w db out).2⟩ (Yv w db out).1).getD [])
def Qgu (w : Qq) (db : List (List TermT)) (l : List QK) : List QK × Int := Qfj w db (w.length * 18 + 1) l
end M25
namespace M25
open Go Go.Abs M3
section
variable {fr : List (Nat × D)} {H : List (Nat × Box)} {t u : Nat}
theorem Qlg {k n : Nat} {b : Box} {d : D} (hb : lk H k = some b) (hp : b.pr = true) (hn : n = b.rows.length) (hd : .sl b.rows = d) : Qbp ⟨fr, H⟩ (.osl k n) = d := by
 unfold Qbp; rw [QsY (S := Qer) rfl hb hp hn]; exact hd
theorem QbJ {e : AExit} {k n : Nat} {b : Box} {d : D} (h : lk fr t = some (.osl k n)) (hb : lk H k = some b) (hp : b.pr = true) (hn : n = b.rows.length) (hd : .sl b.rows = d) (he : e = .ret \/ e = .normal := by first | exact .inl rfl | exact .inr rfl) : Post [.tmp t] d e ⟨fr, H⟩ :=
 Yn h (Qlg hb hp hn hd) he
theorem QgC {e : AExit} {k n : Nat} {b : Box} {q d d' : D} (h : lk fr t = some (.osl k n)) (hb : lk H k = some b) (hp : b.pr = true) (hn : n = b.rows.length) (hd : .sl b.rows = d) (h2 : lk fr u = some q) (hd2 : Qbp ⟨fr, H⟩ q = d') (he : e = .ret \/ e = .normal := by first | exact .inl rfl | exact .inr rfl) : Post [.tmp t, .tmp u] (.tup [d, d']) e ⟨fr, H⟩ :=
 QV h h2 ⟨Qlg hb hp hn hd, hd2⟩ he
end
theorem Qs2 (n : Nat) : (min (n : Int) 16 + 1).toNat = min n 16 + 1 := by omega
theorem Qj9 {n : Nat} (h : n <= 62) : IntKind.i64.wrap ((2 : Int) ^ n - 1) = 2 ^ n - 1 := by
 have := QiB h; exact Qs (by omega) (by omega)
theorem Qst (i : Nat) : (2 : Int) ^ ((i : Int) + 1).toNat = 2 ^ (i + 1) := by rw [QoL]
theorem Qp5 (s : QfO) (l : List CandT) {i : Nat} (h : i < 16) : IntKind.i64.wrap (QbZ s l i + (2 : Int) ^ ((i : Int) + 1).toNat) = QbZ s l i + 2 ^ (i + 1) := by
 rw [Qst]
 have h1 := QlV s l (n := i) (by omega)
 have h2 := QpJ (n := i + 1) (by omega)
 exact Qs (by omega) (by omega)
theorem Qat {w : Qq} {c : List Int} {u : Int} (h : (u < 0 \/ (w.length : Int) <= u) \/ (c.length : Int) <= u) : Qeb w c u = 0 := by
 unfold Qeb
 split
 ·rfl
 ·rename_i x hx
  rcases h with h | h
  ·rw [QiM h] at hx; cases hx
  ·rw [if_pos h]
theorem Qas {w : Qq} {c : List Int} {u : Int} (h0 : 0 <= u) (h1 : u < w.length) (h2 : u < c.length) (h : c[u.toNat]'(by omega) < -1 \/ min (((w[u.toNat]'(by omega)).cs.length : Nat) : Int) 16 <= c[u.toNat]'(by omega)) : Qeb w c u = 0 := by
 rw [Qeb, QgN h0 h1]
 simp only []
 rw [if_neg (by omega), List.getD_eq_getElem?_getD, List.getElem?_eq_getElem (by omega)]
 simp only [Option.getD_some]
 rw [if_pos]
 rcases h with h | h
 ·exact .inl h
 ·right; omega
theorem Qbi {w : Qq} {c : List Int} {u : Int} (h0 : 0 <= u) (h1 : u < w.length) (h2 : u < c.length) (h : ¬ c[u.toNat]'(by omega) < -1) (h' : ¬ min (((w[u.toNat]'(by omega)).cs.length : Nat) : Int) 16 <= c[u.toNat]'(by omega)) : Qeb w c u = 2 ^ (c[u.toNat]'(by omega) + 1).toNat := by
 rw [Qeb, QgN h0 h1]
 simp only []
 rw [if_neg (by omega), List.getD_eq_getElem?_getD, List.getElem?_eq_getElem (by omega)]
 simp only [Option.getD_some]
 rw [if_neg]
 omega
theorem Xz {m : Int} {n : Nat} (h : ¬ XG m (2 ^ n) = 0) : Yb m (n + 1) = Yb m n ++ [(n : Int) - 1] := by rw [Yb, if_neg h]
theorem QaD {m : Int} {n : Nat} (h : XG m (2 ^ n) = 0) : Yb m (n + 1) = Yb m n := by rw [Yb, if_pos h, List.append_nil]
theorem Qqf {l : List TermT} {u : Int} {i : Nat} (h : i < l.length) : Qhs (l.take (i + 1)) u = Qhs (l.take i) u ++ if l[i].u = u then [] else [l[i]] := by
 rw [List.take_succ_eq_append_getElem h, Qhs, List.filter_append]
 congr 1
 simp only [List.filter_cons, List.filter_nil]
 by_cases hu : l[i].u = u <;> simp [hu]
theorem Qbr {l : List TermT} {u : Int} {i : Nat} (h : i < l.length) (hn : ¬ l[i].u = u) : Qhs (l.take (i + 1)) u = Qhs (l.take i) u ++ [l[i]] := by rw [Qqf h, if_neg hn]
theorem QdH {l : List TermT} {u : Int} {i : Nat} (h : i < l.length) (hn : l[i].u = u) : Qhs (l.take (i + 1)) u = Qhs (l.take i) u := by rw [Qqf h, if_pos hn, List.append_nil]
theorem QfV (l : List TermT) (u : Int) : (Qhs l u).length <= l.length := List.length_filter_le ..
theorem Qo2 (l : List TermT) (u : Int) (i : Nat) : (Qhs (l.take i) u).length <= l.length := Nat.le_trans (QfV ..) (List.length_take_le' ..)
def QeW (l : List TermT) (u : Nat) (i : Nat) : List TermT := (l.take i).filter fun t => decide (t.u = ((u : Nat) : Int))
theorem Qrx {l : List TermT} {u i : Nat} (h : i < l.length) (hn : l[i].u = ((u : Nat) : Int)) : QeW l u (i + 1) = QeW l u i ++ [l[i]] := by
 rw [QeW, List.take_succ_eq_append_getElem h, List.filter_append]; simp [hn, QeW]
theorem Qsv {l : List TermT} {u i : Nat} (h : i < l.length) (hn : ¬ l[i].u = ((u : Nat) : Int)) : QeW l u (i + 1) = QeW l u i := by
 rw [QeW, List.take_succ_eq_append_getElem h, List.filter_append]; simp [hn, QeW]
theorem QoA (l : List TermT) (u i : Nat) : (QeW l u i).length <= l.length := Nat.le_trans (List.length_filter_le ..) (List.length_take_le' ..)
theorem Qj3 (l : List TermT) (u : Nat) : Ys l (u + 1) = Ys l u ++ QeW l u l.length := by rw [Ys, QeW, List.take_length]
theorem QhH (l : List TermT) : ∀ n, (Ys l n).length <= n * l.length
 | 0 => by simp [Ys]
 | n + 1 => by
  have := QhH l n
  rw [Qj3, List.length_append, Nat.succ_mul]
  have := QoA l n l.length
  omega
theorem Qai (w : Qq) (n : Nat) : Qci w (n + 1) = Qci w n ++ [YC w n] := rfl
theorem Qal {w : Qq} {ms : List Int} {n : Nat} (h : n < ms.length) (hn : ¬ ms[n] = YC w n) : XM w ms (n + 1) = XM w ms n ++ [⟨n, ms[n]⟩] := by
 rw [XM, List.getD_eq_getElem?_getD, List.getElem?_eq_getElem h]; simp [hn]
theorem QbH {w : Qq} {ms : List Int} {n : Nat} (h : n < ms.length) (hn : ms[n] = YC w n) : XM w ms (n + 1) = XM w ms n := by
 rw [XM, List.getD_eq_getElem?_getD, List.getElem?_eq_getElem h]; simp [hn]
theorem QmH {w : Qq} {ms : List Int} {i : Nat} (h : i < ms.length) (hz : ms[i] = 0) : QjC w ms = none := by
 rw [QjC, if_neg]
 rw [XZ h (by simp [hz])]; simp
theorem Qn1 {w : Qq} {ms : List Int} {i : Nat} (hi : ms.length <= i) (h : (ms.take i).all (fun m => !decide (m = 0)) = true) : QjC w ms = some (XM w ms ms.length) := by
 rw [List.take_of_length_le hi] at h; rw [QjC, if_pos h]
theorem Qgc {w : Qq} {u : Int} (h0 : 0 <= u) (h : u < w.length) : inW w u = true := by simp [inW, h0, h]
theorem Qdr {w : Qq} {u : Int} (h : u < 0 \/ (w.length : Int) <= u) : inW w u = false := by
 simp only [inW, Bool.and_eq_false_iff, decide_eq_false_iff_not]; omega
theorem Qa3 {w : Qq} {u : Int} : inW w u = true ↔ 0 <= u /\ u < w.length := by simp [inW]
theorem QmI (l : List TermT) : ∀ ms : List Int, (XL ms l).length = ms.length := by
 induction l with
 | nil => intro ms; rfl
 | cons t l ih => intro ms; rw [XL, List.foldl_cons]; exact (ih _).trans (List.length_set ..)
theorem Qpz {ms : List Int} {l : List TermT} {i : Nat} (h : i < l.length) : XL ms (l.take (i + 1)) = (XL ms (l.take i)).set l[i].u.toNat (XG ((XL ms (l.take i)).getD l[i].u.toNat 0) l[i].m) := by
 rw [List.take_succ_eq_append_getElem h, XL, List.foldl_append]; rfl
theorem QlT {ms : List Int} {l : List TermT} {i : Nat} (h : i < l.length) (hu : l[i].u.toNat < (XL ms (l.take i)).length) : XL ms (l.take (i + 1)) = (XL ms (l.take i)).set l[i].u.toNat (XG ((XL ms (l.take i))[l[i].u.toNat]) l[i].m) := by
 rw [Qpz h, List.getD_eq_getElem?_getD, List.getElem?_eq_getElem hu]; rfl
theorem QoK {x y : TermT} : Qa9 [0, 0] (QeD x) (QeD y) = some (decide (x = y)) := by
 obtain ⟨a, b⟩ := x
 obtain ⟨c, d⟩ := y
 simp only [QeD, Qa9, if_true, Option.map_some, Bool.and_true, Option.some.injEq]
 rw [Bool.eq_iff_iff]
 simp only [Bool.and_eq_true, decide_eq_true_eq, TermT.mk.injEq]
theorem QoJ {α : Type} {a b : List α} {i : Nat} (ha : i < a.length) (hb : i < b.length) (h : a.take i = b.take i) (he : a[i] = b[i]) : a.take (i + 1) = b.take (i + 1) := by
 rw [List.take_succ_eq_append_getElem ha, List.take_succ_eq_append_getElem hb, h, he]
theorem Qrw {α : Type} [DecidableEq α] {a b : List α} {i : Nat} (ha : i < a.length) (hb : i < b.length) (he : ¬ a[i] = b[i]) : decide (a = b) = false := decide_eq_false fun e => he (by subst e; rfl)
theorem QfI {e : Int} (h1 : 0 <= e) (h2 : e <= 18446744073709551615) : IntKind.u64.wrap e = e := by
 unfold IntKind.wrap
 simp only [IntKind.bits, IntKind.signed, Bool.false_and, Bool.false_eq_true, if_false]
 omega
theorem QoM {p : Nat} (h : p <= 60) : IntKind.i64.wrap ((2 : Int) * 2 ^ min ((p : Nat) : Int).toNat IntKind.i64.bits) = 2 * 2 ^ p := by
 rw [show min ((p : Nat) : Int).toNat IntKind.i64.bits = p from by simp only [IntKind.bits, Int.toNat_natCast]; omega]
 have := QiB (i := p + 1) (by omega)
 rw [Int.pow_succ] at this
 exact Qs (by omega) (by omega)
theorem QrG (w : Qq) (u : Int) (x : WantT) : IntKind.i64.wrap (YC w u - Qkd w x) = YC w u - Qkd w x := by
 have h1 := Qip w u
 have h2 := Qrk w x
 exact Qs (by omega) (by omega)
def clF (w : Qq) (bar : Bool) (x : WantT) : TermT := ⟨x.u, if bar = true then Qkd w x else YC w x.u - Qkd w x⟩
def clT (w : Qq) (u : Int) (p : Nat) (bar : Bool) (l : List WantT) : List TermT := ⟨u, XG (YC w u) (2 * 2 ^ p)⟩ :: l.map (clF w bar)
theorem Qbv {w : Qq} {u : Int} {p : Nat} {bar : Bool} {l : List WantT} {i : Nat} (h : i < l.length) (hb : bar = false) : clT w u p bar (l.take (i + 1)) = clT w u p bar (l.take i) ++ [⟨l[i].u, YC w l[i].u - Qkd w l[i]⟩] := by
 rw [clT, List.take_succ_eq_append_getElem h, List.map_append, <- List.cons_append]; simp [clT, clF, hb]
theorem Qbu {w : Qq} {u : Int} {p : Nat} {bar : Bool} {l : List WantT} {i : Nat} (h : i < l.length) (hb : bar = true) : clT w u p bar (l.take (i + 1)) = clT w u p bar (l.take i) ++ [⟨l[i].u, Qkd w l[i]⟩] := by
 rw [clT, List.take_succ_eq_append_getElem h, List.map_append, <- List.cons_append]; simp [clT, clF, hb]
theorem Qni (w : Qq) (u : Int) (p : Nat) (bar : Bool) (l : List WantT) : (clT w u p bar l).length = l.length + 1 := by simp [clT]
theorem Qhw {w : Qq} {l : List TermT} {i : Nat} (h : i < l.length) (hu : inW w l[i].u = false) : Qe6 w l = none := by
 rw [Qe6, XZ h hu]; rfl
theorem Qn2 {w : Qq} {l : List TermT} (h : l.all (fun t => inW w t.u) = true) : Qe6 w l = QjC w (XL (Qbh w) l) := by
 rw [Qe6, if_pos h]
theorem Qf6 (w : Qq) (l : List TermT) : (XL (Qbh w) l).length = w.length := by rw [QmI, Qbh, Qdq]
def srt (l : List TermT) (u i : Nat) : List TermT := Ys l u ++ QeW l u i
theorem QbN {l : List TermT} {u i : Nat} (h : i < l.length) (hn : l[i].u = ((u : Nat) : Int)) : srt l u (i + 1) = srt l u i ++ [l[i]] := by rw [srt, Qrx h hn, <- List.append_assoc]; rfl
theorem Qeo {l : List TermT} {u i : Nat} (h : i < l.length) (hn : ¬ l[i].u = ((u : Nat) : Int)) : srt l u (i + 1) = srt l u i := by rw [srt, Qsv h hn]; rfl
theorem Qaq (l : List TermT) (u : Nat) : srt l u 0 = Ys l u := by simp [srt, QeW]
theorem QbM (l : List TermT) (u : Nat) {i : Nat} (h : l.length = i) : Ys l (u + 1) = srt l u i := by rw [Qj3, h]; rfl
theorem Qry (l : List TermT) (u i : Nat) : (srt l u i).length <= u * l.length + l.length := by
 have h1 := QhH l u
 have h2 := QoA l u i
 rw [srt, List.length_append]; omega
end M25
namespace Go.Proofs
open Go Go.Abs M3 M25
set_option linter.unusedVariables false
set_option linter.unusedSimpArgs false
theorem ZP {w : Qq} (hw : WSm w) {u : Int} : Ok Tryz.prog 48 [Z6 w, .int .i64 u] (.int .i64 (YC w u)) := by
 refine Ok.ofT ZY Tryz.func48 Quk (Nat.le_of_ble_eq_true Z) ?_
 show TW _ _ tf48.body _ _
 refine Qf fun K hK => Zz Z Z Z (Qa Z (hK _ _ (Qb (kp2 Z Z) ?_)))
 refine QE ?_ -- 0
 refine Qf fun K hK => Qa Z (Z9 Z Z (Qa Z ?_))
 refine QB (g := 7) Z (fun h1 => ?_) (fun h1 => ?_)
 ·try rw [h1]
  try simp only [qA] at h1
  refine Qp Z (Qp Z (Qp Z (Qp Z (Qp Z (Ql Z Z (hK _ _ (Qb (kp3 Z Z Z) ?_)))))))
  refine Zm Z (Qf fun K hK => Qa Z (hK _ _ (Qb (kp1 Z) ?_)))
  refine Qv (Qk (QA Z ?_))
  rw [Qd5 (by omega)]
 ·try rw [h1]
  try simp only [qA] at h1
  refine Qh Z (Qa Z (Qh Z (Qj Z Z (Qh Z (Qy Z Z Z (Qh Z (QS Z Z (Qh Z (Qet Z Z (Ql Z Z (hK _ _ (Qb (kp3 Z Z Z) ?_))))))))))))
  refine Qx Z (fun h2 => ?_) (fun h2 => ?_)
  ·try rw [h2]
   try simp only [qA] at h2
   refine Qf fun K hK => Qa Z (hK _ _ (Qb (kp1 Z) ?_))
   refine Qv (Qk (QA Z ?_))
   rw [Qd5 (by omega)]
  ·try rw [h2]
   try simp only [qA] at h2
   refine Qw (Qe (kp2 Z Z) (Qf fun K hK => Qj Z Z (Qy Z Z Z (Qa Z (QL Z Z Z (by omega) (ZA (by omega) (by omega)) Z (Za Z Z (Qy Z Z Z (QS Z Z (QrZ Z Z (Q2 Z Z (by first | exact Qs (by omega) (by omega) | rfl) ?_))))))))))
   refine QF (YA (by omega) (by omega)) Z Z (.inr Z) (Qag Z Z (Qj9 (by omega)) (Qa Z (hK _ _ (Qb (kp1 Z) ?_))))
   refine Qv (QA Z ?_)
   rw [Qfx (by omega) (by omega), List.length_map, Qs2]
theorem Xa {w : Qq} (hw : WSm w) {l : List TermT} (hl : l.length <= 1000000) {u : Int} : Ok Tryz.prog 76 [Z6 w, ZN l, .int .i64 u] (.int .i64 (Qd7 w l u)) := by
 refine Ok.ofT ZY Tryz.func76 QuH (Nat.le_of_ble_eq_true Z) ?_
 show TW _ _ tf76.body _ _
 refine Qf fun K hK => Zz Z Z Z (Qa Z (hK _ _ (Qb (kp3 Z Z Z) ?_)))
 refine QE ?_ -- 0
 refine Qf fun K hK => Qa Z (hK _ _ (Qb (kp4 Z Z Z Z) ?_))
 refine QD ?_
 refine Zs (ι := Nat) (fun i => ⟨[(1, ZN l), (2, .int .i64 u), (3, .ref 3 0 0), (7, .int .i64 i)], [(3, ⟨[[.sl ((w).map YX)]], 1, 26, true⟩)]⟩) (fun i => i <= l.length /\ Qd8 (YC w u) u l = Qd8 (YC w u) u (l.drop i)) (fun i => l.length - i) 0 ?_ ?_ ?_
 ·exact Q8 (l := [1, 2, 3, 7]) (lH := [3]) (kp4 rfl rfl rfl rfl) (Qg rfl Qr) rfl rfl rfl
 ·exact ⟨Nat.zero_le _, by simp⟩
 intro i hI
 try dsimp only
 refine QE ?_ -- 1
 refine Qf fun K hK => Qa Z (Qa Z (QS Z Z (Z9 Z Z (hK _ _ (Qb (kp5 Z Z Z Z Z) ?_)))))
 refine Qx Z (fun h1 => ?_) (fun h1 => ?_)
 ·try rw [h1]
  try simp only [qA] at h1
  refine Qw (Qe (kp4 Z Z Z Z) ?_)
  refine QE ?_ -- 2
  refine QD (Qf fun K hK => Qa Z (Qa Z (QL Z Z Z (by omega) (QT (by omega)) Z (Za Z Z (Qy Z Z Z (Qa Z (ZD Z Z (hK _ _ (Qb (kp5 Z Z Z Z Z) ?_)))))))))
  refine Qx Z (fun h2 => ?_) (fun h2 => ?_)
  ·try rw [h2]
   try simp only [qA] at h2
   refine Qf fun K hK => Qa Z (Qa Z (QL Z Z Z (by omega) (QT (by omega)) Z (Za Z Z (Qy Z Z Z (Qa Z (hK _ _ (Qb (kp1 Z) ?_)))))))
   refine Qv (Qu (Qk (Q9 (Qu (Qk (QA Z ?_))))))
   rw [Qd7, hI.2, Qn8 (by omega) h2]
  ·try rw [h2]
   try simp only [qA] at h2
   refine Qw (Qi (Qe (kp4 Z Z Z Z) (QO fun K hK => Qa Z (Q2 Z Z (by first | exact Qs (by omega) (by omega) | rfl) (Qa Z (hK _ ?_))))))
   refine Qm (i + 1) ?_ ?_ ?_
   ·exact Q8 (l := [1, 2, 3, 7]) (lH := [3]) (kp4 rfl rfl rfl rfl) (Qg rfl Qr) rfl rfl rfl
   ·exact ⟨by omega, by rw [hI.2, QmK (by omega) (by assumption)]⟩
   ·first | omega | (simp only; omega) | (dsimp only; omega)
 ·try rw [h1]
  try simp only [qA] at h1
  refine Zl (QN (QC (QJ (Qe (kp2 Z Z) (Qf fun K hK => QH (cs := [_]) Z Z Z Z (Qa Z (QF (ZP hw) Z Z (.inr Z) (Qa Z (hK _ _ (Qb (kp1 Z) ?_))))))))))
  refine Qv (QA Z ?_)
  rw [Qd7, hI.2, List.drop_eq_nil_of_le (by omega)]; rfl
theorem Qb7 {w : Qq} (hw : WSm w) {c : List Int} {u : Int} : Ok Tryz.prog 23 [Z6 w, ZI c, .int .i64 u] (.int .i64 (Qeb w c u)) := by
 refine Ok.ofT ZY Tryz.func23 Qt2 (Nat.le_of_ble_eq_true Z) ?_
 show TW _ _ tf23.body _ _
 refine Qf fun K hK => Zz Z Z Z (Qa Z (hK _ _ (Qb (kp3 Z Z Z) ?_)))
 refine QE ?_ -- 0
 refine Qf fun K hK => Qa Z (Z9 Z Z (Qa Z ?_))
 refine QB (g := 9) Z (fun h1 => ?_) (fun h1 => ?_)
 ·try rw [h1]
  try simp only [qA] at h1
  refine Qp Z (Qp Z (Qp Z (Qp Z (Qp Z (Ql Z Z (Qa Z (Qp Z (Qp Z (Qp Z (Qp Z (Ql Z Z ?_)))))))))))
  refine hK _ _ (Qb (kp4 Z Z Z Z) ?_)
  refine Zm Z (Qf fun K hK => Qa Z (hK _ _ (Qb (kp1 Z) ?_)))
  refine Qv (Qk (QA Z ?_))
  first | rw [Qat (by omega)] | rw [Qas (by omega) (by omega) (by omega) (by first | exact .inl (by assumption) | exact .inr (by simpa using h5))] | rw [Qbi (by omega) (by omega) (by omega) (by assumption) (by simpa using h5)]
 ·try rw [h1]
  try simp only [qA] at h1
  refine Qh Z (Qa Z (Qh Z (Qj Z Z (Qh Z (Qy Z Z Z (Qh Z (QS Z Z (Qh Z (Qet Z Z (Ql Z Z (Qa Z ?_)))))))))))
  refine QB (g := 16) Z (fun h2 => ?_) (fun h2 => ?_)
  ·try rw [h2]
   try simp only [qA] at h2
   refine Qp Z (Qp Z (Qp Z (Qp Z (Ql Z Z (hK _ _ (Qb (kp4 Z Z Z Z) ?_))))))
   refine Zm Z (Qf fun K hK => Qa Z (hK _ _ (Qb (kp1 Z) ?_)))
   refine Qv (Qk (QA Z ?_))
   first | rw [Qat (by omega)] | rw [Qas (by omega) (by omega) (by omega) (by first | exact .inl (by assumption) | exact .inr (by simpa using h5))] | rw [Qbi (by omega) (by omega) (by omega) (by assumption) (by simpa using h5)]
  ·try rw [h2]
   try simp only [qA] at h2
   refine Qh Z (Qa Z (Qh Z (Qa Z (Qh Z (QS Z Z (Qh Z (Qet Z Z (Ql Z Z (hK _ _ (Qb (kp4 Z Z Z Z) ?_))))))))))
   refine Qx Z (fun h3 => ?_) (fun h3 => ?_)
   ·try rw [h3]
    try simp only [qA] at h3
    refine Qf fun K hK => Qa Z (hK _ _ (Qb (kp1 Z) ?_))
    refine Qv (Qk (QA Z ?_))
    first | rw [Qat (by omega)] | rw [Qas (by omega) (by omega) (by omega) (by first | exact .inl (by assumption) | exact .inr (by simpa using h5))] | rw [Qbi (by omega) (by omega) (by omega) (by assumption) (by simpa using h5)]
   ·try rw [h3]
    try simp only [qA] at h3
    refine Qw (Qe (kp3 Z Z Z) ?_)
    refine QE ?_ -- 1
    refine Qf fun K hK => Qa Z (Qa Z (QL Z Z Z (by omega) (ZA (by omega) (by omega)) Z (QR (ds0 := [15, 14, 13, 12, 11, 10, 9, 8, 7, 6, 5, 4, 3, 2, 1, 0]) Z Z Z Z Z (Z9 Z Z (Qa Z ?_)))))
    refine QB (g := 27) Z (fun h4 => ?_) (fun h4 => ?_)
    ·try rw [h4]
     try simp only [qA] at h4
     refine Qp Z (Qp Z (Qp Z (Qp Z (Qp Z (Qp Z (Qp Z (Qp Z (Qp Z (Qp Z (Qp Z (Qp Z ?_)))))))))))
     refine Qp Z (Ql Z Z (hK _ _ (Qb (kp3 Z Z Z) ?_)))
     refine Zm Z (Qf fun K hK => Qa Z (hK _ _ (Qb (kp1 Z) ?_)))
     refine Qv (Qk (QA Z ?_))
     first | rw [Qat (by omega)] | rw [Qas (by omega) (by omega) (by omega) (by first | exact .inl (by assumption) | exact .inr (by simpa using h5))] | rw [Qbi (by omega) (by omega) (by omega) (by assumption) (by simpa using h5)]
    ·try rw [h4]
     try simp only [qA] at h4
     refine Qh Z (Qa Z (Qh Z (Qa Z (Qh Z (QL Z Z Z (by omega) (ZA (by omega) (by omega)) Z (Qh Z (QR (ds0 := [1, 0]) Z Z Z Z Z (Qh Z (Qj Z Z (Qh Z (QR (ds0 := [6, 5, 4, 3, 2, 1, 0]) Z Z Z Z Z ?_)))))))))))
     refine Qh Z (Qa Z (Qh Z (QL Z Z Z (by omega) (ZA (by omega) (by omega)) Z (Qh Z (Za Z Z (Qh Z (QR (ds0 := [3, 2, 1, 0]) Z Z Z Z Z (Qh Z (QS Z Z (Qh Z (QrZ Z Z ?_)))))))))))
     refine Qh Z (Qet Z Z (Ql Z Z (hK _ _ (Qb (kp3 Z Z Z) ?_))))
     refine Qx Z (fun h5 => ?_) (fun h5 => ?_)
     ·try rw [h5]
      try simp only [qA] at h5
      refine Qf fun K hK => Qa Z (hK _ _ (Qb (kp1 Z) ?_))
      refine Qv (Qk (QA Z ?_))
      first | rw [Qat (by omega)] | rw [Qas (by omega) (by omega) (by omega) (by first | exact .inl (by assumption) | exact .inr (by simpa using h5))] | rw [Qbi (by omega) (by omega) (by omega) (by assumption) (by simpa using h5)]
     ·try rw [h5]
      try simp only [qA] at h5
      refine Qw (Qe (kp2 Z Z) (Qf fun K hK => Qa Z (Qa Z (QL Z Z Z (by omega) (ZA (by omega) (by omega)) Z (Qy Z Z Z (Q2 Z Z (by first | exact Qs (by omega) (by omega) | rfl) (QF (YA (by omega) (by omega)) Z Z (.inr Z) (Qa Z (hK _ _ (Qb (kp1 Z) ?_))))))))))
      refine Qv (QA Z ?_)
      first | rw [Qat (by omega)] | rw [Qas (by omega) (by omega) (by omega) (by first | exact .inl (by assumption) | exact .inr (by simpa using h5))] | rw [Qbi (by omega) (by omega) (by omega) (by assumption) (by simpa using h5)]
theorem Qdh {w : Qq} (hw : WSm w) {x : WantT} (hx : Sm x.s.1 /\ Sm x.s.2) : Ok Tryz.prog 101 [Z6 w, .agg (Qff x)] (.int .i64 (Qkd w x)) := by
 refine Ok.ofT ZY Tryz.func101 Qs9 (Nat.le_of_ble_eq_true Z) ?_
 show TW _ _ tf101.body _ _
 refine Qf fun K hK => Zz Z Z Z (Zz Z Z Z (Qa Z (hK _ _ (Qb (kp2 Z Z) ?_))))
 refine QE ?_ -- 0
 refine Qf fun K hK => Qj Z Z (Qy Z Z Z (Z9 Z Z (Qa Z ?_)))
 refine QB (g := 11) Z (fun h1 => ?_) (fun h1 => ?_)
 ·try rw [h1]
  try simp only [qA] at h1
  refine Qp Z (Qp Z (Qp Z (Qp Z (Qp Z (Qp Z (Ql Z Z (hK _ _ (Qb (kp3 Z Z Z) ?_))))))))
  refine Zm Z (Qf fun K hK => Qa Z (hK _ _ (Qb (kp1 Z) ?_)))
  refine Qv (Qk (QA Z ?_))
  rw [QlP (by omega)]
 ·try rw [h1]
  try simp only [qA] at h1
  refine Qh Z (Qj Z Z (Qh Z (Qy Z Z Z (Qh Z (Qj Z Z (Qh Z (Qy Z Z Z (Qh Z (QS Z Z (Qh Z (Qet Z Z ?_)))))))))))
  refine Ql Z Z (hK _ _ (Qb (kp3 Z Z Z) ?_))
  refine Qx Z (fun h2 => ?_) (fun h2 => ?_)
  ·try rw [h2]
   try simp only [qA] at h2
   refine Qf fun K hK => Qa Z (hK _ _ (Qb (kp1 Z) ?_))
   refine Qv (Qk (QA Z ?_))
   rw [QlP (by omega)]
  ·try rw [h2]
   try simp only [qA] at h2
   refine Qw (Qe (kp2 Z Z) (Qf fun K hK => Qa Z (hK _ _ (Qb (kp3 Z Z Z) ?_))))
   refine Qf fun K hK => Qj Z Z (Qy Z Z Z (Qj Z Z (Qy Z Z Z (QL Z Z Z (by omega) (ZA (by omega) (by omega)) Z (Za Z Z (Qy Z Z Z (Qa Z (hK _ _ (Qb (kp3 Z Z Z) ?_)))))))))
   refine QE ?_ -- 1
   refine Qf fun K hK => Qa Z (hK _ _ (Qb (kp4 Z Z Z Z) ?_))
   refine QD ?_
   refine Zs (ι := Nat) (fun i => ⟨[(3, .ref 3 0 0), (5, .int .i64 (QbZ x.s (w[x.u.toNat]'(by omega)).cs i)), (6, Qlp (w[x.u.toNat]'(by omega)).cs), (7, .int .i64 i)], [(3, ⟨[[.int .i64 (x).u, ZL (x).s.1, ZL (x).s.2]], 3, 81, true⟩)]⟩) (fun i => i <= (min (w[x.u.toNat]'(by omega)).cs.length 16)) (fun i => (min (w[x.u.toNat]'(by omega)).cs.length 16) - i) 0 ?_ ?_ ?_
   ·exact Q8 (l := [3, 5, 6, 7]) (lH := [3]) (kp4 rfl rfl rfl rfl) (Qg rfl Qr) rfl rfl rfl
   ·exact Nat.zero_le _
   intro i hI
   try dsimp only
   refine QE ?_ -- 2
   refine Qf fun K hK => Qa Z (Qa Z (QS Z Z (Z9 Z Z (Qa Z ?_))))
   refine QB (g := 30) Z (fun h3 => ?_) (fun h3 => ?_)
   ·try rw [h3]
    try simp only [qA] at h3
    refine Qh Z (Qa Z (Qh Z (Z9 Z Z (Ql Z Z (hK _ _ (Qb (kp5 Z Z Z Z Z) ?_))))))
    refine Qx Z (fun h4 => ?_) (fun h4 => ?_)
    ·try rw [h4]
     try simp only [qA] at h4
     refine Qw (Qe (kp4 Z Z Z Z) ?_)
     refine QE ?_ -- 3
     refine QD (Qf fun K hK => Qj Z Z (QP (ds0 := [0]) (cs := [_, _]) Z Z Z Z Z Z (Qa Z (Qa Z (QL Z Z Z (by omega) (QT (by omega)) Z (Za Z Z (QP (ds0 := [0]) (cs := [_, _, _, _, _]) Z Z Z Z Z Z (QX (ds0 := []) (QdM hx.1 hx.2 (hw.vs _ (List.getElem_mem _) _ (List.getElem_mem (by omega))).1 (hw.vs _ (List.getElem_mem _) _ (List.getElem_mem (by omega))).2) Z Z (.inr Z) Z Z (hK _ _ (Qb (kp5 Z Z Z Z Z) ?_))))))))))
     refine Qx Z (fun h5 => ?_) (fun h5 => ?_)
     ·try rw [h5]
      try simp only [qA] at h5
      refine QO fun K hK => Qa Z (Qa Z (Q2 Z Z (by first | exact Qs (by omega) (by omega) | rfl) (QF (YA (by omega) (by omega)) Z Z (.inr Z) (Q2 Z Z (Qp5 _ _ (by omega)) (Qa Z (hK _ ?_))))))
      refine Qi (Qe (kp4 Z Z Z Z) (QO fun K hK => Qa Z (Q2 Z Z (by first | exact Qs (by omega) (by omega) | rfl) (Qa Z (hK _ ?_)))))
      refine Qm (i + 1) ?_ ?_ ?_
      ·exact Q8 (l := [3, 5, 6, 7]) (lH := [3]) (kp4 rfl rfl rfl rfl) (Qg rfl Qr) (by rw [Qoa (by omega) (by assumption)]; rfl) rfl rfl
      ·omega
      ·first | omega | (simp only; omega) | (dsimp only; omega)
     ·try rw [h5]
      try simp only [qA] at h5
      refine Qw (Qi (Qe (kp4 Z Z Z Z) (QO fun K hK => Qa Z (Q2 Z Z (by first | exact Qs (by omega) (by omega) | rfl) (Qa Z (hK _ ?_))))))
      refine Qm (i + 1) ?_ ?_ ?_
      ·exact Q8 (l := [3, 5, 6, 7]) (lH := [3]) (kp4 rfl rfl rfl rfl) (Qg rfl Qr) (by rw [QpB (by omega) (by assumption)]; rfl) rfl rfl
      ·omega
      ·first | omega | (simp only; omega) | (dsimp only; omega)
    ·try rw [h4]
     try simp only [qA] at h4
     refine Zl (QN (QC (QJ (Qe (kp1 Z) (Qf fun K hK => Qa Z (Qa Z (hK _ _ (Qb (kp1 Z) ?_))))))))
     refine Qv (QA Z ?_)
     rw [Qn3 (by omega) (by omega), show i = min (w[x.u.toNat]'(by omega)).cs.length 16 by omega]
   ·try rw [h3]
    try simp only [qA] at h3
    refine Qp Z (Qp Z (Ql Z Z (hK _ _ (Qb (kp5 Z Z Z Z Z) ?_))))
    refine ZS Z (Zl (QN (QC (QJ (Qe (kp1 Z) (Qf fun K hK => Qa Z (Qa Z (hK _ _ (Qb (kp1 Z) ?_)))))))))
    refine Qv (QA Z ?_)
    rw [Qn3 (by omega) (by omega), show i = min (w[x.u.toNat]'(by omega)).cs.length 16 by omega]
theorem Qaa {m : Int} : Ok Tryz.prog 45 [.int .i64 m] (ZI (X5 m)) := by
 refine Ok.ofT ZY Tryz.func45 Quh (Nat.le_of_ble_eq_true Z) ?_
 show TW _ _ tf45.body _ _
 refine Qf fun K hK => Qa Z (hK _ _ (Qb (kp1 Z) ?_))
 refine Qf fun K hK => Qa Z (hK _ _ (Qb (kp2 Z Z) ?_))
 refine QE ?_ -- 0
 refine Qf fun K hK => Qa Z (hK _ _ (Qb (kp3 Z Z Z) ?_))
 refine QD ?_
 refine Zs (ι := Nat) (fun i => ⟨[(0, .int .i64 m), (3, .osl 3 (Yb m i).length), (4, .int .i64 i)], [(3, ⟨(Yb m i).map (fun x => [.int .i64 x]), 1, 3, true⟩)]⟩) (fun i => i <= 17) (fun i => 17 - i) 0 ?_ ?_ ?_
 ·exact le_trans (YG 3 3 1 3 rfl rfl) (Q8 (l := [0, 3, 4]) (lH := [3]) (kp3 rfl rfl rfl) (Qg rfl Qr) rfl rfl rfl)
 ·exact Nat.zero_le _
 intro i hI
 have hlen := QeF m i
 try dsimp only
 refine QE ?_ -- 1
 refine Qf fun K hK => Qa Z (QqL Z Z (hK _ _ (Qb (kp4 Z Z Z Z) ?_)))
 refine Qx Z (fun h1 => ?_) (fun h1 => ?_)
 ·try rw [h1]
  try simp only [qB] at h1
  refine Qw (Qe (kp3 Z Z Z) ?_)
  refine QE ?_ -- 2
  refine QD (Qf fun K hK => Qa Z (Qa Z (QF (YA (by omega) (by omega)) Z Z (.inr Z) (Qb2 Z Z (XY Z Z (hK _ _ (Qb (kp4 Z Z Z Z) ?_)))))))
  refine Qx Z (fun h2 => ?_) (fun h2 => ?_)
  ·try rw [h2]
   try simp only [qB] at h2
   refine QO fun K hK => Qa Z (Qa Z (Qag Z Z (by first | exact Qs (by omega) (by omega) | rfl) (QI Z Z (XW Z Z (fun _ h => XF Z Z Z h) Z (by simp) Z Z Z (by simp; omega) (by simp; omega) (Qa Z (hK _ ?_))))))
   refine Qi (Qe (kp3 Z Z Z) (QO fun K hK => Qa Z (Q2 Z Z (by first | exact Qs (by omega) (by omega) | rfl) (Qa Z (hK _ ?_)))))
   refine Qm (i + 1) ?_ ?_ ?_
   ·exact Q8 (l := [0, 3, 4]) (lH := [3]) (kp3 rfl rfl rfl) (Qg rfl Qr) (by first | (rw [Xz (m := m) (n := i) h2]; done) | (rw [Xz (m := m) (n := i) h2]; rfl) | (rw [Xz (m := m) (n := i) h2, List.length_append]; rfl) | (simp [Xz (m := m) (n := i) h2]; done) | (simp [Xz (m := m) (n := i) h2]; omega) | rfl) (by first | (rw [Xz (m := m) (n := i) h2]; done) | (rw [Xz (m := m) (n := i) h2]; rfl) | (rw [Xz (m := m) (n := i) h2, List.map_append]; rfl) | (simp [Xz (m := m) (n := i) h2]; done) | rfl) rfl
   ·omega
   ·first | omega | (simp only; omega) | (dsimp only; omega)
  ·try rw [h2]
   try simp only [qB] at h2
   refine Qw (Qi (Qe (kp3 Z Z Z) (QO fun K hK => Qa Z (Q2 Z Z (by first | exact Qs (by omega) (by omega) | rfl) (Qa Z (hK _ ?_))))))
   refine Qm (i + 1) ?_ ?_ ?_
   ·exact Q8 (l := [0, 3, 4]) (lH := [3]) (kp3 rfl rfl rfl) (Qg rfl Qr) (by first | (rw [QaD (m := m) (n := i) h2]; done) | (rw [QaD (m := m) (n := i) h2]; rfl) | (rw [QaD (m := m) (n := i) h2, List.length_append]; rfl) | (simp [QaD (m := m) (n := i) h2]; done) | (simp [QaD (m := m) (n := i) h2]; omega) | rfl) (by first | (rw [QaD (m := m) (n := i) h2]; done) | (rw [QaD (m := m) (n := i) h2]; rfl) | (rw [QaD (m := m) (n := i) h2, List.map_append]; rfl) | (simp [QaD (m := m) (n := i) h2]; done) | rfl) rfl
   ·omega
   ·first | omega | (simp only; omega) | (dsimp only; omega)
 ·try rw [h1]
  try simp only [qB] at h1
  refine Zl (QN (QC (QJ (Qe (kp1 Z) (Qf fun K hK => Qa Z (Qa Z (hK _ _ (Qb (kp1 Z) ?_))))))))
  refine Qv ?_
  exact QbJ rfl rfl rfl (by simp) (by rw [X5, show (17 : Nat) = i by omega]; rfl)
theorem QcY {a b : List TermT} (ha : a.length <= 1000000) : Ok Tryz.prog 102 [ZN a, ZN b] (.bool (decide (a = b))) := by
 refine Ok.ofT ZY Tryz.func102 Qta (Nat.le_of_ble_eq_true Z) ?_
 show TW _ _ tf102.body _ _
 refine Qf fun K hK => Qa Z (hK _ _ (Qb (kp2 Z Z) ?_))
 refine QE ?_ -- 0
 refine Qf fun K hK => Qa Z (QS Z Z (Qa Z (QS Z Z (XY Z Z (hK _ _ (Qb (kp3 Z Z Z) ?_))))))
 refine Qx Z (fun h1 => ?_) (fun h1 => ?_)
 ·try rw [h1]
  try simp only [qA] at h1
  refine Qf fun K hK => Qa Z (hK _ _ (Qb (kp1 Z) ?_))
  refine Qv (Qk (Qt Z ?_))
  rw [decide_eq_false fun e => h1 (by rw [e])]
 ·try rw [h1]
  try simp only [qA] at h1
  refine Qw (Qe (kp2 Z Z) ?_)
  refine QE ?_ -- 1
  refine Qf fun K hK => Qa Z (hK _ _ (Qb (kp3 Z Z Z) ?_))
  refine QD ?_
  refine Zs (ι := Nat) (fun i => ⟨[(0, ZN a), (1, ZN b), (5, .int .i64 i)], []⟩) (fun i => i <= a.length /\ a.take i = b.take i) (fun i => a.length - i) 0 ?_ ?_ ?_
  ·exact Zk (kp3 rfl rfl rfl)
  ·exact ⟨Nat.zero_le _, by simp⟩
  intro i hI
  try dsimp only
  refine QE ?_ -- 2
  refine Qf fun K hK => Qa Z (Qa Z (QS Z Z (Z9 Z Z (hK _ _ (Qb (kp4 Z Z Z Z) ?_)))))
  refine Qx Z (fun h2 => ?_) (fun h2 => ?_)
  ·try rw [h2]
   try simp only [qA] at h2
   refine Qw (Qe (kp3 Z Z Z) ?_)
   refine QE ?_ -- 3
   refine QD (Qf fun K hK => Qa Z (Qa Z (QL Z Z Z (by omega) (QT (by omega)) Z (QP (ds0 := [0]) (cs := [_, _]) Z Z Z Z Z Z (Qa Z (Qa Z (QL Z Z Z (by omega) (QT (by omega)) Z (QP (ds0 := [0]) (cs := [_, _]) Z Z Z Z Z Z (QrY Z Z QoK (hK _ _ (Qb (kp4 Z Z Z Z) ?_)))))))))))
   refine Qx Z (fun h3 => ?_) (fun h3 => ?_)
   ·try rw [h3]
    try simp only [qA] at h3
    refine Qf fun K hK => Qa Z (hK _ _ (Qb (kp1 Z) ?_))
    refine Qv (Qu (Qk (Q9 (Qu (Qk (Qt Z ?_))))))
    rw [Qrw (i := i) (by omega) (by omega) h3]
   ·try rw [h3]
    try simp only [qA] at h3
    refine Qw (Qi (Qe (kp3 Z Z Z) (QO fun K hK => Qa Z (Q2 Z Z (by first | exact Qs (by omega) (by omega) | rfl) (Qa Z (hK _ ?_))))))
    refine Qm (i + 1) ?_ ?_ ?_
    ·exact Zk (kp3 rfl rfl rfl)
    ·exact ⟨by omega, QoJ (by omega) (by omega) hI.2 h3⟩
    ·first | omega | (simp only; omega) | (dsimp only; omega)
  ·try rw [h2]
   try simp only [qA] at h2
   refine Zl (QN (QC (QJ (Qe (Q7) (Qf fun K hK => Qa Z (hK _ _ (Qb (kp1 Z) ?_)))))))
   refine Qv (Qt Z ?_)
   rw [List.take_of_length_le (by omega), List.take_of_length_le (by omega)] at hI; exact (decide_eq_true hI.2).symm
end Go.Proofs
namespace Go.Proofs
open Go Go.Abs M3 M25
set_option linter.unusedVariables false
set_option linter.unusedSimpArgs false
theorem Qb8 {w : Qq} (hw : WSm w) (et : Nat) (het : et = 3) : OkH Tryz.prog 79 [Z6 w] [] (.osl 500000 (Qbh w).length) [(500000, ⟨(Qbh w).map (fun x => [.int .i64 x]), 1, et, true⟩)] := by
 subst het
 refine OkH.new ZY Tryz.func79 QuK (Nat.le_of_ble_eq_true Z) Z ?_
 show TW _ _ tf79.body _ _
 have hn := hw.len
 refine Qf fun K hK => Zz Z Z Z (Qa Z (hK _ _ (Qb (kp1 Z) ?_)))
 refine Qf fun K hK => Qa Z (hK _ _ (Qb (kp2 Z Z) ?_))
 refine QE ?_ -- 0
 refine Qf fun K hK => Qa Z (hK _ _ (Qb (kp3 Z Z Z) ?_))
 refine QD ?_
 refine Zs (ι := Nat) (fun i => ⟨[(1, .ref 1 0 0), (3, .osl 500000 (Qci w i).length), (4, .int .i64 i)], [(1, ⟨[[.sl ((w).map YX)]], 1, 26, true⟩), (500000, ⟨(Qci w i).map (fun x => [.int .i64 x]), 1, 3, true⟩)]⟩) (fun i => i <= w.length) (fun i => w.length - i) 0 ?_ ?_ ?_
 ·exact le_trans (YG 3 500000 1 3 rfl rfl) (Q8 (l := [1, 3, 4]) (lH := [1, 500000]) (kp3 rfl rfl rfl) (Qg rfl (Qg rfl Qr)) rfl rfl rfl)
 ·exact Nat.zero_le _
 intro i hI
 have hlen := Qdq w i
 try dsimp only
 refine QE ?_ -- 1
 refine Qf fun K hK => Qa Z (Qj Z Z (Qy Z Z Z (QS Z Z (Z9 Z Z (hK _ _ (Qb (kp4 Z Z Z Z) ?_))))))
 refine Qx Z (fun h1 => ?_) (fun h1 => ?_)
 ·try rw [h1]
  try simp only [qA] at h1
  refine Qw (Qe (kp3 Z Z Z) ?_)
  refine QE ?_ -- 2
  refine QD (QO fun K hK => Qa Z (QH (cs := [_]) Z Z Z Z (Qa Z (QF (ZP hw) Z Z (.inr Z) (QI Z Z (XW Z Z (fun _ h => XF Z Z Z h) Z (by simp) Z Z Z (by simp; omega) (by simp; omega) (Qa Z (hK _ ?_))))))))
  refine Qi (Qe (kp3 Z Z Z) (QO fun K hK => Qa Z (Q2 Z Z (by first | exact Qs (by omega) (by omega) | rfl) (Qa Z (hK _ ?_)))))
  refine Qm (i + 1) ?_ ?_ ?_
  ·exact Q8 (l := [1, 3, 4]) (lH := [1, 500000]) (kp3 rfl rfl rfl) (Qg rfl (Qg rfl Qr)) (by first | (rw [Qai]; done) | (rw [Qai]; rfl) | (rw [Qai, List.length_append]; rfl) | (simp [Qai]; done) | (simp [Qai]; omega) | rfl) (by first | (rw [Qai]; done) | (rw [Qai]; rfl) | (rw [Qai, List.map_append]; rfl) | (simp [Qai]; done) | rfl) rfl
  ·omega
  ·first | omega | (simp only; omega) | (dsimp only; omega)
 ·try rw [h1]
  try simp only [qA] at h1
  refine Zl (QN (QC (QJ (Qe (kp1 Z) (Qf fun K hK => Qa Z (Qa Z (hK _ _ (Qb (kp1 Z) ?_))))))))
  refine Qv ?_
  refine Xe Z ?_ (QeZ ?_)
  ·rw [Qbh, show w.length = i by omega]; rfl
  ·rw [Qbh, show w.length = i by omega]; rfl
theorem QcZ {w : Qq} (hw : WSm w) {ms : List Int} (hm : ms.length <= 1000000) : Ok Tryz.prog 80 [Z6 w, ZI ms] (dOT (QjC w ms)) := by
 refine Ok.ofT ZY Tryz.func80 QuL (Nat.le_of_ble_eq_true Z) ?_
 show TW _ _ tf80.body _ _
 refine Qf fun K hK => Zz Z Z Z (Qa Z (Qa Z (hK _ _ (Qb (kp2 Z Z) ?_))))
 refine Qf fun K hK => Qa Z (hK _ _ (Qb (kp3 Z Z Z) ?_))
 refine QE ?_ -- 0
 refine Qf fun K hK => Qa Z (hK _ _ (Qb (kp4 Z Z Z Z) ?_))
 refine QD ?_
 refine Zs (ι := Nat) (fun i => ⟨[(1, ZI ms), (2, .ref 2 0 0), (6, .osl 6 (XM w ms i).length), (7, .int .i64 i)], [(2, ⟨[[.sl ((w).map YX)]], 1, 26, true⟩), (6, ⟨(XM w ms i).map QeD, 2, 35, true⟩)]⟩) (fun i => i <= ms.length /\ (ms.take i).all (fun m => !decide (m = 0)) = true) (fun i => ms.length - i) 0 ?_ ?_ ?_
 ·exact le_trans (YG 6 6 2 35 rfl rfl) (Q8 (l := [1, 2, 6, 7]) (lH := [2, 6]) (kp4 rfl rfl rfl rfl) (Qg rfl (Qg rfl Qr)) rfl rfl rfl)
 ·exact ⟨Nat.zero_le _, by simp⟩
 intro i hI
 have hlen := Qhy w ms i
 try dsimp only
 refine QE ?_ -- 1
 refine Qf fun K hK => Qa Z (Qa Z (QS Z Z (Z9 Z Z (hK _ _ (Qb (kp5 Z Z Z Z Z) ?_)))))
 refine Qx Z (fun h1 => ?_) (fun h1 => ?_)
 ·try rw [h1]
  try simp only [qA] at h1
  refine Qw (Qe (kp4 Z Z Z Z) ?_)
  refine QE ?_ -- 2
  refine QD ?_
  refine QE ?_ -- 3
  refine Qf fun K hK => Qa Z (Qa Z (QL Z Z Z (by omega) (QT (by omega)) Z (Qy Z Z Z (ZD Z Z (hK _ _ (Qb (kp5 Z Z Z Z Z) ?_))))))
  refine Qx Z (fun h2 => ?_) (fun h2 => ?_)
  ·try rw [h2]
   try simp only [qA] at h2
   refine Qf fun K hK => Qa Z (Qa Z (hK _ _ (Qb (kp2 Z Z) ?_)))
   refine Qv (Qk (Qu (Qk (Q9 (Qu (Qk ?_))))))
   rw [QmH (i := i) (by omega) h2]
   exact QV rfl rfl ⟨rfl, rfl⟩
  ·try rw [h2]
   try simp only [qA] at h2
   refine Qw (Qe (kp4 Z Z Z Z) (Qf fun K hK => Qa Z (Qa Z (QL Z Z Z (by omega) (QT (by omega)) Z (QR (ds0 := [0]) Z Z Z Z Z (QP (ds0 := [1, 0]) (cs := [_]) Z Z Z Z Z Z (Qa Z (QX (ds0 := [0]) (ZP hw) Z Z (.inr Z) Z Z (XY Z Z (hK _ _ (Qb (kp5 Z Z Z Z Z) ?_)))))))))))
   refine Qx Z (fun h3 => ?_) (fun h3 => ?_)
   ·try rw [h3]
    try simp only [qA] at h3
    refine QO fun K hK => Qa Z (Qa Z (Qa Z (Qa Z (QL Z Z Z (by omega) (QT (by omega)) Z (Qy Z Z Z (QU Z Z (QI Z Z (XW Z Z (fun _ h => XF Z Z Z h) Z (by simp) Z Z Z (by simp; omega) (by simp; omega) (Qa Z (hK _ ?_))))))))))
    refine Qi (Qe (kp4 Z Z Z Z) (QO fun K hK => Qa Z (Q2 Z Z (by first | exact Qs (by omega) (by omega) | rfl) (Qa Z (hK _ ?_)))))
    refine Qm (i + 1) ?_ ?_ ?_
    ·exact Q8 (l := [1, 2, 6, 7]) (lH := [2, 6]) (kp4 rfl rfl rfl rfl) (Qg rfl (Qg rfl Qr)) (by first | (rw [Qal (by omega) h3]; done) | (rw [Qal (by omega) h3]; rfl) | (rw [Qal (by omega) h3, List.length_append]; rfl) | (simp [Qal (by omega) h3]; done) | (simp [Qal (by omega) h3]; omega) | rfl) (by first | (rw [Qal (by omega) h3]; done) | (rw [Qal (by omega) h3]; rfl) | (rw [Qal (by omega) h3, List.map_append]; rfl) | (simp [Qal (by omega) h3]; done) | rfl) rfl
    ·exact ⟨by omega, Yf (by omega) hI.2 (by simpa using h2)⟩
    ·first | omega | (simp only; omega) | (dsimp only; omega)
   ·try rw [h3]
    try simp only [qA] at h3
    refine Qw (Qi (Qe (kp4 Z Z Z Z) (QO fun K hK => Qa Z (Q2 Z Z (by first | exact Qs (by omega) (by omega) | rfl) (Qa Z (hK _ ?_))))))
    refine Qm (i + 1) ?_ ?_ ?_
    ·exact Q8 (l := [1, 2, 6, 7]) (lH := [2, 6]) (kp4 rfl rfl rfl rfl) (Qg rfl (Qg rfl Qr)) (by first | (rw [QbH (by omega) h3]; done) | (rw [QbH (by omega) h3]; rfl) | (rw [QbH (by omega) h3, List.length_append]; rfl) | (simp [QbH (by omega) h3]; done) | (simp [QbH (by omega) h3]; omega) | rfl) (by first | (rw [QbH (by omega) h3]; done) | (rw [QbH (by omega) h3]; rfl) | (rw [QbH (by omega) h3, List.map_append]; rfl) | (simp [QbH (by omega) h3]; done) | rfl) rfl
    ·exact ⟨by omega, Yf (by omega) hI.2 (by simpa using h2)⟩
    ·first | omega | (simp only; omega) | (dsimp only; omega)
 ·try rw [h1]
  try simp only [qA] at h1
  refine Zl (QN (QC (QJ (Qe (kp1 Z) (Qf fun K hK => Qa Z (Qa Z (Qa Z (hK _ _ (Qb (kp2 Z Z) ?_)))))))))
  refine Qv ?_
  rw [Qn1 (i := i) (by omega) hI.2]
  exact QgC rfl rfl rfl (by simp) (by show D.sl _ = ZN (XM w ms ms.length); rw [show ms.length = i by omega]; rfl) rfl rfl
theorem QcX {w : Qq} (hw : WSm w) {l : List TermT} (hl : l.length <= 2000000) : Ok Tryz.prog 47 [Z6 w, ZN l] (dOT (Qe6 w l)) := by
 refine Ok.ofT ZY Tryz.func47 Quj (Nat.le_of_ble_eq_true Z) ?_
 show TW _ _ tf47.body _ _
 have hn := hw.len
 refine Qf fun K hK => Zz Z Z Z (Qa Z (Qa Z (hK _ _ (Qb (kp2 Z Z) ?_))))
 refine Qf fun K hK => QH (cs := [_]) rfl rfl rfl rfl (YL (Qr7 rfl (by intro x hx; simp at hx; subst hx; rfl) rfl rfl rfl (Qb8 hw _ rfl)) (Qa rfl (hK _ _ (Qb (kp3 rfl rfl rfl) ?_))))
 refine Qi1 (ι := Unit) (fun _ => ⟨[(2, .ref 2 0 0), (6, ZI (XL (Qbh w) l))], [(2, ⟨[[.sl ((w).map YX)]], 1, 26, true⟩)]⟩) (fun _ => l.all (fun t => inW w t.u) = true) ?_ ?_
 ·skip
  refine Qf fun K hK => Qa Z (hK _ _ (Qb (kp4 Z Z Z Z) ?_))
  refine QD ?_
  refine Zs (ι := Nat) (fun i => ⟨[(1, ZN l), (2, .ref 2 0 0), (6, .osl 500000 (XL (Qbh w) (l.take i)).length), (7, .int .i64 i)], [(2, ⟨[[.sl ((w).map YX)]], 1, 26, true⟩), (500000, ⟨(XL (Qbh w) (l.take i)).map (fun x => [.int .i64 x]), 1, 3, true⟩)]⟩) (fun i => i <= l.length /\ (l.take i).all (fun t => inW w t.u) = true) (fun i => l.length - i) 0 ?_ ?_ ?_
  ·exact Q8 (l := [1, 2, 6, 7]) (lH := [2, 500000]) (kp4 rfl rfl rfl rfl) (Qg rfl (Qg rfl Qr)) rfl rfl rfl
  ·exact ⟨Nat.zero_le _, by simp⟩
  intro i hI
  have hlen := Qf6 w (l.take i)
  try dsimp only
  refine QE ?_ -- 1
  refine Qf fun K hK => Qa Z (Qa Z (QS Z Z (Z9 Z Z (hK _ _ (Qb (kp5 Z Z Z Z Z) ?_)))))
  refine Qx Z (fun h1 => ?_) (fun h1 => ?_)
  ·try rw [h1]
   try simp only [qA] at h1
   refine Qw (Qe (kp4 Z Z Z Z) ?_)
   refine QE ?_ -- 2
   refine QD ?_
   refine QE ?_ -- 3
   refine Qf fun K hK => Qa Z (Qa Z (QL Z Z Z (by omega) (QT (by omega)) Z (Za Z Z (Qy Z Z Z (Z9 Z Z (Qa Z ?_))))))
   refine QB (g := 22) Z (fun h2 => ?_) (fun h2 => ?_)
   ·try rw [h2]
    try simp only [qA] at h2
    refine Qp Z (Qp Z (Qp Z (Qp Z (Qp Z (Qp Z (Qp Z (Qp Z (Ql Z Z (hK _ _ (Qb (kp5 Z Z Z Z Z) ?_))))))))))
    refine Zm Z (Qf fun K hK => Qa Z (Qa Z (hK _ _ (Qb (kp2 Z Z) ?_))))
    refine Qv (Qk (Qu (Qk (Q9 (Qu (Qd1 ?_))))))
    rw [Qhw (i := i) (by omega) (Qdr (by omega))]
    exact QV rfl rfl ⟨rfl, rfl⟩
   ·try rw [h2]
    try simp only [qA] at h2
    refine Qh Z (Qa Z (Qh Z (Qa Z (Qh Z (QL Z Z Z (by omega) (QT (by omega)) Z (Qh Z (Za Z Z (Qh Z (Qy Z Z Z (Qh Z (Qa Z ?_)))))))))))
    refine Qh Z (QS Z Z (Qh Z (Qet Z Z (Ql Z Z (hK _ _ (Qb (kp5 Z Z Z Z Z) ?_))))))
    refine Qx Z (fun h3 => ?_) (fun h3 => ?_)
    ·try rw [h3]
     try simp only [qA] at h3
     refine Qf fun K hK => Qa Z (Qa Z (hK _ _ (Qb (kp2 Z Z) ?_)))
     refine Qv (Qk (Qu (Qk (Q9 (Qu (Qd1 ?_))))))
     rw [Qhw (i := i) (by omega) (Qdr (by omega))]
     exact QV rfl rfl ⟨rfl, rfl⟩
    ·try rw [h3]
     try simp only [qA] at h3
     refine Qw (Qe (kp4 Z Z Z Z) (QO fun K hK => Qa Z (Qa Z (Qa Z (QL Z Z Z (by omega) (QT (by omega)) Z (Za Z Z (QR (ds0 := [1, 0]) Z Z Z Z Z (Qa Z (Qa Z (Qa Z ?_))))))))))
     refine QL Z Z Z (by omega) (QT (by omega)) Z (Za Z Z (QR (ds0 := [9, 8, 2, 0]) Z Z Z Z Z (XX (ds0 := [8, 2, 0]) Z Z Z (by simp) (by omega) (by omega) Z Z Z (QR (ds0 := [2, 0]) Z (Z8 Z (ZA (by omega) (by omega))) Z Z Z (Qa Z (Qa Z (QL Z Z Z (by omega) (QT (by omega)) Z (Za Z Z (QR (ds0 := [2, 0]) Z Z Z Z Z (Qb2 Z Z (XX (ds0 := [0]) Z Z Z (by simp) (by omega) (by omega) Z Z Z ?_)))))))))))
     refine Xu (ds0 := []) Z Z (ZA (by omega) (by omega)) Z Z Z Z Z Z Z (hK _ ?_)
     refine Qi (Qe (kp4 Z Z Z Z) (QO fun K hK => Qa Z (Q2 Z Z (by first | exact Qs (by omega) (by omega) | rfl) (Qa Z (hK _ ?_)))))
     refine Qm (i + 1) ?_ ?_ ?_
     ·exact Q8 (l := [1, 2, 6, 7]) (lH := [2, 500000]) (kp4 rfl rfl rfl rfl) (Qg rfl (Qg rfl Qr)) (by rw [QlT (by omega) (by omega), List.length_set]; rfl) (by rw [QlT (by omega) (by omega), List.map_set]; rfl) rfl
     ·exact ⟨by omega, Yf (by omega) hI.2 (Qgc (by omega) (by omega))⟩
     ·first | omega | (simp only; omega) | (dsimp only; omega)
  ·try rw [h1]
   try simp only [qA] at h1
   refine Zl (QN (QC (QJ ?_)))
   refine Yo () ?_ ?_
   ·exact le_trans (QlE (l := [2]) (lH := [2]) 500000 6 (kp1 rfl) (Qg rfl Qr) rfl rfl rfl (by first | (simp; done) | (simp; omega)) rfl rfl rfl rfl) (Q8 (l := [2, 6]) (lH := [2]) (kp2 rfl rfl) (Qg rfl Qr) (by rw [List.take_of_length_le (show l.length <= i by omega)]; rfl) rfl rfl)
   ·exact XO (by omega) hI.2
 intro _ hJ
 try dsimp only
 refine Qf fun K hK => QH (cs := [_]) Z Z Z Z (Qa Z (QF (QcZ hw (by rw [Qf6]; omega)) Z Z (.inl Z) (Zd Z Z (Zd Z Z (Qa Z (Qa Z (hK _ _ (Qb (kp2 Z Z) ?_))))))))
 refine Qv ?_
 rw [Qn2 hJ]
 exact QV rfl rfl ⟨rfl, rfl⟩
theorem Xm {l : List TermT} (hl : l.length <= 2000000) {u : Int} : Ok Tryz.prog 103 [ZN l, .int .i64 u] (ZN (Qhs l u)) := by
 refine Ok.ofT ZY Tryz.func103 Qtb (Nat.le_of_ble_eq_true Z) ?_
 show TW _ _ tf103.body _ _
 refine Qf fun K hK => Qa Z (hK _ _ (Qb (kp2 Z Z) ?_))
 refine Qf fun K hK => Qa Z (hK _ _ (Qb (kp3 Z Z Z) ?_))
 refine QE ?_ -- 0
 refine Qf fun K hK => Qa Z (hK _ _ (Qb (kp4 Z Z Z Z) ?_))
 refine QD ?_
 refine Zs (ι := Nat) (fun i => ⟨[(0, ZN l), (1, .int .i64 u), (5, .osl 5 (Qhs (l.take i) u).length), (6, .int .i64 i)], [(5, ⟨(Qhs (l.take i) u).map QeD, 2, 35, true⟩)]⟩) (fun i => i <= l.length) (fun i => l.length - i) 0 ?_ ?_ ?_
 ·exact le_trans (YG 5 5 2 35 rfl rfl) (Q8 (l := [0, 1, 5, 6]) (lH := [5]) (kp4 rfl rfl rfl rfl) (Qg rfl Qr) rfl rfl rfl)
 ·exact Nat.zero_le _
 intro i hI
 have hlen := Qo2 l u i
 try dsimp only
 refine QE ?_ -- 1
 refine Qf fun K hK => Qa Z (Qa Z (QS Z Z (Z9 Z Z (hK _ _ (Qb (kp5 Z Z Z Z Z) ?_)))))
 refine Qx Z (fun h1 => ?_) (fun h1 => ?_)
 ·try rw [h1]
  try simp only [qA] at h1
  refine Qw (Qe (kp4 Z Z Z Z) ?_)
  refine QE ?_ -- 2
  refine QD (Qf fun K hK => Qa Z (Qa Z (QL Z Z Z (by omega) (QT (by omega)) Z (Za Z Z (Qy Z Z Z (Qa Z (XY Z Z (hK _ _ (Qb (kp5 Z Z Z Z Z) ?_)))))))))
  refine Qx Z (fun h2 => ?_) (fun h2 => ?_)
  ·try rw [h2]
   try simp only [qA] at h2
   refine QO fun K hK => Qa Z (Qa Z (Qa Z (QL Z Z Z (by omega) (QT (by omega)) Z (QH (cs := [_, _]) Z Z Z Z (QI Z Z (XW Z Z (fun _ h => XF Z Z Z h) Z (by simp) Z Z Z (by simp; omega) (by simp; omega) (Qa Z (hK _ ?_))))))))
   refine Qi (Qe (kp4 Z Z Z Z) (QO fun K hK => Qa Z (Q2 Z Z (by first | exact Qs (by omega) (by omega) | rfl) (Qa Z (hK _ ?_)))))
   refine Qm (i + 1) ?_ ?_ ?_
   ·exact Q8 (l := [0, 1, 5, 6]) (lH := [5]) (kp4 rfl rfl rfl rfl) (Qg rfl Qr) (by first | (rw [Qbr (by omega) h2]; done) | (rw [Qbr (by omega) h2]; rfl) | (rw [Qbr (by omega) h2, List.length_append]; rfl) | (simp [Qbr (by omega) h2]; done) | (simp [Qbr (by omega) h2]; omega) | rfl) (by first | (rw [Qbr (by omega) h2]; done) | (rw [Qbr (by omega) h2]; rfl) | (rw [Qbr (by omega) h2, List.map_append]; rfl) | (simp [Qbr (by omega) h2]; done) | rfl) rfl
   ·omega
   ·first | omega | (simp only; omega) | (dsimp only; omega)
  ·try rw [h2]
   try simp only [qA] at h2
   refine Qw (Qi (Qe (kp4 Z Z Z Z) (QO fun K hK => Qa Z (Q2 Z Z (by first | exact Qs (by omega) (by omega) | rfl) (Qa Z (hK _ ?_))))))
   refine Qm (i + 1) ?_ ?_ ?_
   ·exact Q8 (l := [0, 1, 5, 6]) (lH := [5]) (kp4 rfl rfl rfl rfl) (Qg rfl Qr) (by first | (rw [QdH (by omega) h2]; done) | (rw [QdH (by omega) h2]; rfl) | (rw [QdH (by omega) h2, List.length_append]; rfl) | (simp [QdH (by omega) h2]; done) | (simp [QdH (by omega) h2]; omega) | rfl) (by first | (rw [QdH (by omega) h2]; done) | (rw [QdH (by omega) h2]; rfl) | (rw [QdH (by omega) h2, List.map_append]; rfl) | (simp [QdH (by omega) h2]; done) | rfl) rfl
   ·omega
   ·first | omega | (simp only; omega) | (dsimp only; omega)
 ·try rw [h1]
  try simp only [qA] at h1
  refine Zl (QN (QC (QJ (Qe (kp1 Z) (Qf fun K hK => Qa Z (Qa Z (hK _ _ (Qb (kp1 Z) ?_))))))))
  refine Qv ?_
  exact QbJ rfl rfl rfl (by simp) (by rw [List.take_of_length_le (show l.length <= i by omega)]; rfl)
theorem QbW {l : List TermT} (hl : l.length <= 3000000) : Ok Tryz.prog 104 [ZN l] (ZN (Qiu l)) := by
 refine Ok.ofT ZY Tryz.func104 Qtc (Nat.le_of_ble_eq_true Z) ?_
 show TW _ _ tf104.body _ _
 refine Qf fun K hK => Qa Z (hK _ _ (Qb (kp1 Z) ?_))
 refine Qf fun K hK => Qa Z (hK _ _ (Qb (kp2 Z Z) ?_))
 refine QE ?_ -- 0
 refine Qf fun K hK => Qa Z (hK _ _ (Qb (kp3 Z Z Z) ?_))
 refine QD ?_
 refine Zs (ι := Nat) (fun u => ⟨[(0, ZN l), (3, .osl 3 (Ys l u).length), (4, .int .i64 u)], [(3, ⟨(Ys l u).map QeD, 2, 35, true⟩)]⟩) (fun u => u <= 48) (fun u => 48 - u) 0 ?_ ?_ ?_
 ·exact le_trans (YG 3 3 2 35 rfl rfl) (Q8 (l := [0, 3, 4]) (lH := [3]) (kp3 rfl rfl rfl) (Qg rfl Qr) rfl rfl rfl)
 ·exact Nat.zero_le _
 intro u hU
 have hlen2 : u * l.length <= 48 * 3000000 := Nat.mul_le_mul (by omega) hl
 try dsimp only
 refine QE ?_ -- 1
 refine Qf fun K hK => Qa Z (Z9 Z Z (hK _ _ (Qb (kp4 Z Z Z Z) ?_)))
 refine Qx Z (fun h1 => ?_) (fun h1 => ?_)
 ·try rw [h1]
  try simp only [qA] at h1
  refine Qw (Qe (kp3 Z Z Z) ?_)
  refine QE ?_ -- 2
  refine QD (Qf fun K hK => Qa Z (hK _ _ (Qb (kp4 Z Z Z Z) ?_)))
  refine QD ?_
  refine Zs (ι := Nat) (fun i => ⟨[(0, ZN l), (3, .osl 3 (srt l u i).length), (4, .int .i64 u), (5, .int .i64 i)], [(3, ⟨(srt l u i).map QeD, 2, 35, true⟩)]⟩) (fun i => i <= l.length) (fun i => l.length - i) 0 ?_ ?_ ?_
  ·exact Q8 (l := [0, 3, 4, 5]) (lH := [3]) (kp4 rfl rfl rfl rfl) (Qg rfl Qr) (by first | (rw [Qaq]; done) | (rw [Qaq]; rfl) | (rw [Qaq, List.length_append]; rfl) | (simp [Qaq]; done) | (simp [Qaq]; omega) | rfl) (by first | (rw [Qaq]; done) | (rw [Qaq]; rfl) | (rw [Qaq, List.map_append]; rfl) | (simp [Qaq]; done) | rfl) rfl
  ·exact Nat.zero_le _
  intro i hI
  have hlen3 := Qry l u i
  try dsimp only
  refine QE ?_ -- 3
  refine Qf fun K hK => Qa Z (Qa Z (QS Z Z (Z9 Z Z (hK _ _ (Qb (kp5 Z Z Z Z Z) ?_)))))
  refine Qx Z (fun h2 => ?_) (fun h2 => ?_)
  ·try rw [h2]
   try simp only [qA] at h2
   refine Qw (Qe (kp4 Z Z Z Z) ?_)
   refine QE ?_ -- 4
   refine QD (Qf fun K hK => Qa Z (Qa Z (QL Z Z Z (by omega) (QT (by omega)) Z (Za Z Z (Qy Z Z Z (Qa Z (ZD Z Z (hK _ _ (Qb (kp5 Z Z Z Z Z) ?_)))))))))
   refine Qx Z (fun h3 => ?_) (fun h3 => ?_)
   ·try rw [h3]
    try simp only [qA] at h3
    refine QO fun K hK => Qa Z (Qa Z (Qa Z (QL Z Z Z (by omega) (QT (by omega)) Z (QH (cs := [_, _]) Z Z Z Z (QI Z Z (XW Z Z (fun _ h => XF Z Z Z h) Z (by simp) Z Z Z (by simp; omega) (by simp; omega) (Qa Z (hK _ ?_))))))))
    refine Qi (Qe (kp4 Z Z Z Z) (QO fun K hK => Qa Z (Q2 Z Z (by first | exact Qs (by omega) (by omega) | rfl) (Qa Z (hK _ ?_)))))
    refine Qm (i + 1) ?_ ?_ ?_
    ·exact Q8 (l := [0, 3, 4, 5]) (lH := [3]) (kp4 rfl rfl rfl rfl) (Qg rfl Qr) (by first | (rw [QbN (by omega) h3]; done) | (rw [QbN (by omega) h3]; rfl) | (rw [QbN (by omega) h3, List.length_append]; rfl) | (simp [QbN (by omega) h3]; done) | (simp [QbN (by omega) h3]; omega) | rfl) (by first | (rw [QbN (by omega) h3]; done) | (rw [QbN (by omega) h3]; rfl) | (rw [QbN (by omega) h3, List.map_append]; rfl) | (simp [QbN (by omega) h3]; done) | rfl) rfl
    ·omega
    ·first | omega | (simp only; omega) | (dsimp only; omega)
   ·try rw [h3]
    try simp only [qA] at h3
    refine Qw (Qi (Qe (kp4 Z Z Z Z) (QO fun K hK => Qa Z (Q2 Z Z (by first | exact Qs (by omega) (by omega) | rfl) (Qa Z (hK _ ?_))))))
    refine Qm (i + 1) ?_ ?_ ?_
    ·exact Q8 (l := [0, 3, 4, 5]) (lH := [3]) (kp4 rfl rfl rfl rfl) (Qg rfl Qr) (by first | (rw [Qeo (by omega) h3]; done) | (rw [Qeo (by omega) h3]; rfl) | (rw [Qeo (by omega) h3, List.length_append]; rfl) | (simp [Qeo (by omega) h3]; done) | (simp [Qeo (by omega) h3]; omega) | rfl) (by first | (rw [Qeo (by omega) h3]; done) | (rw [Qeo (by omega) h3]; rfl) | (rw [Qeo (by omega) h3, List.map_append]; rfl) | (simp [Qeo (by omega) h3]; done) | rfl) rfl
    ·omega
    ·first | omega | (simp only; omega) | (dsimp only; omega)
  ·try rw [h2]
   try simp only [qA] at h2
   refine Zl (QN (QC (QJ (Qi (Qe (kp3 Z Z Z) (QO fun K hK => Qa Z (Q2 Z Z (by first | exact Qs (by omega) (by omega) | rfl) (Qa Z (hK _ ?_)))))))))
   refine Qm (u + 1) ?_ ?_ ?_
   ·exact Q8 (l := [0, 3, 4]) (lH := [3]) (kp3 rfl rfl rfl) (Qg rfl Qr) (by first | (rw [QbM l u (show l.length = i by omega)]; done) | (rw [QbM l u (show l.length = i by omega)]; rfl) | (rw [QbM l u (show l.length = i by omega), List.length_append]; rfl) | (simp [QbM l u (show l.length = i by omega)]; done) | (simp [QbM l u (show l.length = i by omega)]; omega) | rfl) (by first | (rw [QbM l u (show l.length = i by omega)]; done) | (rw [QbM l u (show l.length = i by omega)]; rfl) | (rw [QbM l u (show l.length = i by omega), List.map_append]; rfl) | (simp [QbM l u (show l.length = i by omega)]; done) | rfl) rfl
   ·omega
   ·first | omega | (simp only; omega) | (dsimp only; omega)
 ·try rw [h1]
  try simp only [qA] at h1
  refine Zl (QN (QC (QJ (Qe (kp1 Z) (Qf fun K hK => Qa Z (Qa Z (hK _ _ (Qb (kp1 Z) ?_))))))))
  refine Qv ?_
  exact QbJ rfl rfl rfl (by simp) (by rw [Qiu, show (48 : Nat) = u by omega]; rfl)
theorem XI {w : Qq} (hw : WSm w) {u : Int} {p : Nat} (hp : p <= 60) {l : List WantT} (hl : l.length <= 1000000) (hx : ∀ x ∈ l, Sm x.s.1 /\ Sm x.s.2) {bar : Bool} : Ok Tryz.prog 77 [Z6 w, .int .i64 u, .int .i64 (p : Nat), Zc l, .bool bar] (dOT (Yp w u p l bar)) := by
 refine Ok.ofT ZY Tryz.func77 QuI (Nat.le_of_ble_eq_true Z) ?_
 show TW _ _ tf77.body _ _
 refine Qf fun K hK => Zz Z Z Z (Qa Z (Qa Z (hK _ _ (Qb (kp5 Z Z Z Z Z) ?_))))
 refine Qf fun K hK => Qa Z (QH (cs := [_]) Z Z Z Z (Qa Z (QF (ZP hw) Z Z (.inr Z) (Qa Z (QiZ Z (QfI (by omega) (by omega)) (QoU Z Z (by omega) (QoM hp) (Qb2 Z Z (QU Z Z (QI Z Z (Qa Z ?_))))))))))
 refine hK _ _ (Qb (kp4 Z Z Z Z) ?_)
 refine Qi1 (ι := Unit) (fun _ => ⟨[(5, .ref 5 0 0), (12, ZN (clT w u p bar l))], [(5, ⟨[[.sl ((w).map YX)]], 1, 26, true⟩)]⟩) (fun _ => True) ?_ ?_
 ·skip
  refine Qf fun K hK => Qa Z (hK _ _ (Qb (kp5 Z Z Z Z Z) ?_))
  refine QD ?_
  refine Zs (ι := Nat) (fun i => ⟨[(3, Zc l), (4, .bool bar), (5, .ref 5 0 0), (12, .osl 24 (clT w u p bar (l.take i)).length), (13, .int .i64 i)], [(5, ⟨[[.sl ((w).map YX)]], 1, 26, true⟩), (24, ⟨(clT w u p bar (l.take i)).map QeD, 2, 35, true⟩)]⟩) (fun i => i <= l.length) (fun i => l.length - i) 0 ?_ ?_ ?_
  ·exact Q8 (l := [3, 4, 5, 12, 13]) (lH := [5, 24]) (kp5 rfl rfl rfl rfl rfl) (Qg rfl (Qg rfl Qr)) rfl rfl rfl
  ·exact Nat.zero_le _
  intro i hI
  have hlen := Qni w u p bar (l.take i)
  have hlen2 : (l.take i).length <= l.length := List.length_take_le' ..
  try dsimp only
  refine QE ?_ -- 1
  refine Qf fun K hK => Qa Z (Qa Z (QS Z Z (Z9 Z Z (hK _ _ (Qb (kp6 Z Z Z Z Z Z) ?_)))))
  refine Qx Z (fun h1 => ?_) (fun h1 => ?_)
  ·try rw [h1]
   try simp only [qA] at h1
   refine Qw (Qe (kp5 Z Z Z Z Z) ?_)
   refine QE ?_ -- 2
   refine QD (Qf fun K hK => QP (ds0 := [1, 0]) (cs := [_]) Z Z Z Z Z Z (Qa Z (Qa Z (QL Z Z Z (by omega) (QT (by omega)) Z (QP (ds0 := [1, 0]) (cs := [_, _, _]) Z Z Z Z Z Z (QX (ds0 := [0]) (Qdh hw (hx _ (List.getElem_mem (by omega)))) Z Z (.inr Z) Z Z (Qa Z (hK _ _ (Qb (kp6 Z Z Z Z Z Z) ?_)))))))))
   refine QE ?_ -- 3
   refine Qf fun K hK => Qa Z (Yh Z (hK _ _ (Qb (kp7 Z Z Z Z Z Z Z) ?_)))
   refine Qx Z (fun h2 => ?_) (fun h2 => ?_)
   ·try rw [h2]
    try simp only [qA] at h2
    refine QO fun K hK => QP (ds0 := [3, 1, 0]) (cs := [_]) Z Z Z Z Z Z (Qa Z (Qa Z (QL Z Z Z (by omega) (QT (by omega)) Z (Za Z Z (QR (ds0 := [3, 1, 0]) Z Z Z Z Z (QX (ds0 := [1, 0]) (ZP hw) Z Z (.inr Z) Z Z (Qa Z (Qag Z Z (QrG w _ _) (Qa Z (hK _ ?_))))))))))
    refine Qe (kp6 Z Z Z Z Z Z) (QO fun K hK => Qa Z (Qa Z (Qa Z (QL Z Z Z (by omega) (QT (by omega)) Z (Za Z Z (Qy Z Z Z (Qa Z (QU Z Z (QI Z Z (XW Z Z (fun _ h => XF Z Z Z h) Z (by simp) Z Z Z (by simp; omega) (by simp; omega) ?_))))))))))
    refine Qa Z (hK _ ?_)
    refine Qi (Qe (kp5 Z Z Z Z Z) (QO fun K hK => Qa Z (Q2 Z Z (by first | exact Qs (by omega) (by omega) | rfl) (Qa Z (hK _ ?_)))))
    refine Qm (i + 1) ?_ ?_ ?_
    ·exact Q8 (l := [3, 4, 5, 12, 13]) (lH := [5, 24]) (kp5 rfl rfl rfl rfl rfl) (Qg rfl (Qg rfl Qr)) (by first | (rw [Qbv (by omega) h2]; done) | (rw [Qbv (by omega) h2]; rfl) | (rw [Qbv (by omega) h2, List.length_append]; rfl) | (simp [Qbv (by omega) h2]; done) | (simp [Qbv (by omega) h2]; omega) | rfl) (by first | (rw [Qbv (by omega) h2]; done) | (rw [Qbv (by omega) h2]; rfl) | (rw [Qbv (by omega) h2, List.map_append]; rfl) | (simp [Qbv (by omega) h2]; done) | rfl) rfl
    ·omega
    ·first | omega | (simp only; omega) | (dsimp only; omega)
   ·try rw [h2]
    try simp only [qA] at h2
    refine Qw (Qe (kp6 Z Z Z Z Z Z) (QO fun K hK => Qa Z (Qa Z (Qa Z (QL Z Z Z (by omega) (QT (by omega)) Z (Za Z Z (Qy Z Z Z (Qa Z (QU Z Z (QI Z Z ?_))))))))))
    refine XW Z Z (fun _ h => XF Z Z Z h) Z (by simp) Z Z Z (by simp; omega) (by simp; omega) (Qa Z (hK _ ?_))
    refine Qi (Qe (kp5 Z Z Z Z Z) (QO fun K hK => Qa Z (Q2 Z Z (by first | exact Qs (by omega) (by omega) | rfl) (Qa Z (hK _ ?_)))))
    refine Qm (i + 1) ?_ ?_ ?_
    ·exact Q8 (l := [3, 4, 5, 12, 13]) (lH := [5, 24]) (kp5 rfl rfl rfl rfl rfl) (Qg rfl (Qg rfl Qr)) (by first | (rw [Qbu (by omega) h2]; done) | (rw [Qbu (by omega) h2]; rfl) | (rw [Qbu (by omega) h2, List.length_append]; rfl) | (simp [Qbu (by omega) h2]; done) | (simp [Qbu (by omega) h2]; omega) | rfl) (by first | (rw [Qbu (by omega) h2]; done) | (rw [Qbu (by omega) h2]; rfl) | (rw [Qbu (by omega) h2, List.map_append]; rfl) | (simp [Qbu (by omega) h2]; done) | rfl) rfl
    ·omega
    ·first | omega | (simp only; omega) | (dsimp only; omega)
  ·try rw [h1]
   try simp only [qA] at h1
   refine Zl (QN (QC (QJ ?_)))
   refine Yo () ?_ ?_
   ·exact le_trans (QlE (l := [5]) (lH := [5]) 24 12 (kp1 rfl) (Qg rfl Qr) rfl rfl rfl (by first | (simp; done) | (simp; omega)) rfl rfl rfl rfl) (Q8 (l := [5, 12]) (lH := [5]) (kp2 rfl rfl) (Qg rfl Qr) (by rw [List.take_of_length_le (show l.length <= i by omega)]; rfl) rfl rfl)
   ·exact trivial
 intro _ hJ
 try dsimp only
 refine Qf fun K hK => QH (cs := [_]) Z Z Z Z (Qa Z (QF (QcX hw (by rw [Qni]; omega)) Z Z (.inl Z) (Zd Z Z (Zd Z Z (Qa Z (Qa Z (hK _ _ (Qb (kp2 Z Z) ?_))))))))
 refine Qv ?_
 exact QV rfl rfl ⟨rfl, rfl⟩
end Go.Proofs
namespace M25
open Go Go.Abs M3
def IncOk (w : Qq) (l : List TermT) : Prop := l.Pairwise (fun a b => a.u < b.u) /\ ∀ t ∈ l, 0 <= t.u /\ t.u < w.length
theorem QhF : ∀ (l : List TermT) (a b : Int), l.Pairwise (fun x y => x.u < y.u) -> (∀ t ∈ l, a <= t.u /\ t.u < b) -> a <= b -> (l.length : Int) <= b - a
 | [], a, b, _, _, h => by simp; omega
 | t :: l, a, b, hp, hb, h => by
  rw [List.pairwise_cons] at hp
  have h1 := hb t (by simp)
  have := QhF l (t.u + 1) b hp.2 (fun s hs => ⟨by have := hp.1 s hs; omega, (hb s (by simp [hs])).2⟩) (by omega)
  simp only [List.length_cons]; omega
theorem IncOk.len {w : Qq} {l : List TermT} (h : IncOk w l) : l.length <= w.length := by
 have := QhF l 0 w.length h.1 h.2 (by omega)
 omega
theorem IncOk.nil (w : Qq) : IncOk w [] := ⟨List.Pairwise.nil, by simp⟩
theorem QjF (w : Qq) (ms : List Int) : ∀ n, (XM w ms n).Pairwise (fun a b => a.u < b.u) /\ ∀ t ∈ XM w ms n, 0 <= t.u /\ t.u < n
 | 0 => ⟨List.Pairwise.nil, by simp [XM]⟩
 | n + 1 => by
  obtain ⟨h1, h2⟩ := QjF w ms n
  rw [XM]
  split
  ·rw [List.append_nil]; exact ⟨h1, fun t ht => by have := h2 t ht; omega⟩
  ·refine ⟨List.pairwise_append.2 ⟨h1, List.pairwise_singleton _ _, fun a ha b hb => ?_⟩, fun t ht => ?_⟩
   ·simp only [List.mem_singleton] at hb; subst hb; exact (h2 a ha).2
   ·rcases List.mem_append.1 ht with ht | ht
    ·have := h2 t ht; omega
    ·simp only [List.mem_singleton] at ht; subst ht; simp only; omega
theorem Qgq {w : Qq} {l t : List TermT} (h : Qe6 w l = some t) : IncOk w t := by
 unfold Qe6 at h
 split at h
 ·unfold QjC at h
  split at h
  ·cases h
   obtain ⟨h1, h2⟩ := QjF w (XL (Qbh w) l) (XL (Qbh w) l).length
   refine ⟨h1, fun t ht => ?_⟩
   have := h2 t ht
   rw [Qf6] at this
   exact this
  ·cases h
 ·cases h
theorem IncOk.ne {w : Qq} {l : List TermT} (h : IncOk w l) : l.Pairwise (fun a b => a.u ≠ b.u) := h.1.imp fun h => by omega
theorem QgL {l : List TermT} (hl : l.Pairwise (fun a b => a.u ≠ b.u)) : ∀ n, (Ys l n).Pairwise (fun a b => a.u < b.u) /\ ∀ t ∈ Ys l n, t ∈ l /\ 0 <= t.u /\ t.u < n
 | 0 => ⟨List.Pairwise.nil, by simp [Ys]⟩
 | n + 1 => by
  obtain ⟨h1, h2⟩ := QgL hl n
  rw [Ys]
  have hf : ∀ t ∈ l.filter (fun t => decide (t.u = ((n : Nat) : Int))), t ∈ l /\ t.u = n := fun t ht => by
   simpa using List.mem_filter.1 ht
  refine ⟨List.pairwise_append.2 ⟨h1, ?_, fun a ha b hb => ?_⟩, fun t ht => ?_⟩
  ·refine List.Pairwise.imp_of_mem (fun {a b} ha hb hab => ?_) (hl.filter _)
   have := (hf a ha).2
   have := (hf b hb).2
   omega
  ·rw [(hf b hb).2]; exact (h2 a ha).2.2
  ·rcases List.mem_append.1 ht with ht | ht
   ·have := h2 t ht; exact ⟨this.1, by omega, by omega⟩
   ·have := hf t ht; exact ⟨this.1, by omega, by omega⟩
theorem QmJ {w : Qq} {l : List TermT} (hl : l.Pairwise (fun a b => a.u ≠ b.u)) (hb : ∀ t ∈ l, 0 <= t.u /\ t.u < w.length) : IncOk w (Qiu l) := by
 obtain ⟨h1, h2⟩ := QgL hl 48
 exact ⟨h1, fun t ht => hb t (h2 t ht).1⟩
theorem Qpr {w : Qq} {r x : RowT} (hx : IncOk w x.t) (h0 : 0 <= r.u) (h1 : r.u < w.length) : IncOk w (Qpq w r x).t := by
 refine QmJ (List.pairwise_cons.2 ⟨fun t ht => ?_, hx.ne.filter _⟩) fun t ht => ?_
 ·have := (List.mem_filter.1 ht).2
  simp only [Bool.not_eq_true', decide_eq_false_iff_not] at this
  exact fun e => this e.symm
 ·rcases List.mem_cons.1 ht with rfl | ht
  ·exact ⟨h0, h1⟩
  ·exact hx.2 t (List.mem_filter.1 ht).1
def Qba (w : Qq) (rows : List RowT) : Prop := ∀ x ∈ rows, IncOk w x.t
theorem QkP {w : Qq} {r : RowT} (hr : IncOk w r.t) (h0 : 0 <= r.u) (h1 : r.u < w.length) : ∀ {rows : List RowT}, Qba w rows -> Qba w (Xt w r rows)
 | [], _ => fun x hx => by
  simp only [Xt, List.mem_singleton] at hx; subst hx; exact hr
 | y :: rows, h => fun x hx => by
  rw [Xt] at hx
  split at hx
  ·rcases List.mem_cons.1 hx with rfl | hx
   ·exact Qpr (h y (by simp)) h0 h1
   ·exact h x (by simp [hx])
  ·rcases List.mem_cons.1 hx with rfl | hx
   ·exact h x (by simp)
   ·exact QkP hr h0 h1 (fun z hz => h z (by simp [hz])) x hx
theorem QiC (w : Qq) (r : RowT) : ∀ rows : List RowT, (Xt w r rows).length <= rows.length + 1
 | [] => by simp [Xt]
 | x :: rows => by
  have := QiC w r rows
  rw [Xt]; split <;> simp <;> omega
theorem QkF {r x : RowT} (h : ¬ x.k = r.k \/ ¬ x.u = r.u \/ ¬ Qhs x.t r.u = Qhs r.t r.u) : QkE r x = false := by
 simp only [QkE, Bool.and_eq_false_iff, decide_eq_false_iff_not]
 rcases h with h | h | h
 ·exact .inl (.inl h)
 ·exact .inl (.inr h)
 ·exact .inr h
theorem QnX {r x : RowT} (h1 : x.k = r.k) (h2 : x.u = r.u) (h3 : Qhs x.t r.u = Qhs r.t r.u) : QkE r x = true := by simp [QkE, h1, h2, h3]
theorem QgD {w : Qq} {r : RowT} {rows : List RowT} {i : Nat} (h : i < rows.length) (hn : QkE r rows[i] = false) (hi : Xt w r rows = rows.take i ++ Xt w r (rows.drop i)) : Xt w r rows = rows.take (i + 1) ++ Xt w r (rows.drop (i + 1)) := by
 rw [hi, List.drop_eq_getElem_cons h, Xt, if_neg (by rw [hn]; simp), List.take_succ_eq_append_getElem h, List.append_assoc]; rfl
theorem Ql6 {w : Qq} {r : RowT} {rows : List RowT} {i : Nat} (h : i < rows.length) (hn : QkE r rows[i] = true) (hi : Xt w r rows = rows.take i ++ Xt w r (rows.drop i)) : Xt w r rows = rows.set i (Qpq w r rows[i]) := by
 rw [hi, List.drop_eq_getElem_cons h, Xt, if_pos hn, List.set_eq_take_append_cons_drop, if_pos h]
theorem Ql7 {w : Qq} {r : RowT} {rows : List RowT} {i : Nat} (h : rows.length <= i) (hi : Xt w r rows = rows.take i ++ Xt w r (rows.drop i)) : Xt w r rows = rows ++ [r] := by
 rw [hi, List.drop_eq_nil_of_le h, List.take_of_length_le h, Xt]
theorem Ql1 {w : Qq} {u : Int} {p : Nat} {l : List (List WantT)} {rows : List RowT} {i : Nat} (h : i < l.length) : Y0 w u p (l.take (i + 1)) rows = match Yp w u p l[i] false with
  | some t => Xt w ⟨2, u, 0, 0, t⟩ (Y0 w u p (l.take i) rows)
  | none => Y0 w u p (l.take i) rows := by
 rw [List.take_succ_eq_append_getElem h, Y0, List.foldl_append]; rfl
theorem QjJ {w : Qq} {u : Int} {p : Nat} {l : List (List WantT)} {rows : List RowT} {i : Nat} (h : i < l.length) (ho : (Yp w u p l[i] false).isSome = true) : Y0 w u p (l.take (i + 1)) rows = Xt w ⟨2, u, 0, 0, (Yp w u p l[i] false).getD []⟩ (Y0 w u p (l.take i) rows) := by
 rw [Ql1 h]
 cases hc : Yp w u p l[i] false with
 | none => rw [hc] at ho; cases ho
 | some t => rfl
theorem Ql0 {w : Qq} {u : Int} {p : Nat} {l : List (List WantT)} {rows : List RowT} {i : Nat} (h : i < l.length) (ho : (Yp w u p l[i] false).isSome = false) : Y0 w u p (l.take (i + 1)) rows = Y0 w u p (l.take i) rows := by
 rw [Ql1 h]
 cases hc : Yp w u p l[i] false with
 | none => rfl
 | some t => rw [hc] at ho; cases ho
theorem Qnd {w : Qq} {u : Int} {p : Nat} {l : List WantT} {rows : List RowT} {i : Nat} (h : i < l.length) : QbV w u p (l.take (i + 1)) rows = match Yp w u p [l[i]] true with
  | some t => Xt w ⟨3, u, 0, 0, t⟩ (QbV w u p (l.take i) rows)
  | none => QbV w u p (l.take i) rows := by
 rw [List.take_succ_eq_append_getElem h, QbV, List.foldl_append]; rfl
theorem Qlj {w : Qq} {u : Int} {p : Nat} {l : List WantT} {rows : List RowT} {i : Nat} (h : i < l.length) (ho : (Yp w u p [l[i]] true).isSome = true) : QbV w u p (l.take (i + 1)) rows = Xt w ⟨3, u, 0, 0, (Yp w u p [l[i]] true).getD []⟩ (QbV w u p (l.take i) rows) := by
 rw [Qnd h]
 cases hc : Yp w u p [l[i]] true with
 | none => rw [hc] at ho; cases ho
 | some t => rfl
theorem Qnc {w : Qq} {u : Int} {p : Nat} {l : List WantT} {rows : List RowT} {i : Nat} (h : i < l.length) (ho : (Yp w u p [l[i]] true).isSome = false) : QbV w u p (l.take (i + 1)) rows = QbV w u p (l.take i) rows := by
 rw [Qnd h]
 cases hc : Yp w u p [l[i]] true with
 | none => rfl
 | some t => rw [hc] at ho; cases ho
theorem QnE {w : Qq} {u : Int} {p : Nat} {l : List WantT} {b : Bool} : IncOk w ((Yp w u p l b).getD []) := by
 cases hc : Yp w u p l b with
 | none => exact IncOk.nil w
 | some t => exact Qgq hc
theorem Qee {w : Qq} {u : Int} {p : Nat} (h0 : 0 <= u) (h1 : u < w.length) : ∀ {l : List (List WantT)} {rows : List RowT}, Qba w rows -> Qba w (Y0 w u p l rows) /\ (Y0 w u p l rows).length <= rows.length + l.length
 | [], rows, h => ⟨h, Nat.le_refl _⟩
 | x :: l, rows, h => by
  rw [Y0, List.foldl_cons]
  cases hc : Yp w u p x false with
  | none =>
   obtain ⟨q1, q2⟩ := Qee h0 h1 (l := l) h
   exact ⟨q1, Nat.le_trans q2 (by simp)⟩
  | some t =>
   obtain ⟨q1, q2⟩ := Qee (p := p) h0 h1 (l := l) (QkP (r := ⟨2, u, 0, 0, t⟩) (Qgq hc) h0 h1 h)
   have := QiC w ⟨2, u, 0, 0, t⟩ rows
   exact ⟨q1, Nat.le_trans q2 (by simp only [List.length_cons]; omega)⟩
theorem Qfp {w : Qq} {u : Int} {p : Nat} (h0 : 0 <= u) (h1 : u < w.length) : ∀ {l : List WantT} {rows : List RowT}, Qba w rows -> Qba w (QbV w u p l rows) /\ (QbV w u p l rows).length <= rows.length + l.length
 | [], rows, h => ⟨h, Nat.le_refl _⟩
 | x :: l, rows, h => by
  rw [QbV, List.foldl_cons]
  cases hc : Yp w u p [x] true with
  | none =>
   obtain ⟨q1, q2⟩ := Qfp h0 h1 (l := l) h
   exact ⟨q1, Nat.le_trans q2 (by simp)⟩
  | some t =>
   obtain ⟨q1, q2⟩ := Qfp (p := p) h0 h1 (l := l) (QkP (r := ⟨3, u, 0, 0, t⟩) (Qgq hc) h0 h1 h)
   have := QiC w ⟨3, u, 0, 0, t⟩ rows
   exact ⟨q1, Nat.le_trans q2 (by simp only [List.length_cons]; omega)⟩
theorem QhW {w : Qq} {u : Int} {cs : List CandT} {n : Nat} {rows : List RowT} (h : n < cs.length) : YQ w u cs (n + 1) rows = QbV w u n cs[n].bs (Y0 w u n cs[n].ns (YQ w u cs n rows)) := by
 rw [YQ, List.getElem?_eq_getElem h]
theorem QfX {w : Qq} {u : Int} {cs : List CandT} (h0 : 0 <= u) (h1 : u < w.length) (hc : ∀ c ∈ cs, c.ns.length <= 1000 /\ c.bs.length <= 1000) {rows : List RowT} (h : Qba w rows) : ∀ n, n <= cs.length -> Qba w (YQ w u cs n rows) /\ (YQ w u cs n rows).length <= rows.length + n * 2000
 | 0, _ => ⟨h, by simp [YQ]⟩
 | n + 1, hn => by
  obtain ⟨q1, q2⟩ := QfX h0 h1 hc h n (by omega)
  rw [QhW (by omega)]
  obtain ⟨q3, q4⟩ := Qee (p := n) h0 h1 (l := cs[n].ns) q1
  obtain ⟨q5, q6⟩ := Qfp (p := n) h0 h1 (l := cs[n].bs) q3
  have := hc cs[n] (List.getElem_mem _)
  exact ⟨q5, by omega⟩
theorem QkU {w : Qq} {n : Nat} (h : n < w.length) : Yy w (n + 1) = YQ w n w[n].cs w[n].cs.length (Yy w n) := by
 rw [Yy, List.getElem?_eq_getElem h]
theorem Qcz {w : Qq} (hw : WSm w) (h0 : 0 < w.length) : ∀ n, n <= w.length -> Qba w (Yy w n) /\ (Yy w n).length <= 1 + n * 32000
 | 0, _ => ⟨fun x hx => by
   simp only [Yy, List.mem_singleton] at hx; subst hx
   exact ⟨List.pairwise_singleton _ _, fun t ht => by simp only [List.mem_singleton] at ht; subst ht; exact ⟨Int.le_refl _, by simp only; omega⟩⟩, by simp [Yy]⟩
 | n + 1, hn => by
  obtain ⟨q1, q2⟩ := Qcz hw h0 n (by omega)
  rw [QkU (by omega)]
  obtain ⟨q3, q4⟩ := QfX (u := n) (by omega) (by omega) (fun c hc => hw.ns w[n] (List.getElem_mem _) c hc) q1 w[n].cs.length (Nat.le_refl _)
  have := hw.cs w[n] (List.getElem_mem _)
  refine ⟨q3, ?_⟩
  have h5 : w[n].cs.length * 2000 <= 16 * 2000 := Nat.mul_le_mul_right _ this
  omega
theorem Qso {w : Qq} (hw : WSm w) (h0 : 0 < w.length) : ∀ t ∈ mDB w, IncOk w t := fun t ht => by
 obtain ⟨r, hr, rfl⟩ := List.mem_map.1 ht
 exact (Qcz hw h0 w.length (Nat.le_refl _)).1 r hr
theorem Qrj {w : Qq} (hw : WSm w) (h0 : 0 < w.length) : (mDB w).length <= 1600000 := by
 have := (Qcz hw h0 w.length (Nat.le_refl _)).2
 have := hw.len
 rw [mDB, List.length_map, Qd3]; omega
theorem Qs5 {l : List TermT} : ∀ r ∈ l.map QeD, r.length = 2 := fun r hr => by obtain ⟨x, _, rfl⟩ := List.mem_map.1 hr; rfl
theorem Qs6 {l : List WantT} : ∀ r ∈ l.map Qff, r.length = 3 := fun r hr => by obtain ⟨x, _, rfl⟩ := List.mem_map.1 hr; rfl
theorem QmQ {l : List QK} : ∀ r ∈ l.map QdQ, r.length = 4 := fun r hr => by obtain ⟨x, _, rfl⟩ := List.mem_map.1 hr; rfl
theorem QoD {α : Type} {f : α -> List D} {l : List α} {i : Nat} (h : i < l.length) : ((l.map f).take ((i : Int) + 1).toNat).drop ((i : Nat) : Int).toNat = [l[i]].map f := by
 rw [QoL, Int.toNat_natCast, List.drop_take, show i + 1 - i = 1 by omega, List.drop_eq_getElem_cons (by simpa using h)]
 simp
theorem WSm.nsLen {w : Qq} (hw : WSm w) {u i : Nat} (hu : u < w.length) (hi : i < w[u].cs.length) : w[u].cs[i].ns.length <= 1000 := (hw.ns _ (List.getElem_mem _) _ (List.getElem_mem _)).1
theorem WSm.bsLen {w : Qq} (hw : WSm w) {u i : Nat} (hu : u < w.length) (hi : i < w[u].cs.length) : w[u].cs[i].bs.length <= 1000 := (hw.ns _ (List.getElem_mem _) _ (List.getElem_mem _)).2
theorem WSm.csLen {w : Qq} (hw : WSm w) {u : Nat} (hu : u < w.length) : w[u].cs.length <= 16 := hw.cs _ (List.getElem_mem _)
theorem Qri {w : Qq} (hw : WSm w) {u i : Nat} (hu : u < w.length) (hi : i <= w[u].cs.length) : Qba w (YQ w u w[u].cs i (Yy w u)) /\ (YQ w u w[u].cs i (Yy w u)).length <= 10000000 := by
 obtain ⟨q1, q2⟩ := Qcz hw (by omega) u (by omega)
 obtain ⟨q3, q4⟩ := QfX (u := u) (by omega) (by omega) (fun c hc => hw.ns w[u] (List.getElem_mem _) c hc) q1 i hi
 have := hw.csLen hu
 have := hw.len
 have h5 : i * 2000 <= 16 * 2000 := Nat.mul_le_mul_right _ (by omega)
 have h6 : u * 32000 <= 48 * 32000 := Nat.mul_le_mul_right _ (by omega)
 exact ⟨q3, by omega⟩
theorem Qio {w : Qq} (hw : WSm w) {u i : Nat} (hu : u < w.length) (hi : i < w[u].cs.length) (k : Nat) : Qba w (Y0 w u i (w[u].cs[i].ns.take k) (YQ w u w[u].cs i (Yy w u))) /\ (Y0 w u i (w[u].cs[i].ns.take k) (YQ w u w[u].cs i (Yy w u))).length <= 20000000 := by
 obtain ⟨q1, q2⟩ := Qri hw hu (Nat.le_of_lt hi)
 obtain ⟨q3, q4⟩ := Qee (u := u) (p := i) (by omega) (by omega) (l := w[u].cs[i].ns.take k) q1
 have := hw.nsLen hu hi
 have h2 : (w[u].cs[i].ns.take k).length <= w[u].cs[i].ns.length := List.length_take_le' ..
 exact ⟨q3, by omega⟩
theorem QlL {w : Qq} (hw : WSm w) {u i : Nat} (hu : u < w.length) (hi : i < w[u].cs.length) (k : Nat) : Qba w (QbV w u i (w[u].cs[i].bs.take k) (Y0 w u i w[u].cs[i].ns (YQ w u w[u].cs i (Yy w u)))) /\ (QbV w u i (w[u].cs[i].bs.take k) (Y0 w u i w[u].cs[i].ns (YQ w u w[u].cs i (Yy w u)))).length <= 30000000 := by
 obtain ⟨q1, q2⟩ := Qio hw hu hi w[u].cs[i].ns.length
 rw [List.take_length] at q1 q2
 obtain ⟨q3, q4⟩ := Qfp (u := u) (p := i) (by omega) (by omega) (l := w[u].cs[i].bs.take k) q1
 have := hw.bsLen hu hi
 have h2 : (w[u].cs[i].bs.take k).length <= w[u].cs[i].bs.length := List.length_take_le' ..
 exact ⟨q3, by omega⟩
end M25
namespace Go.Proofs
open Go Go.Abs M3 M25
set_option linter.unusedVariables false
set_option linter.unusedSimpArgs false
theorem Qax {w : Qq} (hw : WSm w) {r : RowT} {rows : List RowT} (hr : Qba w rows) (hrr : IncOk w r.t) (hl : rows.length <= 100000000) : OkH Tryz.prog 78 [Z6 w, .osl 500000 rows.length, .agg (Qnk r)] [(500000, ⟨(rows).map Qnk, 5, 89, true⟩)] (.osl 500000 (Xt w r rows).length) [(500000, ⟨(Xt w r rows).map Qnk, 5, 89, true⟩)] := by
 refine OkH.mv ZY Tryz.func78 QuJ (Nat.le_of_ble_eq_true Z) Z ?_
 show TW _ _ tf78.body _ _
 have hn := hw.len
 refine Qf fun K hK => Zz Z Z Z (Zz Z Z Z (Qa Z (hK _ _ (Qb (kp3 Z Z Z) ?_))))
 refine QE ?_ -- 0
 refine Qf fun K hK => Qa Z (hK _ _ (Qb (kp4 Z Z Z Z) ?_))
 refine QD ?_
 refine Zs (ι := Nat) (fun i => ⟨[(1, .osl 500000 rows.length), (3, .ref 3 0 0), (5, .ref 5 0 0), (7, .int .i64 i)], [(3, ⟨[[.sl ((w).map YX)]], 1, 26, true⟩), (5, ⟨[[.int .i64 (r).k, .int .i64 (r).u, .int .i64 (r).a, .int .i64 (r).b, ZN (r).t]], 5, 89, true⟩), (500000, ⟨(rows).map Qnk, 5, 89, true⟩)]⟩) (fun i => i <= rows.length /\ Xt w r rows = rows.take i ++ Xt w r (rows.drop i)) (fun i => rows.length - i) 0 ?_ ?_ ?_
 ·exact Q8 (l := [1, 3, 5, 7]) (lH := [3, 5, 500000]) (kp4 rfl rfl rfl rfl) (Qg rfl (Qg rfl (Qg rfl Qr))) rfl rfl rfl
 ·exact ⟨Nat.zero_le _, by simp⟩
 intro i hI
 try dsimp only
 refine QE ?_ -- 1
 refine Qf fun K hK => Qa Z (Qa Z (QS Z Z (Z9 Z Z (hK _ _ (Qb (kp5 Z Z Z Z Z) ?_)))))
 refine Qx Z (fun h1 => ?_) (fun h1 => ?_)
 ·try rw [h1]
  try simp only [qA] at h1
  refine Qw (Qe (kp4 Z Z Z Z) ?_)
  refine QE ?_ -- 2
  refine QD (Qf fun K hK => Qa Z (Qa Z (Y1 Z Z Z (by simp) (by omega) (by omega) Z (QH (cs := [_, _, _, _, _]) Z (Z8 Z (QT (by omega))) Z Z (ZF Z (Q5 Z Z Z Z Z Z Z Z (hK _ _ (Qb (kp5 Z Z Z Z Z) ?_))))))))
  refine Qf fun K hK => Qj Z Z (QR (ds0 := [20, 19, 18, 17, 16, 15, 14, 13, 12, 11, 10, 9, 8, 7, 6, 5, 4, 3, 2, 1, 0]) Z Z Z Z Z (Qj Z Z (QR (ds0 := [20, 19, 18, 17, 16, 15, 14, 13, 12, 11, 10, 9, 8, 7, 6, 5, 4, 3, 2, 1, 0]) Z Z Z Z Z ?_)))
  first | refine ZD rfl rfl ?_ | refine QfM rfl rfl ?_
  refine Qa Z ?_
  refine QB (g := 25) Z (fun h2 => ?_) (fun h2 => ?_)
  ·try rw [h2]
   try simp only [qA] at h2
   refine Qh Z (Qj Z Z (Qh Z (QR (ds0 := [14, 13, 12, 11, 10, 9, 8, 7, 6, 5, 4, 3, 2, 1, 0]) Z Z Z Z Z (Qh Z (Qj Z Z (Qh Z (QR (ds0 := [14, 13, 12, 11, 10, 9, 8, 7, 6, 5, 4, 3, 2, 1, 0]) Z Z Z Z Z (Qh Z ?_))))))))
   first | refine ZD rfl rfl ?_ | refine QfM rfl rfl ?_
   refine Ql Z Z (Qa Z ?_)
   refine QB (g := 32) Z (fun h3 => ?_) (fun h3 => ?_)
   ·try rw [h3]
    try simp only [qA] at h3
    refine Qh Z (Qj Z Z (Qh Z (QR (ds0 := [7, 1, 0]) Z Z Z Z Z (Qh Z (Qj Z Z (Qh Z (QR (ds0 := [7, 1, 0]) Z Z Z Z Z (Qh Z (QX (ds0 := [1, 0]) (Xm (Nat.le_trans (hr _ (List.getElem_mem (by omega))).len (by omega))) Z Z (.inl Z) Z Z (Qh Z (Qj Z Z ?_)))))))))))
    refine Qh Z (QR (ds0 := [2, 1, 0]) Z Z Z Z Z (Qh Z (Qj Z Z (Qh Z (QR (ds0 := [2, 1, 0]) Z Z Z Z Z (Qh Z (QX (ds0 := [1, 0]) (Xm (Nat.le_trans hrr.len (by omega))) Z Z (.inl Z) Z Z (Qh Z (QX (ds0 := [0]) (QcY (Nat.le_trans (QfV _ _) (Nat.le_trans (hr _ (List.getElem_mem (by omega))).len (by omega)))) Z Z (.inr Z) Z Z (Ql Z Z (hK _ _ (Qb (kp6 Z Z Z Z Z Z) ?_))))))))))))
    refine Qx Z (fun h4 => ?_) (fun h4 => ?_)
    ·try rw [h4]
     try simp only [qA] at h4
     refine Qf fun K hK => Qj Z Z (QR (ds0 := [8, 7, 1, 0]) Z Z Z Z Z (QP (ds0 := [16, 9, 8, 7, 1, 0]) (cs := [_]) Z Z Z Z Z Z (Qj Z Z (QR (ds0 := [16, 9, 8, 7, 1, 0]) Z Z Z Z Z (Qj Z Z (QR (ds0 := [16, 9, 8, 7, 1, 0]) Z Z Z Z Z (QX (ds0 := [9, 8, 7, 1, 0]) (Xa hw (Nat.le_trans (hr _ (List.getElem_mem (by omega))).len (by omega))) Z Z (.inr Z) Z Z (QP (ds0 := [10, 9, 8, 7, 1, 0]) (cs := [_]) Z Z Z Z Z Z (Qj Z Z (QR (ds0 := [10, 9, 8, 7, 1, 0]) Z Z Z Z Z ?_))))))))))
     refine Qj Z Z (QR (ds0 := [10, 9, 8, 7, 1, 0]) Z Z Z Z Z (QX (ds0 := [9, 8, 7, 1, 0]) (Xa hw (Nat.le_trans hrr.len (by omega))) Z Z (.inr Z) Z Z (QtN Z Z (QU Z Z (QI Z Z (Qj Z Z (QR (ds0 := [2, 1, 0]) Z Z Z Z Z (Qj Z Z (QR (ds0 := [2, 1, 0]) Z Z Z Z Z (QX (ds0 := [1, 0]) (Xm (Nat.le_trans (hr _ (List.getElem_mem (by omega))).len (by omega))) Z Z (.inl Z) Z Z (Qb3 (ds0 := [0]) Z Z (by simp [D.ids, D.sid, ZN]) ⟨rfl, Qs5, rfl⟩ Z Z (by simp) Z Z (by have q1 := QfV (rows[i]'(by omega)).t r.u; have q2 := (hr _ (List.getElem_mem (show i < rows.length by omega))).len; simp; omega) (by have q1 := QfV (rows[i]'(by omega)).t r.u; have q2 := (hr _ (List.getElem_mem (show i < rows.length by omega))).len; simp; omega) Z Z ?_)))))))))))
     refine Qa Z (hK _ _ (Qb (kp3 Z Z Z) ?_))
     refine Qqa (QlE (l := [1, 7]) (lH := [500000]) 67 9 (kp2 Z Z) (Qg Z Qr) Z Z Z (by first | (simp; done) | (simp; omega)) Z Z Z Z) (Qf fun K hK => Qa Z (Qa Z (Qa Z (QF (QbW (l := ⟨r.u, bor (Qd7 w (rows[i]'(by omega)).t r.u) (Qd7 w r.t r.u)⟩ :: Qhs (rows[i]'(by omega)).t r.u) (by have q1 := QfV (rows[i]'(by omega)).t r.u; have q2 := (hr _ (List.getElem_mem (show i < rows.length by omega))).len; simp; omega)) Z Z (.inl Z) (Y1 Z Z Z (by simp) (by omega) (by omega) Z (Qj Z Z (Q5 Z Z (QT (by omega)) Z Z Z Z Z (hK _ _ (Qb (kp1 Z) ?_)))))))))
     refine Qf fun K hK => Qa Z (Qa Z (hK _ _ (Qb (kp1 Z) ?_)))
     refine Qv (Qu (Qk (Q9 (Qu (Qk ?_)))))
     refine Xe Z ?_ (QeZ ?_)
     ·rw [Ql6 (i := i) (by omega) (QnX h2 h3 h4) hI.2]; simp [QmY, D.fz, D.fzS, Qfk, D.can, D.canS]
     ·rw [Ql6 (i := i) (by omega) (QnX h2 h3 h4) hI.2]; simp [lk, List.map_set, Qnk, Qpq, setRow, D.sid, ZN]
    ·try rw [h4]
     try simp only [qA] at h4
     refine Qw (Qi (Qe (kp4 Z Z Z Z) (QO fun K hK => Qa Z (Q2 Z Z (by first | exact Qs (by omega) (by omega) | rfl) (Qa Z (hK _ ?_))))))
     refine Qm (i + 1) ?_ ?_ ?_
     ·exact Q8 (l := [1, 3, 5, 7]) (lH := [3, 5, 500000]) (kp4 rfl rfl rfl rfl) (Qg rfl (Qg rfl (Qg rfl Qr))) rfl rfl rfl
     ·exact ⟨by omega, QgD (by omega) (QkF (by first | exact .inl h2 | exact .inr (.inl h3) | exact .inr (.inr h4))) hI.2⟩
     ·first | omega | (simp only; omega) | (dsimp only; omega)
   ·try rw [h3]
    try simp only [qA] at h3
    refine Qp Z (Qp Z (Qp Z (Qp Z (Qp Z (Qp Z (Qp Z (Qp Z (Qp Z (Qp Z (Qp Z (Ql Z Z ?_)))))))))))
    refine hK _ _ (Qb (kp6 Z Z Z Z Z Z) ?_)
    refine ZS Z (Qw (Qi (Qe (kp4 Z Z Z Z) (QO fun K hK => Qa Z (Q2 Z Z (by first | exact Qs (by omega) (by omega) | rfl) (Qa Z (hK _ ?_)))))))
    refine Qm (i + 1) ?_ ?_ ?_
    ·exact Q8 (l := [1, 3, 5, 7]) (lH := [3, 5, 500000]) (kp4 rfl rfl rfl rfl) (Qg rfl (Qg rfl (Qg rfl Qr))) rfl rfl rfl
    ·exact ⟨by omega, QgD (by omega) (QkF (by first | exact .inl h2 | exact .inr (.inl h3) | exact .inr (.inr h4))) hI.2⟩
    ·first | omega | (simp only; omega) | (dsimp only; omega)
  ·try rw [h2]
   try simp only [qA] at h2
   refine Qp Z (Qp Z (Qp Z (Qp Z (Qp Z (Ql Z Z (Qa Z (Qp Z (Qp Z (Qp Z (Qp Z (Qp Z ?_)))))))))))
   refine Qp Z (Qp Z (Qp Z (Qp Z (Qp Z (Qp Z (Ql Z Z (hK _ _ (Qb (kp6 Z Z Z Z Z Z) ?_))))))))
   refine ZS Z (Qw (Qi (Qe (kp4 Z Z Z Z) (QO fun K hK => Qa Z (Q2 Z Z (by first | exact Qs (by omega) (by omega) | rfl) (Qa Z (hK _ ?_)))))))
   refine Qm (i + 1) ?_ ?_ ?_
   ·exact Q8 (l := [1, 3, 5, 7]) (lH := [3, 5, 500000]) (kp4 rfl rfl rfl rfl) (Qg rfl (Qg rfl (Qg rfl Qr))) rfl rfl rfl
   ·exact ⟨by omega, QgD (by omega) (QkF (by first | exact .inl h2 | exact .inr (.inl h3) | exact .inr (.inr h4))) hI.2⟩
   ·first | omega | (simp only; omega) | (dsimp only; omega)
 ·try rw [h1]
  try simp only [qA] at h1
  refine Zl (QN (QC (QJ (Qe (kp2 Z Z) (Qf fun K hK => Qa Z (QH (cs := [_, _, _, _, _]) Z Z Z Z (QI Z Z (XW Z Z (fun _ h => XF Z Z Z h) Z (by simp) Z Z Z (by simp; omega) (by simp; omega) (Qa Z (hK _ _ (Qb (kp1 Z) ?_)))))))))))
  refine Qv ?_
  refine Xe Z ?_ (QeZ ?_)
  ·rw [Ql7 (i := i) (by omega) hI.2]; simp [QmY, D.fz, D.fzS, Qfk, D.can, D.canS]
  ·rw [Ql7 (i := i) (by omega) hI.2]; simp [lk, Qnk, D.sid, ZN]
theorem Qdi {w : Qq} (hw : WSm w) : Ok Tryz.prog 46 [Z6 w] (Qsa (Qd3 w)) := by
 refine Ok.ofT ZY Tryz.func46 Qui (Nat.le_of_ble_eq_true Z) ?_
 show TW _ _ tf46.body _ _
 have hn := hw.len
 refine Qf fun K hK => Zz Z Z Z (Qa Z (hK _ _ (Qb (kp1 Z) ?_)))
 refine Qf fun K hK => QU Z Z (QI Z Z (QU Z Z (QI Z Z (Qa Z (hK _ _ (Qb (kp2 Z Z) ?_))))))
 refine QE ?_ -- 0
 refine Qf fun K hK => Qa Z (hK _ _ (Qb (kp3 Z Z Z) ?_))
 refine QD ?_
 refine Zs (ι := Nat) (fun j => ⟨[(1, .ref 1 0 0), (3, .osl 3 (Yy w j).length), (4, .int .i64 j)], [(1, ⟨[[.sl ((w).map YX)]], 1, 26, true⟩), (3, ⟨(Yy w j).map Qnk, 5, 89, true⟩)]⟩) (fun j => j <= w.length) (fun j => w.length - j) 0 ?_ ?_ ?_
 ·exact le_trans (Qjv 14 _ (by decide)) (le_trans (Qge (k := 16) (b := ⟨[[.int .i64 1, .int .i64 0, .int .i64 0, .int .i64 0, .sl [[.int .i64 0, .int .i64 1]]]], 5, 89, false⟩) rfl (by simp) (by simp [D.sid])) (le_trans (QkB (l := [1, 4]) (lH := [1]) 16 3 3 (kp2 rfl rfl) (Qg rfl Qr) rfl rfl rfl rfl rfl rfl rfl) (Q8 (l := [1, 3, 4]) (lH := [1, 3]) (kp3 rfl rfl rfl) (Qg rfl (Qg rfl Qr)) rfl rfl rfl)))
 ·exact Nat.zero_le _
 intro j hU
 try dsimp only
 refine QE ?_ -- 1
 refine Qf fun K hK => Qa Z (Qj Z Z (Qy Z Z Z (QS Z Z (Z9 Z Z (hK _ _ (Qb (kp4 Z Z Z Z) ?_))))))
 refine Qx Z (fun h1 => ?_) (fun h1 => ?_)
 ·try rw [h1]
  try simp only [qA] at h1
  refine Qw (Qe (kp3 Z Z Z) ?_)
  refine QE ?_ -- 2
  refine QD (Qf fun K hK => Qa Z (hK _ _ (Qb (kp4 Z Z Z Z) ?_)))
  refine QD ?_
  refine Zs (ι := Nat) (fun i => ⟨[(1, .ref 1 0 0), (3, .osl 3 (YQ w j (w[j]'(by omega)).cs i (Yy w j)).length), (4, .int .i64 j), (5, .int .i64 i)], [(1, ⟨[[.sl ((w).map YX)]], 1, 26, true⟩), (3, ⟨(YQ w j (w[j]'(by omega)).cs i (Yy w j)).map Qnk, 5, 89, true⟩)]⟩) (fun i => i <= (w[j]'(by omega)).cs.length) (fun i => (w[j]'(by omega)).cs.length - i) 0 ?_ ?_ ?_
  ·exact Q8 (l := [1, 3, 4, 5]) (lH := [1, 3]) (kp4 rfl rfl rfl rfl) (Qg rfl (Qg rfl Qr)) rfl rfl rfl
  ·exact Nat.zero_le _
  intro i hI
  have hcs := hw.csLen (u := j) (by omega)
  try dsimp only
  refine QE ?_ -- 3
  refine Qf fun K hK => Qa Z (Qj Z Z (Qy Z Z Z (Qa Z (QL Z Z Z (by omega) (QT (by omega)) Z (Za Z Z (Qy Z Z Z (QS Z Z (Z9 Z Z (hK _ _ (Qb (kp5 Z Z Z Z Z) ?_))))))))))
  refine Qx Z (fun h2 => ?_) (fun h2 => ?_)
  ·try rw [h2]
   try simp only [qA] at h2
   refine Qw (Qe (kp4 Z Z Z Z) ?_)
   refine QE ?_ -- 4
   refine QD (Qf fun K hK => Qj Z Z (Qy Z Z Z (Qa Z (QL Z Z Z (by omega) (QT (by omega)) Z (Za Z Z (Qy Z Z Z (Qa Z (QL Z Z Z (by omega) (QT (by omega)) Z (QH (cs := [_, _, _, _, _, _, _, _]) Z Z Z Z (ZF Z ?_))))))))))
   refine Q5 Z Z Z Z Z Z Z Z (hK _ _ (Qb (kp5 Z Z Z Z Z) ?_))
   refine QE ?_ -- 5
   refine Qf fun K hK => Qa Z (hK _ _ (Qb (kp6 Z Z Z Z Z Z) ?_))
   refine QD ?_
   refine Zs (ι := Nat) (fun k => ⟨[(1, .ref 1 0 0), (3, .osl 3 (Y0 w j i (((w[j]'(by omega)).cs[i]'(by omega)).ns.take k) (YQ w j (w[j]'(by omega)).cs i (Yy w j))).length), (4, .int .i64 j), (5, .int .i64 i), (6, .ref 6 0 0), (7, .int .i64 k)], [(1, ⟨[[.sl ((w).map YX)]], 1, 26, true⟩), (3, ⟨(Y0 w j i (((w[j]'(by omega)).cs[i]'(by omega)).ns.take k) (YQ w j (w[j]'(by omega)).cs i (Yy w j))).map Qnk, 5, 89, true⟩), (6, ⟨[Qq4 ((w[j]'(by omega)).cs[i]'(by omega))], 8, 71, true⟩)]⟩) (fun k => k <= ((w[j]'(by omega)).cs[i]'(by omega)).ns.length) (fun k => ((w[j]'(by omega)).cs[i]'(by omega)).ns.length - k) 0 ?_ ?_ ?_
   ·exact Q8 (l := [1, 3, 4, 5, 6, 7]) (lH := [1, 3, 6]) (kp6 rfl rfl rfl rfl rfl rfl) (Qg rfl (Qg rfl (Qg rfl Qr))) rfl rfl rfl
   ·exact Nat.zero_le _
   intro k hK1
   have hnl := hw.nsLen (u := j) (i := i) (by omega) (by omega)
   try dsimp only
   refine QE ?_ -- 6
   refine Qf fun K hK => Qa Z (Qj Z Z (Qy Z Z Z (QS Z Z (Z9 Z Z (hK _ _ (Qb (kp7 Z Z Z Z Z Z Z) ?_))))))
   refine Qx Z (fun h3 => ?_) (fun h3 => ?_)
   ·try rw [h3]
    try simp only [qA] at h3
    refine Qw (Qe (kp6 Z Z Z Z Z Z) ?_)
    refine QE ?_ -- 7
    refine QD (Qf fun K hK => QP (ds0 := [5, 4, 3, 2, 1, 0]) (cs := [_]) Z Z Z Z Z Z (Qa Z (Qa Z (Qj Z Z (QR (ds0 := [7, 6, 5, 4, 3, 2, 1, 0]) Z Z Z Z Z (Qa Z (QL Z Z Z (by omega) (QT (by omega)) Z (QR (ds0 := [5, 4, 3, 2, 1, 0]) Z Z Z Z Z (QX (ds0 := [4, 3, 2, 1, 0]) (XI hw (p := i) (by omega) (Nat.le_trans (hw.nl _ (List.getElem_mem (by omega)) _ (List.getElem_mem (by omega)) _ (List.getElem_mem (by omega))) (by omega)) (hw.nw _ (List.getElem_mem (by omega)) _ (List.getElem_mem (by omega)) _ (List.getElem_mem (by omega)))) Z Z (.inl Z) Z Z (Qa Z ?_))))))))))
    refine Zd Z Z (Zd Z Z (Qa Z (Qa Z (hK _ _ (Qb (kp8 Z Z Z Z Z Z Z Z) ?_)))))
    refine Qf fun K hK => Qa Z (hK _ _ (Qb (kp8 Z Z Z Z Z Z Z Z) ?_))
    refine Qx Z (fun h4 => ?_) (fun h4 => ?_)
    ·try rw [h4]
     try simp only [qA] at h4
     refine QO fun K hK => QH (cs := [_]) Z Z Z Z (Qa Z (Qa Z (Qa Z (QU Z Z (Qm6 (Qlm (k := 3) Z Z Z (by decide) Z (by decide) (by simp [D.ids, D.sid, ZN]) ⟨.osl 3 (Y0 w j i (((w[j]'(by omega)).cs[i]'(by omega)).ns.take k) (YQ w j (w[j]'(by omega)).cs i (Yy w j))).length, by simp, by simp [D.ids, D.sid]⟩ Z Z (Qax hw (r := ⟨2, j, 0, 0, (Yp w j i (((w[j]'(by omega)).cs[i]'(by omega)).ns[k]'(by omega)) false).getD []⟩) (Qio hw (by omega) (by omega) _).1 QnE (Nat.le_trans (Qio hw (by omega) (by omega) _).2 (by omega)))) (Qa Z (hK _ ?_)))))))
     refine Qi (Qe (kp6 Z Z Z Z Z Z) (QO fun K hK => Qa Z (Q2 Z Z (by first | exact Qs (by omega) (by omega) | rfl) (Qa Z (hK _ ?_)))))
     refine Qm (k + 1) ?_ ?_ ?_
     ·exact le_trans (QkB (l := [1, 4, 5, 6, 7]) (lH := [1, 6]) 69 3 3 (kp5 rfl rfl rfl rfl rfl) (Qg rfl (Qg rfl Qr)) rfl rfl rfl rfl rfl rfl rfl) (Q8 (l := [1, 3, 4, 5, 6, 7]) (lH := [1, 3, 6]) (kp6 rfl rfl rfl rfl rfl rfl) (Qg rfl (Qg rfl (Qg rfl Qr))) (by rw [QjJ (by omega) h4] <;> rfl) (by rw [QjJ (by omega) h4] <;> rfl) rfl)
     ·omega
     ·first | omega | (simp only; omega) | (dsimp only; omega)
    ·try rw [h4]
     try simp only [qA] at h4
     refine Qw (Qi (Qe (kp6 Z Z Z Z Z Z) (QO fun K hK => Qa Z (Q2 Z Z (by first | exact Qs (by omega) (by omega) | rfl) (Qa Z (hK _ ?_))))))
     refine Qm (k + 1) ?_ ?_ ?_
     ·exact Q8 (l := [1, 3, 4, 5, 6, 7]) (lH := [1, 3, 6]) (kp6 rfl rfl rfl rfl rfl rfl) (Qg rfl (Qg rfl (Qg rfl Qr))) (by rw [Ql0 (by omega) h4] <;> rfl) (by rw [Ql0 (by omega) h4] <;> rfl) rfl
     ·omega
     ·first | omega | (simp only; omega) | (dsimp only; omega)
   ·try rw [h3]
    try simp only [qA] at h3
    refine Zl (QN (QC (QJ (Qe (kp5 Z Z Z Z Z) (Qf fun K hK => Qa Z (hK _ _ (Qb (kp6 Z Z Z Z Z Z) ?_)))))))
    refine QD ?_
    refine Zs (ι := Nat) (fun m => ⟨[(1, .ref 1 0 0), (3, .osl 3 (QbV w j i (((w[j]'(by omega)).cs[i]'(by omega)).bs.take m) (Y0 w j i ((w[j]'(by omega)).cs[i]'(by omega)).ns (YQ w j (w[j]'(by omega)).cs i (Yy w j)))).length), (4, .int .i64 j), (5, .int .i64 i), (6, .ref 6 0 0), (10, .int .i64 m)], [(1, ⟨[[.sl ((w).map YX)]], 1, 26, true⟩), (3, ⟨(QbV w j i (((w[j]'(by omega)).cs[i]'(by omega)).bs.take m) (Y0 w j i ((w[j]'(by omega)).cs[i]'(by omega)).ns (YQ w j (w[j]'(by omega)).cs i (Yy w j)))).map Qnk, 5, 89, true⟩), (6, ⟨[Qq4 ((w[j]'(by omega)).cs[i]'(by omega))], 8, 71, true⟩)]⟩) (fun m => m <= ((w[j]'(by omega)).cs[i]'(by omega)).bs.length) (fun m => ((w[j]'(by omega)).cs[i]'(by omega)).bs.length - m) 0 ?_ ?_ ?_
    ·exact Q8 (l := [1, 3, 4, 5, 6, 10]) (lH := [1, 3, 6]) (kp6 rfl rfl rfl rfl rfl rfl) (Qg rfl (Qg rfl (Qg rfl Qr))) (by rw [List.take_of_length_le (show ((w[j]'(by omega)).cs[i]'(by omega)).ns.length <= k by omega)] <;> rfl) (by rw [List.take_of_length_le (show ((w[j]'(by omega)).cs[i]'(by omega)).ns.length <= k by omega)] <;> rfl) rfl
    ·exact Nat.zero_le _
    intro m hM
    have hbl := hw.bsLen (u := j) (i := i) (by omega) (by omega)
    try dsimp only
    refine QE ?_ -- 8
    refine Qf fun K hK => Qa Z (Qj Z Z (Qy Z Z Z (QS Z Z (Z9 Z Z (hK _ _ (Qb (kp7 Z Z Z Z Z Z Z) ?_))))))
    refine Qx Z (fun h5 => ?_) (fun h5 => ?_)
    ·try rw [h5]
     try simp only [qA] at h5
     refine Qw (Qe (kp6 Z Z Z Z Z Z) ?_)
     refine QE ?_ -- 9
     refine QD (Qf fun K hK => QP (ds0 := [5, 4, 3, 2, 1, 0]) (cs := [_]) rfl rfl rfl rfl rfl rfl (Qa rfl (Qa rfl (Qj rfl rfl (QR (ds0 := [6, 5, 4, 3, 2, 1, 0]) rfl rfl rfl rfl rfl (Qa rfl (Qa rfl (Q2 rfl rfl (by first | exact Qs (by omega) (by omega) | rfl) (QfN rfl rfl rfl rfl (by omega) (by omega) (by simp; omega) Qs6 (QoD (by omega)) (QX (ds0 := [4, 3, 2, 1, 0]) (XI hw (p := i) (l := [((w[j]'(by omega)).cs[i]'(by omega)).bs[m]'(by omega)]) (by omega) (by simp) (by intro x hx; simp only [List.mem_singleton] at hx; subst hx; exact hw.bw _ (List.getElem_mem (by omega)) _ (List.getElem_mem (by omega)) _ (List.getElem_mem (by omega)))) rfl rfl (.inl rfl) rfl rfl ?_))))))))))
     refine Qa Z (Zd Z Z (Zd Z Z (Qa Z (Qa Z (hK _ _ (Qb (kp8 Z Z Z Z Z Z Z Z) ?_))))))
     refine Qf fun K hK => Qa Z (hK _ _ (Qb (kp8 Z Z Z Z Z Z Z Z) ?_))
     refine Qx Z (fun h6 => ?_) (fun h6 => ?_)
     ·try rw [h6]
      try simp only [qA] at h6
      refine QO fun K hK => QH (cs := [_]) Z Z Z Z (Qa Z (Qa Z (Qa Z (QU Z Z (Qm6 (Qlm (k := 3) Z Z Z (by decide) Z (by decide) (by simp [D.ids, D.sid, ZN]) ⟨.osl 3 (QbV w j i (((w[j]'(by omega)).cs[i]'(by omega)).bs.take m) (Y0 w j i ((w[j]'(by omega)).cs[i]'(by omega)).ns (YQ w j (w[j]'(by omega)).cs i (Yy w j)))).length, by simp, by simp [D.ids, D.sid]⟩ Z Z (Qax hw (r := ⟨3, j, 0, 0, (Yp w j i [((w[j]'(by omega)).cs[i]'(by omega)).bs[m]'(by omega)] true).getD []⟩) (QlL hw (by omega) (by omega) _).1 QnE (Nat.le_trans (QlL hw (by omega) (by omega) _).2 (by omega)))) (Qa Z (hK _ ?_)))))))
      refine Qi (Qe (kp6 Z Z Z Z Z Z) (QO fun K hK => Qa Z (Q2 Z Z (by first | exact Qs (by omega) (by omega) | rfl) (Qa Z (hK _ ?_)))))
      refine Qm (m + 1) ?_ ?_ ?_
      ·exact le_trans (QkB (l := [1, 4, 5, 6, 10]) (lH := [1, 6]) 96 3 3 (kp5 rfl rfl rfl rfl rfl) (Qg rfl (Qg rfl Qr)) rfl rfl rfl rfl rfl rfl rfl) (Q8 (l := [1, 3, 4, 5, 6, 10]) (lH := [1, 3, 6]) (kp6 rfl rfl rfl rfl rfl rfl) (Qg rfl (Qg rfl (Qg rfl Qr))) (by rw [Qlj (by omega) h6] <;> rfl) (by rw [Qlj (by omega) h6] <;> rfl) rfl)
      ·omega
      ·first | omega | (simp only; omega) | (dsimp only; omega)
     ·try rw [h6]
      try simp only [qA] at h6
      refine Qw (Qi (Qe (kp6 Z Z Z Z Z Z) (QO fun K hK => Qa Z (Q2 Z Z (by first | exact Qs (by omega) (by omega) | rfl) (Qa Z (hK _ ?_))))))
      refine Qm (m + 1) ?_ ?_ ?_
      ·exact Q8 (l := [1, 3, 4, 5, 6, 10]) (lH := [1, 3, 6]) (kp6 rfl rfl rfl rfl rfl rfl) (Qg rfl (Qg rfl (Qg rfl Qr))) (by rw [Qnc (by omega) h6] <;> rfl) (by rw [Qnc (by omega) h6] <;> rfl) rfl
      ·omega
      ·first | omega | (simp only; omega) | (dsimp only; omega)
    ·try rw [h5]
     try simp only [qA] at h5
     refine Zl (QN (QC (QJ (Qi (Qe (kp4 Z Z Z Z) (QO fun K hK => Qa Z (Q2 Z Z (by first | exact Qs (by omega) (by omega) | rfl) (Qa Z (hK _ ?_)))))))))
     refine Qm (i + 1) ?_ ?_ ?_
     ·exact Q8 (l := [1, 3, 4, 5]) (lH := [1, 3]) (kp4 rfl rfl rfl rfl) (Qg rfl (Qg rfl Qr)) (by rw [QhW (by omega), List.take_of_length_le (show ((w[j]'(by omega)).cs[i]'(by omega)).bs.length <= m by omega)] <;> rfl) (by rw [QhW (by omega), List.take_of_length_le (show ((w[j]'(by omega)).cs[i]'(by omega)).bs.length <= m by omega)] <;> rfl) rfl
     ·omega
     ·first | omega | (simp only; omega) | (dsimp only; omega)
  ·try rw [h2]
   try simp only [qA] at h2
   refine Zl (QN (QC (QJ (Qi (Qe (kp3 Z Z Z) (QO fun K hK => Qa Z (Q2 Z Z (by first | exact Qs (by omega) (by omega) | rfl) (Qa Z (hK _ ?_)))))))))
   refine Qm (j + 1) ?_ ?_ ?_
   ·exact Q8 (l := [1, 3, 4]) (lH := [1, 3]) (kp3 rfl rfl rfl) (Qg rfl (Qg rfl Qr)) (by rw [QkU (by omega), show (w[j]'(by omega)).cs.length = i by omega] <;> rfl) (by rw [QkU (by omega), show (w[j]'(by omega)).cs.length = i by omega] <;> rfl) rfl
   ·omega
   ·first | omega | (simp only; omega) | (dsimp only; omega)
 ·try rw [h1]
  try simp only [qA] at h1
  refine Zl (QN (QC (QJ (Qe (kp1 Z) (Qf fun K hK => Qa Z (Qa Z (hK _ _ (Qb (kp1 Z) ?_))))))))
  refine Qv ?_
  exact QbJ rfl rfl rfl (by simp) (by rw [Qd3, show w.length = j by omega] <;> rfl)
end Go.Proofs
namespace M25
open Go Go.Abs M3
/-! ### Bits of numbers -/
theorem QiO (e : Int) : IntKind.i64.wrap e = (BitVec.ofInt 64 e).toInt := by
 have hb : (BitVec.ofInt 64 e).toInt = if e % 18446744073709551616 < 9223372036854775808 then e % 18446744073709551616 else e % 18446744073709551616 - 18446744073709551616 := by
  rw [BitVec.toInt_ofInt]; rfl
 rw [hb]
 unfold IntKind.wrap
 simp only [IntKind.bits, IntKind.signed, Bool.true_and]
 split
 ·rename_i h
  have := of_decide_eq_true h
  split <;> omega
 ·rename_i h
  have : ¬ (e % 2 ^ 64 >= 2 ^ (64 - 1)) := fun hh => h (decide_eq_true hh)
  split <;> omega
theorem Qgy (b : BitVec 64) : BitVec.ofInt 64 (b.toNat : Int) = b := by
 rw [BitVec.ofInt_natCast, BitVec.ofNat_toNat, BitVec.setWidth_eq]
theorem Qqg (x y : Int) : BitVec.ofInt 64 (XG x y) = BitVec.ofInt 64 x &&& BitVec.ofInt 64 y := by
 show BitVec.ofInt 64 (IntKind.i64.wrap ((BitVec.ofInt 64 x &&& BitVec.ofInt 64 y).toNat : Int)) = _
 rw [QiO, BitVec.ofInt_toInt, Qgy]
theorem Qqh (x y : Int) : BitVec.ofInt 64 (QiR x y) = BitVec.ofInt 64 x &&& ~~~ BitVec.ofInt 64 y := by
 show BitVec.ofInt 64 (IntKind.i64.wrap ((BitVec.ofInt 64 x &&& ~~~ BitVec.ofInt 64 y).toNat : Int)) = _
 rw [QiO, BitVec.ofInt_toInt, Qgy]
theorem Qif {x : Int} (h : I64 x) : IntKind.i64.wrap x = x := Qs h.1 h.2
theorem Qlk {x : Int} (h : I64 x) : (BitVec.ofInt 64 x).toInt = x := by rw [<- QiO, Qif h]
theorem Qid (x y : Int) : I64 (XG x y) := QgO _
theorem Qie (x y : Int) : I64 (QiR x y) := QgO _
def tb (x : Int) (i : Nat) : Bool := (BitVec.ofInt 64 x).getLsbD i
theorem Qj7 (x y : Int) (i : Nat) : tb (XG x y) i = (tb x i && tb y i) := by rw [tb, Qqg, BitVec.getLsbD_and]; rfl
theorem Qme (x y : Int) {i : Nat} : tb (QiR x y) i = (tb x i && !tb y i) := by
 rw [tb, Qqh, BitVec.getLsbD_and, BitVec.getLsbD_not]
 by_cases h : i < 64
 ·simp [h, tb]
 ·simp [tb, BitVec.getLsbD_of_ge _ i (by omega : 64 <= i)]
theorem QmW (x : Int) {i : Nat} (h : 64 <= i) : tb x i = false := BitVec.getLsbD_of_ge _ i h
theorem QhJ {x y : Int} (hx : I64 x) (hy : I64 y) (h : ∀ i, tb x i = tb y i) : x = y := by
 rw [<- Qlk hx, <- Qlk hy]
 congr 1
 exact BitVec.eq_of_getLsbD_eq fun i _ => h i
theorem Qk3 (i : Nat) : tb 0 i = false := by
 show (BitVec.ofInt 64 0).getLsbD i = false
 rw [show BitVec.ofInt 64 0 = 0#64 from rfl, BitVec.getLsbD_zero]
theorem Qdp {x : Int} (hx : I64 x) : x = 0 ↔ ∀ i, tb x i = false := by
 constructor
 ·rintro rfl i; exact Qk3 i
 ·intro h; exact QhJ hx ⟨by omega, by omega⟩ fun i => by rw [h i, Qk3]
theorem QhK (n : Nat) {i : Nat} (h : i < 64) : tb (n : Int) i = n.testBit i := by
 rw [tb, BitVec.ofInt_natCast, BitVec.getLsbD_ofNat]; simp [h]
theorem Qde {k : Nat} (hk : k < 64) (i : Nat) : tb ((2 : Int) ^ k) i = decide (i = k) := by
 have e : ((2 ^ k : Nat) : Int) = (2 : Int) ^ k := by simp
 by_cases h : i < 64
 ·rw [<- e, QhK _ h, Nat.testBit_two_pow]
  exact decide_eq_decide.2 eq_comm
 ·rw [QmW _ (by omega)]; exact (decide_eq_false (by omega)).symm
theorem Qdz (x m : Int) : IntKind.i64.wrap (x - XG x m) = QiR x m := by
 have h : BitVec.ofInt 64 (x - XG x m) = BitVec.ofInt 64 x &&& ~~~ BitVec.ofInt 64 m := by
  rw [Int.sub_eq_add_neg, BitVec.ofInt_add, BitVec.ofInt_neg, <- BitVec.sub_eq_add_neg, Qqg]
  generalize BitVec.ofInt 64 x = a
  generalize BitVec.ofInt 64 m = b
  have h1 : (a &&& ~~~b) + (a &&& b) = a := by
   rw [BitVec.add_eq_or_of_and_eq_zero]
   ·ext i hi; simp; cases a[i] <;> cases b[i] <;> rfl
   ·ext i hi; simp
    cases a[i] <;> cases b[i] <;> simp
  exact (BitVec.sub_eq_iff_eq_add).2 h1.symm
 have e : QiR x m = (BitVec.ofInt 64 (QiR x m)).toInt := (Qlk (Qie x m)).symm
 rw [e, QiO, h, Qqh]
theorem Qfn {x m : Int} : XG x m = 0 ↔ ∀ i, tb x i = true -> tb m i = false := by
 rw [Qdp (Qid x m)]
 refine forall_congr' fun i => ?_
 rw [Qj7]; cases tb x i <;> cases tb m i <;> simp
theorem not_zero {x m : Int} : QiR x m = 0 ↔ ∀ i, tb x i = true -> tb m i = true := by
 rw [Qdp (Qie x m)]
 refine forall_congr' fun i => ?_
 rw [Qme]; cases tb x i <;> cases tb m i <;> simp
theorem Xp {x m : Int} (hx : I64 x) : XG x m = x ↔ ∀ i, tb x i = true -> tb m i = true := by
 constructor
 ·intro h i hi
  have := congrArg (fun z => tb z i) h
  simp only [Qj7, hi, Bool.true_and] at this
  exact this
 ·intro h
  refine QhJ (Qid x m) hx fun i => ?_
  rw [Qj7]
  cases hx2 : tb x i
  ·rfl
  ·rw [h i hx2]; rfl
theorem Qe8 {x m : Int} (hx : I64 x) : QiR x m = x ↔ ∀ i, tb x i = true -> tb m i = false := by
 constructor
 ·intro h i hi
  have := congrArg (fun z => tb z i) h
  simp only [Qme, hi, Bool.true_and] at this
  simpa using this
 ·intro h
  refine QhJ (Qie x m) hx fun i => ?_
  rw [Qme]
  cases hx2 : tb x i
  ·rfl
  ·rw [h i hx2]; rfl
def Lo (x : Int) : Prop := 0 <= x /\ x < 131072
theorem Lo.i64 {x : Int} (h : Lo x) : I64 x := ⟨by have := h.1; omega, by have := h.2; omega⟩
theorem Lo.hi {x : Int} (h : Lo x) {i : Nat} (hi : 17 <= i) : tb x i = false := by
 obtain ⟨n, rfl⟩ := Int.eq_ofNat_of_zero_le h.1
 by_cases h6 : i < 64
 ·rw [QhK _ h6, Nat.testBit_lt_two_pow]
  have h1 : (2 : Nat) ^ 17 <= 2 ^ i := Nat.pow_le_pow_right (by omega) hi
  have h2 : (2 : Nat) ^ 17 = 131072 := by decide
  have := h.2
  omega
 ·exact QmW _ (by omega)
theorem Lo.of {x : Int} (hx : I64 x) (h : ∀ i, 17 <= i -> tb x i = false) : Lo x := by
 have hb : (BitVec.ofInt 64 x).toNat < 2 ^ 17 := by
  refine Nat.lt_pow_two_of_testBit _ fun i hi => ?_
  exact h i hi
 have h2 : (2 : Nat) ^ 17 = 131072 := by decide
 have e := Qlk hx
 rw [BitVec.toInt_eq_toNat_of_lt (by omega)] at e
 exact ⟨by omega, by omega⟩
theorem QlK {k : Nat} (h : k <= 16) : Lo ((2 : Int) ^ k) := by
 have := QpJ (n := k) (by omega)
 refine ⟨by omega, ?_⟩
 have h1 : (2 : Nat) ^ k <= 2 ^ 16 := Nat.pow_le_pow_right (by omega) h
 have h2 : (2 : Nat) ^ 16 = 65536 := by decide
 have h3 : ((2 ^ k : Nat) : Int) = (2 : Int) ^ k := by simp
 omega
theorem Qrh (w : Qq) (u : Int) : Lo (YC w u) := ⟨(Qip w u).1, by have := (Qip w u).2; omega⟩
theorem QpZ {x : Int} (hx : I64 x) (m : Int) : Qdv x m = QaX x m := by
 unfold QaX Qdv
 have : (QaJ .andNot .i64 x m = 0) ↔ (QaJ .and .i64 x m = x) := (not_zero (x := x) (m := m)).trans (Xp hx).symm
 by_cases h : QaJ .andNot .i64 x m = 0
 ·rw [if_pos h, if_pos (this.1 h)]
 ·rw [if_neg h, if_neg (fun e => h (this.2 e))]
theorem QhT {x : Int} {k : Nat} (hk : k < 64) : XG x (2 ^ k) = 0 ↔ tb x k = false := by
 rw [Qfn]
 constructor
 ·intro h
  cases hx : tb x k
  ·rfl
  ·have := h k hx; rw [Qde hk] at this; simp at this
 ·intro h i hi
  rw [Qde hk]
  by_cases e : i = k
  ·subst e; rw [h] at hi; cases hi
  ·exact decide_eq_false e
end M25
namespace M25
open Go Go.Abs M3
/-! ### Trails: the loops' laws -/
theorem X3 (w : Qq) (l : List QK) (s : QK) (u : Int) : Ze w (l ++ [s]) u = if s.u = u /\ inW w u = true then s.m else Ze w l u := by
 rw [Ze, List.foldl_append]; rfl
theorem QcB {α : Type} {l : List α} {i k : Nat} (hk : k + 1 = i) (h : k < l.length) : l.take i = l.take k ++ [l[k]] := by
 subst hk; rw [List.take_succ_eq_append_getElem h]
theorem Qpu {w : Qq} {l : List QK} {u : Int} {i k : Nat} (hk : k + 1 = i) (h : k < l.length) (hu : l[k].u = u) (hw : inW w u = true) : Ze w (l.take i) u = l[k].m := by
 rw [QcB hk h, X3, if_pos ⟨hu, hw⟩]
theorem Qgi {w : Qq} {l : List QK} {u : Int} {i k : Nat} (hk : k + 1 = i) (h : k < l.length) (hu : ¬ l[k].u = u \/ ¬ 0 <= u \/ ¬ u < w.length) : Ze w (l.take i) u = Ze w (l.take (i - 1)) u := by
 rw [QcB hk h, X3, if_neg, show i - 1 = k by omega]
 rintro ⟨h1, h2⟩
 rw [Qa3] at h2
 rcases hu with hu | hu | hu
 ·exact hu h1
 ·exact hu h2.1
 ·exact hu h2.2
theorem Qim {w : Qq} {l : List QK} {u : Int} (h : inW w u = false) : Ze w l u = 0 := by
 have hf : YC w u = 0 := Qd5 (by
  refine Classical.byContradiction fun hn => ?_
  rw [Qgc (by omega) (by omega)] at h; cases h)
 suffices hs : ∀ a, l.foldl (fun a s => if s.u = u /\ inW w u = true then s.m else a) a = a by rw [Ze, hs, hf]
 induction l with
 | nil => intro a; rfl
 | cons s l ih => intro a; rw [List.foldl_cons, if_neg (by rw [h]; simp), ih]
def QaW (w : Qq) (l : List QK) (u : Int) : Int := l.foldl (fun a s => if s.u = u then s.m else a) (YC w u)
theorem Qil {w : Qq} {l : List QK} {u : Int} (h : inW w u = true) : QaW w l u = Ze w l u := by
 unfold QaW Ze
 simp only [h, and_true]
theorem Qhp (w : Qq) (l : List QK) (s : QK) (u : Int) : QaW w (l ++ [s]) u = if s.u = u then s.m else QaW w l u := by
 rw [QaW, List.foldl_append]; rfl
theorem QnV {w : Qq} {l : List QK} {u : Int} {i k : Nat} (hk : k + 1 = i) (h : k < l.length) (hu : l[k].u = u) : QaW w (l.take i) u = l[k].m := by
 rw [QcB hk h, Qhp, if_pos hu]
theorem QmF {w : Qq} {l : List QK} {u : Int} {i k : Nat} (hk : k + 1 = i) (h : k < l.length) (hu : ¬ l[k].u = u) : QaW w (l.take i) u = QaW w (l.take (i - 1)) u := by
 rw [QcB hk h, Qhp, if_neg hu, show i - 1 = k by omega]
theorem X2 {w : Qq} {u : Int} : YC w u = 0 ↔ inW w u = false := by
 constructor
 ·intro h
  cases hw : inW w u
  ·rfl
  ·rw [Qa3] at hw
   rw [Qfx hw.1 hw.2] at h
   have h2 : 2 <= (2 : Int) ^ (min (w[u.toNat]'(by omega)).cs.length 16 + 1) := by
    rw [Int.pow_succ]
    have := QpJ (n := min (w[u.toNat]'(by omega)).cs.length 16) (by omega)
    omega
   omega
 ·intro h
  refine Qd5 (Classical.byContradiction fun hn => ?_)
  rw [Qgc (by omega) (by omega)] at h; cases h
theorem Qjw {l : List QK} (h : (l.length : Int) = 0) : ZV l = 0 := by
 have e : l = [] := List.eq_nil_of_length_eq_zero (by omega)
 subst e; rfl
theorem QlF {l : List QK} {k : Nat} (hk : k + 1 = l.length) : ZV l = (l[k]'(by omega)).l := by
 rw [ZV, List.getLast?_eq_getElem?, show l.length - 1 = k by omega, List.getElem?_eq_getElem (by omega)]
theorem QpD : ∀ {l : List Int}, ¬ (l.length : Int) = 1 -> QmL l = -1
 | [], _ => rfl
 | [x], h => by simp at h
 | x :: y :: l, _ => rfl
theorem Qof : ∀ {l : List Int} (h : (l.length : Int) = 1), QmL l = l[(0 : Int).toNat]'(by simp; omega)
 | [], h => by simp at h
 | [x], _ => rfl
 | x :: y :: l, h => by simp at h; omega
theorem QpI {m : Int} (h : ¬ ((X5 m).length : Int) = 1) : Yq m = -1 := QpD h
theorem Qok {m : Int} (h : ((X5 m).length : Int) = 1) : Yq m = (X5 m)[(0 : Int).toNat]'(by simp; omega) := Qof h
theorem QmU {α : Type} {f : α -> List D} {l : List α} {i : Nat} : ((l.map f).take ((i : Nat) : Int).toNat).drop (((0 : Nat) : Int)).toNat = (l.take i).map f := by simp [List.map_take]
def Qrm (w : Qq) (l : List QK) (i : Nat) : Bool := match l[i]? with
 | some s => Qak w (l.take i) s
 | none => true
theorem Qed {w : Qq} {l : List QK} {i : Nat} (h : i < l.length) : Qrm w l i = Qak w (l.take i) l[i] := by
 rw [Qrm, List.getElem?_eq_getElem h]
theorem QlO (w : Qq) (l : List QK) : YR w l = (List.range l.length).all (Qrm w l) := rfl
theorem Xl {w : Qq} {l : List QK} {s : QK} (h : s.u < 0 \/ (w.length : Int) <= s.u \/ s.c < -1) : Qak w l s = false := by
 unfold Qak
 rcases h with h | h | h
 ·rw [Qdr (.inl h)]; rfl
 ·rw [Qdr (.inr h)]; rfl
 ·rw [decide_eq_false (show ¬ -1 <= s.c by omega)]; simp
theorem Z2 {w : Qq} {l : List QK} {s : QK} (h0 : 0 <= s.u) (h1 : s.u < w.length) (h2 : -1 <= s.c) : Qak w l s = (decide (XG s.m (Ze w l s.u) = s.m) &&
  if s.c = -1 then decide (0 <= Yq s.m) && !Ym l s.u && decide (s.l = IntKind.i64.wrap (ZV l + 1))
  else !decide (s.m = 0) && !decide (s.m = Ze w l s.u) && decide (s.l = ZV l)) := by
 rw [Qak, Qgc h0 h1, decide_eq_true h2]; rfl
theorem QcE {w : Qq} {l : List QK} {t : TermT} {c : Int} (h : c < 0 \/ t.u < 0 \/ (w.length : Int) <= t.u) : Yu w l t c = none := by
 rw [Yu, if_pos]
 rcases h with h | h
 ·exact .inl h
 ·exact .inr (Qdr h)
theorem Qbw {w : Qq} {l : List QK} {t : TermT} {c : Int} (h : IntKind.i64.wrap (Ze w l t.u - XG (Ze w l t.u) t.m) = 0 \/ IntKind.i64.wrap (Ze w l t.u - XG (Ze w l t.u) t.m) = Ze w l t.u) : Yu w l t c = none := by
 rw [Yu]
 split
 ·rfl
 ·first | rfl | rw [if_pos h]
theorem Qha {w : Qq} {l : List QK} {t : TermT} {c : Int} (h0 : ¬ c < 0) (h1 : inW w t.u = true) (h2 : ¬ IntKind.i64.wrap (Ze w l t.u - XG (Ze w l t.u) t.m) = 0) (h3 : ¬ IntKind.i64.wrap (Ze w l t.u - XG (Ze w l t.u) t.m) = Ze w l t.u) :
  Yu w l t c = some (l ++ [⟨t.u, IntKind.i64.wrap (Ze w l t.u - XG (Ze w l t.u) t.m), ZV l, c⟩]) := by
 rw [Yu, if_neg (by rw [h1]; simp [h0]), if_neg (by simp [h2, h3])]
theorem Qg9 (w : Qq) (l : List QK) (t : TermT) (c : Int) : ((Yu w l t c).getD []).length <= l.length + 1 := by
 unfold Yu
 split
 ·simp
 ·split <;> simp
def QdB (w : Qq) (l : List QK) : Prop := ∀ s ∈ l, Lo s.m
theorem Qds {w : Qq} {l : List QK} (h : QdB w l) (u : Int) : Lo (Ze w l u) := by
 suffices hs : ∀ (l : List QK) a, (∀ s ∈ l, Lo s.m) -> Lo a -> Lo (l.foldl (fun a s => if s.u = u /\ inW w u = true then s.m else a) a) from hs l _ h (Qrh w u)
 intro l
 induction l with
 | nil => intro a _ h; exact h
 | cons s l ih =>
  intro a hl ha
  rw [List.foldl_cons]
  refine ih _ (fun t ht => hl t (by simp [ht])) ?_
  split
  ·exact hl s (by simp)
  ·exact ha
theorem Qnn {w : Qq} {l : List QK} {t : TermT} {c : Int} (hl : QdB w l) (h : XG (Ze w l t.u) t.m = 0) : Yu w l t c = none :=
 Qbw (.inr (by rw [Qdz, Qe8 (Qds hl _).i64, <- Qfn]; exact h))
theorem Qno {w : Qq} {l : List QK} {t : TermT} {c : Int} (h : QiR (Ze w l t.u) t.m = 0) : Yu w l t c = none :=
 Qbw (.inl (by rw [Qdz]; exact h))
theorem Qnp {w : Qq} {l : List QK} {t : TermT} {c : Int} (hl : QdB w l) (h0 : ¬ c < 0) (h1 : ¬ XG (Ze w l t.u) t.m = 0) (h2 : ¬ QiR (Ze w l t.u) t.m = 0) : Yu w l t c = some (l ++ [⟨t.u, QiR (Ze w l t.u) t.m, ZV l, c⟩]) := by
 have hin : inW w t.u = true := by
  cases hw : inW w t.u
  ·rw [Qim hw] at h1
   exact absurd (Qfn.2 fun i hi => by rw [Qk3] at hi; cases hi) h1
  ·rfl
 rw [Qha h0 hin (by rw [Qdz]; exact h2) (by rw [Qdz, Qe8 (Qds hl _).i64, <- Qfn]; exact h1), Qdz]
theorem QeE {w : Qq} {l : List QK} {u p : Int} (h : (u < 0 \/ (w.length : Int) <= u) \/ p < 0) : YO w l u p = none := by
 unfold YO
 split
 ·rfl
 ·rename_i x hx
  rcases h with h | h
  ·rw [QiM h] at hx; cases hx
  ·rw [if_pos (.inl h)]
theorem Qmq {w : Qq} {l : List QK} {u p : Int} (h0 : 0 <= u) (h1 : u < w.length) (h : ((w[u.toNat]'(by omega)).cs.length : Int) <= p) : YO w l u p = none := by
 rw [YO, QgN h0 h1]
 simp only []
 rw [if_pos (.inr h)]
def Qq6 (l : List QK) (u p : Int) : QK := ⟨u, IntKind.i64.wrap (2 * 2 ^ min p.toNat 64), IntKind.i64.wrap (ZV l + 1), -1⟩
theorem Qnm {w : Qq} {l : List QK} {u p : Int} (h : Qak w l (Qq6 l u p) = false) : YO w l u p = none := by
 unfold YO
 split
 ·rfl
 ·split
  ·rfl
  ·simp only [Qq6] at h
   rw [if_neg (by rw [h]; simp)]
theorem Qmt {w : Qq} {l : List QK} {u p : Int} (h0 : 0 <= u) (h1 : u < w.length) (h2 : ¬ p < 0) (h3 : ¬ ((w[u.toNat]'(by omega)).cs.length : Int) <= p) (h : Qak w l (Qq6 l u p) = true) : YO w l u p = some (l ++ [Qq6 l u p]) := by
 rw [YO, QgN h0 h1]
 simp only []
 rw [if_neg (by omega)]
 simp only [Qq6] at h ⊢
 rw [if_pos h]
theorem QbI {h : Int -> Int} {inc : List TermT} {a : Int} {i : Nat} (hi : i < inc.length) : XB h (inc.drop i) a = if QaX (h inc[i].u) inc[i].m = 0 then -1 else if QaX (h inc[i].u) inc[i].m = 1 then (if 0 <= a then -1 else XB h (inc.drop (i + 1)) inc[i].u) else XB h (inc.drop (i + 1)) a := by
 rw [List.drop_eq_getElem_cons hi, XB]
theorem QjK {h : Int -> Int} {inc : List TermT} {a : Int} {i : Nat} (hi : inc.length <= i) : XB h (inc.drop i) a = a := by
 rw [List.drop_eq_nil_of_le hi, XB]
theorem QkV {w : Qq} {l : List QK} {db : List (List TermT)} {i : Nat} (hi : i < db.length) : Xk w l i (db.drop i) = if Qdu w l db[i] = true then ((i : Int), -1) else if 0 <= Qgs w l db[i] then ((i : Int), Qgs w l db[i]) else Xk w l (i + 1) (db.drop (i + 1)) := by
 rw [List.drop_eq_getElem_cons hi, Xk]
theorem QpQ {w : Qq} {l : List QK} {db : List (List TermT)} {i : Nat} (hi : db.length <= i) : Xk w l i (db.drop i) = (-1, -1) := by
 rw [List.drop_eq_nil_of_le hi, Xk]
theorem Qmc (w : Qq) (l : List QK) : ∀ (db : List (List TermT)) (i : Nat), (Xk w l i db = (-1, -1)) \/ ∃ k, i <= k /\ ∃ hk : k - i < db.length, (Xk w l i db = ((k : Int), -1) /\ Qdu w l db[k - i] = true) \/ (Qdu w l db[k - i] = false /\ 0 <= Qgs w l db[k - i] /\ Xk w l i db = ((k : Int), Qgs w l db[k - i]))
 | [], i => .inl rfl
 | x :: db, i => by
  rw [Xk]
  by_cases h1 : Qdu w l x = true
  ·rw [if_pos h1]; exact .inr ⟨i, Nat.le_refl _, by simp, .inl ⟨rfl, by simpa using h1⟩⟩
  ·rw [if_neg h1]
   by_cases h2 : 0 <= Qgs w l x
   ·rw [if_pos h2]; exact .inr ⟨i, Nat.le_refl _, by simp, .inr ⟨by simpa using h1, by simpa using h2, by simp⟩⟩
   ·rw [if_neg h2]
    rcases Qmc w l db (i + 1) with h | ⟨k, hk, hlt, h⟩
    ·exact .inl h
    ·refine .inr ⟨k, by omega, by simp only [List.length_cons]; omega, ?_⟩
     have e : (x :: db)[k - i]'(by simp only [List.length_cons]; omega) = db[k - (i + 1)] := by
      obtain ⟨j, hj⟩ : ∃ j, k - i = j + 1 := ⟨k - i - 1, by omega⟩
      simp only [hj, List.getElem_cons_succ]
      congr 1; omega
     rw [e]; exact h
theorem QjV {w : Qq} {l : List QK} {db : List (List TermT)} (h : ¬ (Yv w db l).2 < 0) : 0 <= (Yv w db l).1 /\ (Yv w db l).1 < db.length := by
 unfold Yv at h ⊢
 rcases Qmc w l db 0 with e | ⟨k, _, hk, ⟨e, _⟩ | ⟨_, _, e⟩⟩
 ·rw [e] at h; simp at h
 ·rw [e] at h; simp at h
 ·rw [e]; simp only; omega
theorem QmR {w : Qq} {db : List (List TermT)} {n : Nat} {out : List QK} (h : (Yv w db out).2 < 0) (hn : 0 < n) : Qfj w db n out = (out, (Yv w db out).1) := by
 obtain ⟨m, rfl⟩ : ∃ m, n = m + 1 := ⟨n - 1, by omega⟩
 rw [Qfj, if_pos h]
theorem QpO {w : Qq} {db : List (List TermT)} {n : Nat} {out : List QK} (h : ¬ (Yv w db out).2 < 0) (hn : 0 < n) (hd : (Yv w db out).1.toNat < db.length) : Qfj w db n out = Qfj w db (n - 1) ((Yu w out ⟨(Yv w db out).2, Qd7 w db[(Yv w db out).1.toNat] (Yv w db out).2⟩ (Yv w db out).1).getD []) := by
 obtain ⟨m, rfl⟩ : ∃ m, n = m + 1 := ⟨n - 1, by omega⟩
 rw [Qfj, if_neg h, List.getD_eq_getElem?_getD, List.getElem?_eq_getElem hd]; rfl
end M25
namespace Go.Proofs
open Go Go.Abs M3 M25
set_option linter.unusedVariables false
set_option linter.unusedSimpArgs false
theorem Z4 {w : Qq} (hw : WSm w) {l : List QK} (hl : l.length <= 10000000) {u : Int} : Ok Tryz.prog 14 [Z6 w, Zt l, .int .i64 u] (.int .i64 (Ze w l u)) := by
 refine Ok.ofT ZY Tryz.func14 QtX (Nat.le_of_ble_eq_true Z) ?_
 show TW _ _ tf14.body _ _
 refine Qf fun K hK => Zz Z Z Z (Qa Z (hK _ _ (Qb (kp3 Z Z Z) ?_)))
 refine QE ?_ -- 0
 refine Qf fun K hK => Qa Z ?_
 first | refine QS rfl QW ?_ | refine QS rfl rfl ?_
 refine Qag Z Z (by first | exact Qs (by omega) (by omega) | rfl) (Qa Z (hK _ _ (Qb (kp4 Z Z Z Z) ?_)))
 refine QD ?_
 refine Zs (ι := Nat) (fun i => ⟨[(1, Zt l), (2, .int .i64 u), (3, .ref 3 0 0), (7, .int .i64 ((i : Int) - 1))], [(3, ⟨[[.sl ((w).map YX)]], 1, 26, true⟩)]⟩) (fun i => i <= l.length /\ Ze w l u = Ze w (l.take i) u) (fun i => i) l.length ?_ ?_ ?_
 ·exact Q8 (l := [1, 2, 3, 7]) (lH := [3]) (kp4 rfl rfl rfl rfl) (Qg rfl Qr) rfl rfl rfl
 ·exact ⟨Nat.le_refl _, by rw [List.take_length]⟩
 intro i hI
 try dsimp only
 refine QE ?_ -- 1
 refine Qf fun K hK => Qa Z (Qet Z Z (hK _ _ (Qb (kp5 Z Z Z Z Z) ?_)))
 refine Qx Z (fun h1 => ?_) (fun h1 => ?_)
 ·try rw [h1]
  try simp only [qA] at h1
  refine Qw (Qe (kp4 Z Z Z Z) ?_)
  refine QE ?_ -- 2
  refine QD (Qf fun K hK => Qa Z (Qa Z (QL Z Z Z (by omega) (ZA (by omega) (by omega)) Z (Za Z Z (Qy Z Z Z (Qa Z (ZD Z Z (Qa Z ?_))))))))
  refine QB (g := 22) Z (fun h2 => ?_) (fun h2 => ?_)
  ·try rw [h2]
   try simp only [qA] at h2
   refine Qh Z (Qa Z (Qh Z (Qet Z Z (Ql Z Z (Qa Z ?_)))))
   refine QB (g := 26) Z (fun h3 => ?_) (fun h3 => ?_)
   ·try rw [h3]
    try simp only [qA] at h3
    refine Qh Z (Qa Z (Qh Z (Qj Z Z (Qh Z (Qy Z Z Z (Qh Z ?_))))))
    first | refine QS rfl QW ?_ | refine QS rfl rfl ?_
    refine Qh Z (Z9 Z Z (Ql Z Z (hK _ _ (Qb (kp5 Z Z Z Z Z) ?_))))
    refine Qx Z (fun h4 => ?_) (fun h4 => ?_)
    ·try rw [h4]
     try simp only [qA] at h4
     refine Qf fun K hK => Qa Z (Qa Z (QL Z Z Z (by omega) (ZA (by omega) (by omega)) Z (Za Z Z (Qy Z Z Z (Qa Z (hK _ _ (Qb (kp1 Z) ?_)))))))
     refine Qv (Qu (Qk (Q9 (Qu (Qk (QA Z ?_))))))
     rw [hI.2, Qpu (k := ((i : Int) - 1).toNat) (by omega) (by omega) h2 (Qgc (by omega) (by omega))]
    ·try rw [h4]
     try simp only [qA] at h4
     refine Qw (Qi (Qe (kp4 Z Z Z Z) (QO fun K hK => Qa Z (Qag Z Z (by first | exact Qs (by omega) (by omega) | rfl) (Qa Z (hK _ ?_))))))
     refine Qm (i - 1) ?_ ?_ ?_
     ·exact Q8 (l := [1, 2, 3, 7]) (lH := [3]) (kp4 rfl rfl rfl rfl) (Qg rfl Qr) (by simp only [List.cons.injEq, Prod.mk.injEq, D.int.injEq, and_true, true_and]; omega) rfl rfl
     ·exact ⟨by omega, by rw [hI.2, Qgi (k := ((i : Int) - 1).toNat) (by omega) (by omega) (by first | exact .inl h2 | exact .inr (.inl h3) | exact .inr (.inr h4))]⟩
     ·first | omega | (simp only; omega) | (dsimp only; omega)
   ·try rw [h3]
    try simp only [qA] at h3
    refine Qp Z (Qp Z (Qp Z (Qp Z (Qp Z (Ql Z Z (hK _ _ (Qb (kp5 Z Z Z Z Z) ?_)))))))
    refine ZS Z (Qw (Qi (Qe (kp4 Z Z Z Z) (QO fun K hK => Qa Z (Qag Z Z (by first | exact Qs (by omega) (by omega) | rfl) (Qa Z (hK _ ?_)))))))
    refine Qm (i - 1) ?_ ?_ ?_
    ·exact Q8 (l := [1, 2, 3, 7]) (lH := [3]) (kp4 rfl rfl rfl rfl) (Qg rfl Qr) (by simp only [List.cons.injEq, Prod.mk.injEq, D.int.injEq, and_true, true_and]; omega) rfl rfl
    ·exact ⟨by omega, by rw [hI.2, Qgi (k := ((i : Int) - 1).toNat) (by omega) (by omega) (by first | exact .inl h2 | exact .inr (.inl h3) | exact .inr (.inr h4))]⟩
    ·first | omega | (simp only; omega) | (dsimp only; omega)
  ·try rw [h2]
   try simp only [qA] at h2
   refine Qp Z (Qp Z (Ql Z Z (Qa Z (Qp Z (Qp Z (Qp Z (Qp Z (Qp Z (Ql Z Z (hK _ _ (Qb (kp5 Z Z Z Z Z) ?_)))))))))))
   refine ZS Z (Qw (Qi (Qe (kp4 Z Z Z Z) (QO fun K hK => Qa Z (Qag Z Z (by first | exact Qs (by omega) (by omega) | rfl) (Qa Z (hK _ ?_)))))))
   refine Qm (i - 1) ?_ ?_ ?_
   ·exact Q8 (l := [1, 2, 3, 7]) (lH := [3]) (kp4 rfl rfl rfl rfl) (Qg rfl Qr) (by simp only [List.cons.injEq, Prod.mk.injEq, D.int.injEq, and_true, true_and]; omega) rfl rfl
   ·exact ⟨by omega, by rw [hI.2, Qgi (k := ((i : Int) - 1).toNat) (by omega) (by omega) (by first | exact .inl h2 | exact .inr (.inl h3) | exact .inr (.inr h4))]⟩
   ·first | omega | (simp only; omega) | (dsimp only; omega)
 ·try rw [h1]
  try simp only [qA] at h1
  refine Zl (QN (QC (QJ (Qe (kp2 Z Z) (Qf fun K hK => QH (cs := [_]) Z Z Z Z (Qa Z (QF (ZP hw) Z Z (.inr Z) (Qa Z (hK _ _ (Qb (kp1 Z) ?_))))))))))
  refine Qv (QA Z ?_)
  rw [hI.2, show i = 0 by omega]; rfl
theorem Yk {l : List QK} (hl : l.length <= 10000000) : Ok Tryz.prog 27 [Zt l] (.int .i64 (ZV l)) := by
 refine Ok.ofT ZY Tryz.func27 Qt5 (Nat.le_of_ble_eq_true Z) ?_
 show TW _ _ tf27.body _ _
 refine Qf fun K hK => Qa Z (hK _ _ (Qb (kp1 Z) ?_))
 refine QE ?_ -- 0
 refine Qf fun K hK => Qa Z ?_
 first | refine QS rfl QW ?_ | refine QS rfl rfl ?_
 refine ZD Z Z (hK _ _ (Qb (kp2 Z Z) ?_))
 refine Qx Z (fun h1 => ?_) (fun h1 => ?_)
 ·try rw [h1]
  try simp only [qA] at h1
  refine Qf fun K hK => Qa Z (hK _ _ (Qb (kp1 Z) ?_))
  refine Qv (Qk (QA Z ?_))
  rw [Qjw h1]
 ·try rw [h1]
  try simp only [qA] at h1
  refine Qw (Qe (kp1 Z) (Qf fun K hK => Qa Z (Qa Z ?_)))
  first | refine QS rfl QW ?_ | refine QS rfl rfl ?_
  refine Qag Z Z (by first | exact Qs (by omega) (by omega) | rfl) (QL Z Z Z (by omega) (ZA (by omega) (by omega)) Z (Za Z Z (Qy Z Z Z (Qa Z (hK _ _ (Qb (kp1 Z) ?_))))))
  refine Qv (QA Z ?_)
  rw [QlF (k := ((l.length : Int) - 1).toNat) (by omega)]
theorem Qbs {l : List QK} (hl : l.length <= 10000000) {u : Int} : Ok Tryz.prog 88 [Zt l, .int .i64 u] (.bool (Ym l u)) := by
 refine Ok.ofT ZY Tryz.func88 QuS (Nat.le_of_ble_eq_true Z) ?_
 show TW _ _ tf88.body _ _
 refine Qf fun K hK => Qa Z (hK _ _ (Qb (kp2 Z Z) ?_))
 refine QE ?_ -- 0
 refine Qf fun K hK => Qa Z (hK _ _ (Qb (kp3 Z Z Z) ?_))
 refine QD ?_
 refine Zs (ι := Nat) (fun i => ⟨[(0, Zt l), (1, .int .i64 u), (5, .int .i64 i)], []⟩) (fun i => i <= l.length /\ (l.take i).any (fun s => decide (s.u = u) && decide (s.c = -1)) = false) (fun i => l.length - i) 0 ?_ ?_ ?_
 ·exact Zk (kp3 rfl rfl rfl)
 ·exact ⟨Nat.zero_le _, by simp⟩
 intro i hI
 try dsimp only
 refine QE ?_ -- 1
 refine Qf fun K hK => Qa Z (Qa Z ?_)
 first | refine QS rfl QW ?_ | refine QS rfl rfl ?_
 refine Z9 Z Z (hK _ _ (Qb (kp4 Z Z Z Z) ?_))
 refine Qx Z (fun h1 => ?_) (fun h1 => ?_)
 ·try rw [h1]
  try simp only [qA] at h1
  refine Qw (Qe (kp3 Z Z Z) ?_)
  refine QE ?_ -- 2
  refine QD (Qf fun K hK => Qa Z (Qa Z (QL Z Z Z (by omega) (QT (by omega)) Z (Za Z Z (Qy Z Z Z (Qa Z (ZD Z Z (Qa Z ?_))))))))
  refine QB (g := 19) Z (fun h2 => ?_) (fun h2 => ?_)
  ·try rw [h2]
   try simp only [qA] at h2
   refine Qh Z (Qa Z (Qh Z (Qa Z (Qh Z (QL Z Z Z (by omega) (QT (by omega)) Z (Qh Z (Za Z Z (Qh Z (Qy Z Z Z (Qh Z (ZD Z Z ?_)))))))))))
   refine Ql Z Z (hK _ _ (Qb (kp4 Z Z Z Z) ?_))
   refine Qx Z (fun h3 => ?_) (fun h3 => ?_)
   ·try rw [h3]
    try simp only [qA] at h3
    refine Qf fun K hK => Qa Z (hK _ _ (Qb (kp1 Z) ?_))
    refine Qv (Qu (Qk (Q9 (Qu (Qk (Qt Z ?_))))))
    rw [Ym, QhP (i := i) (by omega) (by simp [h2, h3])]
   ·try rw [h3]
    try simp only [qA] at h3
    refine Qw (Qi (Qe (kp3 Z Z Z) (QO fun K hK => Qa Z (Q2 Z Z (by first | exact Qs (by omega) (by omega) | rfl) (Qa Z (hK _ ?_))))))
    refine Qm (i + 1) ?_ ?_ ?_
    ·exact Zk (kp3 rfl rfl rfl)
    ·exact ⟨by omega, Qg5 (by omega) hI.2 (by first | (simp [h2, h3]; done) | (simp [h2]; done))⟩
    ·first | omega | (simp only; omega) | (dsimp only; omega)
  ·try rw [h2]
   try simp only [qA] at h2
   refine Qp Z (Qp Z (Qp Z (Qp Z (Qp Z (Qp Z (Ql Z Z (hK _ _ (Qb (kp4 Z Z Z Z) ?_))))))))
   refine ZS Z (Qw (Qi (Qe (kp3 Z Z Z) (QO fun K hK => Qa Z (Q2 Z Z (by first | exact Qs (by omega) (by omega) | rfl) (Qa Z (hK _ ?_)))))))
   refine Qm (i + 1) ?_ ?_ ?_
   ·exact Zk (kp3 rfl rfl rfl)
   ·exact ⟨by omega, Qg5 (by omega) hI.2 (by first | (simp [h2, h3]; done) | (simp [h2]; done))⟩
   ·first | omega | (simp only; omega) | (dsimp only; omega)
 ·try rw [h1]
  try simp only [qA] at h1
  refine Zl (QN (QC (QJ (Qe (Q7) (Qf fun K hK => Qa Z (hK _ _ (Qb (kp1 Z) ?_)))))))
  refine Qv (Qt Z ?_)
  rw [Ym, Qna (i := i) (by omega) hI.2]
theorem Qb9 {m : Int} : Ok Tryz.prog 59 [.int .i64 m] (.int .i64 (Yq m)) := by
 refine Ok.ofT ZY Tryz.func59 Qus (Nat.le_of_ble_eq_true Z) ?_
 show TW _ _ tf59.body _ _
 refine Qf fun K hK => Qa Z (hK _ _ (Qb (kp1 Z) ?_))
 refine Qf fun K hK => Qa Z (QF (Qaa) Z Z (.inl Z) (Qa Z (hK _ _ (Qb (kp1 Z) ?_))))
 refine QE ?_ -- 0
 refine Qf fun K hK => Qa Z ?_
 first | refine QS rfl QW ?_ | refine QS rfl rfl ?_
 refine XY Z Z (hK _ _ (Qb (kp2 Z Z) ?_))
 refine Qx Z (fun h1 => ?_) (fun h1 => ?_)
 ·try rw [h1]
  try simp only [qA] at h1
  refine Qf fun K hK => Qa Z (hK _ _ (Qb (kp1 Z) ?_))
  refine Qv (Qk (QA Z ?_))
  rw [QpI h1]
 ·try rw [h1]
  try simp only [qA] at h1
  refine Qw (Qe (kp1 Z) (Qf fun K hK => Qa Z (QL Z Z Z (by omega) (ZA (by omega) (by omega)) Z (Qy Z Z Z (Qa Z (hK _ _ (Qb (kp1 Z) ?_)))))))
  refine Qv (QA Z ?_)
  rw [Qok h1]
theorem Qc3 {w : Qq} (hw : WSm w) {l : List QK} (hl : l.length <= 10000000) {s : QK} : Ok Tryz.prog 62 [Z6 w, Zt l, .agg (QdQ s)] (.bool (Qak w l s)) := by
 refine Ok.ofT ZY Tryz.func62 Quv (Nat.le_of_ble_eq_true Z) ?_
 show TW _ _ tf62.body _ _
 refine Qf fun K hK => Zz Z Z Z (Zz Z Z Z (Qa Z (hK _ _ (Qb (kp3 Z Z Z) ?_))))
 refine QE ?_ -- 0
 refine Qf fun K hK => Qj Z Z (Qy Z Z Z (Z9 Z Z (Qa Z ?_)))
 refine QB (g := 11) Z (fun h1 => ?_) (fun h1 => ?_)
 ·try rw [h1]
  try simp only [qA] at h1
  refine Qp Z (Qp Z (Qp Z (Qp Z (Qp Z (Qp Z (Ql Z Z (Qa Z (Qp Z (Qp Z (Qp Z (Ql Z Z ?_)))))))))))
  refine hK _ _ (Qb (kp4 Z Z Z Z) ?_)
  refine Zm Z (Qf fun K hK => Qa Z (hK _ _ (Qb (kp1 Z) ?_)))
  refine Qv (Qk (Qt Z ?_))
  first | (rw [Xl (by omega)]; done) | (rw [Z2 (by omega) (by omega) (by omega)]; simp_all; done) | (rw [Z2 (by omega) (by omega) (by omega)]; simp_all; omega)
 ·try rw [h1]
  try simp only [qA] at h1
  refine Qh Z (Qj Z Z (Qh Z (Qy Z Z Z (Qh Z (Qj Z Z (Qh Z (Qy Z Z Z (Qh Z ?_))))))))
  first | refine QS rfl QW ?_ | refine QS rfl rfl ?_
  refine Qh Z (Qet Z Z (Ql Z Z (Qa Z ?_)))
  refine QB (g := 19) Z (fun h2 => ?_) (fun h2 => ?_)
  ·try rw [h2]
   try simp only [qA] at h2
   refine Qp Z (Qp Z (Qp Z (Ql Z Z (hK _ _ (Qb (kp4 Z Z Z Z) ?_)))))
   refine Zm Z (Qf fun K hK => Qa Z (hK _ _ (Qb (kp1 Z) ?_)))
   refine Qv (Qk (Qt Z ?_))
   first | (rw [Xl (by omega)]; done) | (rw [Z2 (by omega) (by omega) (by omega)]; simp_all; done) | (rw [Z2 (by omega) (by omega) (by omega)]; simp_all; omega)
  ·try rw [h2]
   try simp only [qA] at h2
   refine Qh Z (Qj Z Z (Qh Z (Qy Z Z Z (Qh Z (Z9 Z Z (Ql Z Z (hK _ _ (Qb (kp4 Z Z Z Z) ?_))))))))
   refine Qx Z (fun h3 => ?_) (fun h3 => ?_)
   ·try rw [h3]
    try simp only [qA] at h3
    refine Qf fun K hK => Qa Z (hK _ _ (Qb (kp1 Z) ?_))
    refine Qv (Qk (Qt Z ?_))
    first | (rw [Xl (by omega)]; done) | (rw [Z2 (by omega) (by omega) (by omega)]; simp_all; done) | (rw [Z2 (by omega) (by omega) (by omega)]; simp_all; omega)
   ·try rw [h3]
    try simp only [qA] at h3
    refine Qw (Qe (kp3 Z Z Z) (Qf fun K hK => QH (cs := [_]) Z Z Z Z (Qa Z (Qj Z Z (Qy Z Z Z (QF (Z4 hw hl) Z Z (.inr Z) (Qa Z (hK _ _ (Qb (kp3 Z Z Z) ?_)))))))))
    refine QE ?_ -- 1
    refine Qf fun K hK => Qj Z Z (Qy Z Z Z (ZD Z Z (hK _ _ (Qb (kp4 Z Z Z Z) ?_))))
    refine Qx Z (fun h4 => ?_) (fun h4 => ?_)
    ·try rw [h4]
     try simp only [qA] at h4
     refine Qf fun K hK => Qj Z Z (QR (ds0 := [26, 25, 24, 23, 22, 21, 20, 19, 18, 17, 16, 15, 14, 13, 12, 11, 10, 9, 8, 7, 6, 5, 4, 3, 2, 1, 0]) Z Z Z Z Z (QX (ds0 := [25, 24, 23, 22, 21, 20, 19, 18, 17, 16, 15, 14, 13, 12, 11, 10, 9, 8, 7, 6, 5, 4, 3, 2, 1, 0]) (Qb9) Z Z (.inr Z) Z Z (Qet Z Z (Qa Z ?_))))
     refine QB (g := 36) Z (fun h5 => ?_) (fun h5 => ?_)
     ·try rw [h5]
      try simp only [qA] at h5
      refine Qh Z (Qj Z Z (Qh Z (QR (ds0 := [20, 17, 16, 15, 14, 13, 12, 11, 10, 9, 8, 7, 6, 5, 4, 3, 2, 1, 0]) Z Z Z Z Z (Qh Z (Qa Z (Qh Z (Qb2 Z Z (Qh Z (Qj Z Z (Qh Z (QR (ds0 := [17, 16, 15, 14, 13, 12, 11, 10, 9, 8, 7, 6, 5, 4, 3, 2, 1, 0]) Z Z Z Z Z ?_)))))))))))
      refine Qh Z (ZD Z Z (Ql Z Z (Qa Z ?_)))
      refine QB (g := 45) Z (fun h6 => ?_) (fun h6 => ?_)
      ·try rw [h6]
       try simp only [qA] at h6
       refine Qh Z (Qa Z (Qh Z (Qj Z Z (Qh Z (QR (ds0 := [11, 10, 9, 8, 7, 6, 5, 4, 3, 2, 1, 0]) Z Z Z Z Z (Qh Z (QX (ds0 := [10, 9, 8, 7, 6, 5, 4, 3, 2, 1, 0]) (Qbs hl) Z Z (.inr Z) Z Z (Qh Z (Yh Z (Ql Z Z (Qa Z ?_)))))))))))
       refine QB (g := 52) Z (fun h7 => ?_) (fun h7 => ?_)
       ·try rw [h7]
        try simp only [qA] at h7
        refine Qh Z (Qj Z Z (Qh Z (QR (ds0 := [2, 1, 0]) Z Z Z Z Z (Qh Z (Qa Z (Qh Z (QX (ds0 := [3, 2, 1, 0]) (Yk hl) Z Z (.inr Z) Z Z (Qh Z (Q2 Z Z Z (Qh Z (ZD Z Z ?_)))))))))))
        refine Ql Z Z (Qa Z (hK _ _ (Qb (kp1 Z) ?_)))
        refine Qv (Qk (Qt Z ?_))
        first | (rw [Xl (by omega)]; done) | (rw [Z2 (by omega) (by omega) (by omega)]; simp_all; done) | (rw [Z2 (by omega) (by omega) (by omega)]; simp_all; omega)
       ·try rw [h7]
        try simp only [qA] at h7
        refine Qp Z (Qp Z (Qp Z (Qp Z (Qp Z (Qp Z (Ql Z Z (Qa Z (hK _ _ (Qb (kp1 Z) ?_)))))))))
        refine Qv (Qk (Qt Z ?_))
        first | (rw [Xl (by omega)]; done) | (rw [Z2 (by omega) (by omega) (by omega)]; simp_all; done) | (rw [Z2 (by omega) (by omega) (by omega)]; simp_all; omega)
      ·try rw [h6]
       try simp only [qA] at h6
       refine Qp Z (Qp Z (Qp Z (Qp Z (Qp Z (Ql Z Z (Qa Z (Qp Z (Qp Z (Qp Z (Qp Z (Qp Z ?_)))))))))))
       refine Qp Z (Ql Z Z (Qa Z (hK _ _ (Qb (kp1 Z) ?_))))
       refine Qv (Qk (Qt Z ?_))
       first | (rw [Xl (by omega)]; done) | (rw [Z2 (by omega) (by omega) (by omega)]; simp_all; done) | (rw [Z2 (by omega) (by omega) (by omega)]; simp_all; omega)
     ·try rw [h5]
      try simp only [qA] at h5
      refine Qp Z (Qp Z (Qp Z (Qp Z (Qp Z (Qp Z (Qp Z (Ql Z Z (Qa Z (Qp Z (Qp Z (Qp Z ?_)))))))))))
      refine Qp Z (Qp Z (Ql Z Z (Qa Z (Qp Z (Qp Z (Qp Z (Qp Z (Qp Z (Qp Z (Ql Z Z (Qa Z ?_)))))))))))
      refine hK _ _ (Qb (kp1 Z) ?_)
      refine Qv (Qk (Qt Z ?_))
      first | (rw [Xl (by omega)]; done) | (rw [Z2 (by omega) (by omega) (by omega)]; simp_all; done) | (rw [Z2 (by omega) (by omega) (by omega)]; simp_all; omega)
    ·try rw [h4]
     try simp only [qA] at h4
     refine Qw (Qe (kp3 Z Z Z) (Qf fun K hK => Qj Z Z (QR (ds0 := [23, 22, 21, 20, 19, 18, 17, 16, 15, 14, 13, 12, 11, 10, 9, 8, 7, 6, 5, 4, 3, 2, 1, 0]) Z Z Z Z Z (XY Z Z (Qa Z ?_)))))
     refine QB (g := 63) Z (fun h8 => ?_) (fun h8 => ?_)
     ·try rw [h8]
      try simp only [qA] at h8
      refine Qh Z (Qj Z Z (Qh Z (QR (ds0 := [18, 15, 14, 13, 12, 11, 10, 9, 8, 7, 6, 5, 4, 3, 2, 1, 0]) Z Z Z Z Z (Qh Z (Qa Z (Qh Z (Qb2 Z Z (Qh Z (Qj Z Z (Qh Z (QR (ds0 := [15, 14, 13, 12, 11, 10, 9, 8, 7, 6, 5, 4, 3, 2, 1, 0]) Z Z Z Z Z ?_)))))))))))
      refine Qh Z (ZD Z Z (Ql Z Z (Qa Z ?_)))
      refine QB (g := 72) Z (fun h9 => ?_) (fun h9 => ?_)
      ·try rw [h9]
       try simp only [qA] at h9
       refine Qh Z (Qj Z Z (Qh Z (QR (ds0 := [9, 8, 7, 6, 5, 4, 3, 2, 1, 0]) Z Z Z Z Z (Qh Z (Qa Z (Qh Z (XY Z Z (Ql Z Z (Qa Z ?_)))))))))
       refine QB (g := 78) Z (fun h10 => ?_) (fun h10 => ?_)
       ·try rw [h10]
        try simp only [qA] at h10
        refine Qh Z (Qj Z Z (Qh Z (QR (ds0 := [2, 1, 0]) Z Z Z Z Z (Qh Z (Qa Z (Qh Z (QX (ds0 := [2, 1, 0]) (Yk hl) Z Z (.inr Z) Z Z (Qh Z (ZD Z Z (Ql Z Z (Qa Z ?_)))))))))))
        refine hK _ _ (Qb (kp1 Z) ?_)
        refine Qv (Qt Z ?_)
        first | (rw [Xl (by omega)]; done) | (rw [Z2 (by omega) (by omega) (by omega)]; simp_all; done) | (rw [Z2 (by omega) (by omega) (by omega)]; simp_all; omega)
       ·try rw [h10]
        try simp only [qA] at h10
        refine Qp Z (Qp Z (Qp Z (Qp Z (Qp Z (Ql Z Z (Qa Z (hK _ _ (Qb (kp1 Z) ?_))))))))
        refine Qv (Qt Z ?_)
        first | (rw [Xl (by omega)]; done) | (rw [Z2 (by omega) (by omega) (by omega)]; simp_all; done) | (rw [Z2 (by omega) (by omega) (by omega)]; simp_all; omega)
      ·try rw [h9]
       try simp only [qA] at h9
       refine Qp Z (Qp Z (Qp Z (Qp Z (Ql Z Z (Qa Z (Qp Z (Qp Z (Qp Z (Qp Z (Qp Z (Ql Z Z ?_)))))))))))
       refine Qa Z (hK _ _ (Qb (kp1 Z) ?_))
       refine Qv (Qt Z ?_)
       first | (rw [Xl (by omega)]; done) | (rw [Z2 (by omega) (by omega) (by omega)]; simp_all; done) | (rw [Z2 (by omega) (by omega) (by omega)]; simp_all; omega)
     ·try rw [h8]
      try simp only [qA] at h8
      refine Qp Z (Qp Z (Qp Z (Qp Z (Qp Z (Qp Z (Qp Z (Ql Z Z (Qa Z (Qp Z (Qp Z (Qp Z ?_)))))))))))
      refine Qp Z (Ql Z Z (Qa Z (Qp Z (Qp Z (Qp Z (Qp Z (Qp Z (Ql Z Z (Qa Z (hK _ _ (Qb (kp1 Z) ?_)))))))))))
      refine Qv (Qt Z ?_)
      first | (rw [Xl (by omega)]; done) | (rw [Z2 (by omega) (by omega) (by omega)]; simp_all; done) | (rw [Z2 (by omega) (by omega) (by omega)]; simp_all; omega)
theorem QbY {w : Qq} (hw : WSm w) {l : List QK} (hl : l.length <= 10000000) {t : TermT} {c : Int} : Ok Tryz.prog 35 [Z6 w, Zt l, .agg (QeD t), .int .i64 c] (dOS (Yu w l t c)) := by
 refine Ok.ofT ZY Tryz.func35 Qt9 (Nat.le_of_ble_eq_true Z) ?_
 show TW _ _ tf35.body _ _
 refine Qf fun K hK => Zz Z Z Z (Zz Z Z Z (Qa Z (Qa Z (hK _ _ (Qb (kp4 Z Z Z Z) ?_)))))
 refine QE ?_ -- 0
 refine Qf fun K hK => Qa Z (Z9 Z Z (Qa Z ?_))
 refine QB (g := 14) Z (fun h1 => ?_) (fun h1 => ?_)
 ·try rw [h1]
  try simp only [qA] at h1
  refine Qp Z (Qp Z (Qp Z (Ql Z Z (Qa Z (Qp Z (Qp Z (Qp Z (Qp Z (Qp Z (Qp Z (Ql Z Z ?_)))))))))))
  refine hK _ _ (Qb (kp5 Z Z Z Z Z) ?_)
  refine Zm Z (Qf fun K hK => Qa Z (Qa Z (hK _ _ (Qb (kp2 Z Z) ?_))))
  refine Qv (Qk ?_)
  rw [QcE (by omega)]
  exact QV rfl rfl ⟨rfl, rfl⟩
 ·try rw [h1]
  try simp only [qA] at h1
  refine Qh Z (Qj Z Z (Qh Z (Qy Z Z Z (Qh Z (Z9 Z Z (Ql Z Z (Qa Z ?_)))))))
  refine QB (g := 19) Z (fun h2 => ?_) (fun h2 => ?_)
  ·try rw [h2]
   try simp only [qA] at h2
   refine Qp Z (Qp Z (Qp Z (Qp Z (Qp Z (Qp Z (Ql Z Z (hK _ _ (Qb (kp5 Z Z Z Z Z) ?_))))))))
   refine Zm Z (Qf fun K hK => Qa Z (Qa Z (hK _ _ (Qb (kp2 Z Z) ?_))))
   refine Qv (Qk ?_)
   rw [QcE (by omega)]
   exact QV rfl rfl ⟨rfl, rfl⟩
  ·try rw [h2]
   try simp only [qA] at h2
   refine Qh Z (Qj Z Z (Qh Z (Qy Z Z Z (Qh Z (Qj Z Z (Qh Z (Qy Z Z Z (Qh Z ?_))))))))
   first | refine QS rfl QW ?_ | refine QS rfl rfl ?_
   refine Qh Z (Qet Z Z (Ql Z Z (hK _ _ (Qb (kp5 Z Z Z Z Z) ?_))))
   refine Qx Z (fun h3 => ?_) (fun h3 => ?_)
   ·try rw [h3]
    try simp only [qA] at h3
    refine Qf fun K hK => Qa Z (Qa Z (hK _ _ (Qb (kp2 Z Z) ?_)))
    refine Qv (Qk ?_)
    rw [QcE (by omega)]
    exact QV rfl rfl ⟨rfl, rfl⟩
   ·try rw [h3]
    try simp only [qA] at h3
    refine Qw (Qe (kp4 Z Z Z Z) (Qf fun K hK => QH (cs := [_]) Z Z Z Z (Qa Z (Qj Z Z (Qy Z Z Z (QF (Z4 hw hl) Z Z (.inr Z) (Qa Z (hK _ _ (Qb (kp4 Z Z Z Z) ?_)))))))))
    refine Qf fun K hK => Qj Z Z (QR (ds0 := [2, 0]) Z Z Z Z Z (Qa Z (Qa Z (Qj Z Z (QR (ds0 := [7, 6, 2, 0]) Z Z Z Z Z (Qb2 Z Z (Qag Z Z Z (Qa Z (QX (ds0 := [2, 0]) (Yk hl) Z Z (.inr Z) Z Z (Qa Z ?_))))))))))
    refine QU Z Z (ZF Z (Xu (ds0 := []) Z Z Z Z Z Z Z Z Z Z (hK _ _ (Qb (kp3 Z Z Z) ?_))))
    refine QE ?_ -- 1
    refine Qf fun K hK => Qj Z Z (Qy Z Z Z (ZD Z Z (Qa Z ?_)))
    refine QB (g := 47) Z (fun h4 => ?_) (fun h4 => ?_)
    ·try rw [h4]
     try simp only [qA] at h4
     refine Qp Z (Qp Z (Qp Z (Qp Z (Ql Z Z (hK _ _ (Qb (kp3 Z Z Z) ?_))))))
     refine Zm Z (Qf fun K hK => Qa Z (Qa Z (hK _ _ (Qb (kp2 Z Z) ?_))))
     refine Qv (Qk ?_)
     rw [Qbw (by first | exact .inl h4 | exact .inr h5)]
     exact QV rfl rfl ⟨rfl, rfl⟩
    ·try rw [h4]
     try simp only [qA] at h4
     refine Qh Z (Qj Z Z (Qh Z (Qy Z Z Z (Qh Z (Qa Z (Qh Z (ZD Z Z (Ql Z Z (hK _ _ (Qb (kp3 Z Z Z) ?_))))))))))
     refine Qx Z (fun h5 => ?_) (fun h5 => ?_)
     ·try rw [h5]
      try simp only [qA] at h5
      refine Qf fun K hK => Qa Z (Qa Z (hK _ _ (Qb (kp2 Z Z) ?_)))
      refine Qv (Qk ?_)
      rw [Qbw (by first | exact .inl h4 | exact .inr h5)]
      exact QV rfl rfl ⟨rfl, rfl⟩
     ·try rw [h5]
      try simp only [qA] at h5
      refine Qw (Qe (kp2 Z Z) (Qf fun K hK => Qa Z (Qes (ds0 := [2, 1]) Z Z (fun _ h => ⟨QmQ, h⟩) Z (.inl Z) (by simp) (by simp; omega) (by simp; omega) Z Z (QP (ds0 := [3, 2, 1]) (cs := [_, _, _, _]) Z Z Z Z Z Z (QI Z Z (Qb3 (ds0 := [1]) Z Z (by simp [D.ids, D.sid]) ⟨_, rfl, rfl, rfl, rfl, rfl⟩ Z Z (by simp) Z Z (by simp; omega) (by simp; omega) Z Z (Qa Z (Qa Z (hK _ _ (Qb (kp2 Z Z) ?_))))))))))
      refine Qv ?_
      rw [Qha (by omega) (Qgc (by omega) (by omega)) h4 h5]
      exact QgC rfl rfl rfl (by simp) (by simp [Zt, QdQ]) rfl rfl
theorem QbX {w : Qq} (hw : WSm w) {l : List QK} (hl : l.length <= 10000000) {u p : Int} : Ok Tryz.prog 34 [Z6 w, Zt l, .int .i64 u, .int .i64 p] (dOS (YO w l u p)) := by
 refine Ok.ofT ZY Tryz.func34 Qt8 (Nat.le_of_ble_eq_true Z) ?_
 show TW _ _ tf34.body _ _
 refine Qf fun K hK => Zz Z Z Z (Qa Z (Qa Z (hK _ _ (Qb (kp4 Z Z Z Z) ?_))))
 refine QE ?_ -- 0
 refine Qf fun K hK => Qa Z (Z9 Z Z (Qa Z ?_))
 refine QB (g := 13) Z (fun h1 => ?_) (fun h1 => ?_)
 ·try rw [h1]
  try simp only [qA] at h1
  refine Qp Z (Qp Z (Qp Z (Qp Z (Qp Z (Ql Z Z (Qa Z (Qp Z (Qp Z (Ql Z Z (Qa Z (Qp Z ?_)))))))))))
  refine Qp Z (Qp Z (Qp Z (Qp Z (Qp Z (Qp Z (Qp Z (Qp Z (Ql Z Z (hK _ _ (Qb (kp5 Z Z Z Z Z) ?_))))))))))
  refine Zm Z (Qf fun K hK => Qa Z (Qa Z (hK _ _ (Qb (kp2 Z Z) ?_))))
  refine Qv (Qk ?_)
  rw [QeE (by omega)]
  exact QV rfl rfl ⟨rfl, rfl⟩
 ·try rw [h1]
  try simp only [qA] at h1
  refine Qh Z (Qa Z (Qh Z (Qj Z Z (Qh Z (Qy Z Z Z (Qh Z ?_))))))
  first | refine QS rfl QW ?_ | refine QS rfl rfl ?_
  refine Qh Z (Qet Z Z (Ql Z Z (Qa Z ?_)))
  refine QB (g := 20) Z (fun h2 => ?_) (fun h2 => ?_)
  ·try rw [h2]
   try simp only [qA] at h2
   refine Qp Z (Qp Z (Ql Z Z (Qa Z (Qp Z (Qp Z (Qp Z (Qp Z (Qp Z (Qp Z (Qp Z (Qp Z ?_)))))))))))
   refine Qp Z (Ql Z Z (hK _ _ (Qb (kp5 Z Z Z Z Z) ?_)))
   refine Zm Z (Qf fun K hK => Qa Z (Qa Z (hK _ _ (Qb (kp2 Z Z) ?_))))
   refine Qv (Qk ?_)
   rw [QeE (by omega)]
   exact QV rfl rfl ⟨rfl, rfl⟩
  ·try rw [h2]
   try simp only [qA] at h2
   refine Qh Z (Qa Z (Qh Z (Z9 Z Z (Ql Z Z (Qa Z ?_)))))
   refine QB (g := 24) Z (fun h3 => ?_) (fun h3 => ?_)
   ·try rw [h3]
    try simp only [qA] at h3
    refine Qp Z (Qp Z (Qp Z (Qp Z (Qp Z (Qp Z (Qp Z (Qp Z (Qp Z (Ql Z Z (hK _ _ (Qb (kp5 Z Z Z Z Z) ?_)))))))))))
    refine Zm Z (Qf fun K hK => Qa Z (Qa Z (hK _ _ (Qb (kp2 Z Z) ?_))))
    refine Qv (Qk ?_)
    rw [QeE (by omega)]
    exact QV rfl rfl ⟨rfl, rfl⟩
   ·try rw [h3]
    try simp only [qA] at h3
    refine Qh Z (Qa Z (Qh Z (Qj Z Z (Qh Z (Qy Z Z Z (Qh Z (Qa Z (Qh Z (QL Z Z Z (by omega) (ZA (by omega) (by omega)) Z (Qh Z (Za Z Z ?_)))))))))))
    refine Qh Z (Qy Z Z Z (Qh Z ?_))
    first | refine QS rfl QW ?_ | refine QS rfl rfl ?_
    refine Qh Z (Qet Z Z (Ql Z Z (hK _ _ (Qb (kp5 Z Z Z Z Z) ?_))))
    refine Qx Z (fun h4 => ?_) (fun h4 => ?_)
    ·try rw [h4]
     try simp only [qA] at h4
     refine Qf fun K hK => Qa Z (Qa Z (hK _ _ (Qb (kp2 Z Z) ?_)))
     refine Qv (Qk ?_)
     rw [Qmq (by omega) (by omega) (by omega)]
     exact QV rfl rfl ⟨rfl, rfl⟩
    ·try rw [h4]
     try simp only [qA] at h4
     refine Qw (Qe (kp4 Z Z Z Z) (Qf fun K hK => Qa Z (Qa Z (QiZ Z (QfI (by omega) (by have := hw.cs _ (List.getElem_mem (show u.toNat < w.length by omega)); omega)) (QoU Z Z (by omega) Z (Qa Z (QF (Yk hl) Z Z (.inr Z) (Q2 Z Z Z (QU Z Z (ZF Z ?_))))))))))
     refine Q5 Z Z Z Z Z Z Z Z (hK _ _ (Qb (kp3 Z Z Z) ?_))
     refine QE ?_ -- 1
     refine Qf fun K hK => QH (cs := [_]) Z Z Z Z (Qa Z (QH (cs := [_, _, _, _]) Z Z Z Z (QF (Qc3 (s := Qq6 l u p) hw hl) Z Z (.inr Z) (Yh Z (hK _ _ (Qb (kp3 Z Z Z) ?_))))))
     refine Qx Z (fun h5 => ?_) (fun h5 => ?_)
     ·try rw [h5]
      try simp only [qA] at h5
      refine Qf fun K hK => Qa Z (Qa Z (hK _ _ (Qb (kp2 Z Z) ?_)))
      refine Qv (Qk ?_)
      rw [Qnm h5]
      exact QV rfl rfl ⟨rfl, rfl⟩
     ·try rw [h5]
      try simp only [qA] at h5
      refine Qw (Qe (kp2 Z Z) (Qf fun K hK => Qa Z (Qes (ds0 := [2, 1]) Z Z (fun _ h => ⟨QmQ, h⟩) Z (.inl Z) (by simp) (by simp; omega) (by simp; omega) Z Z (QP (ds0 := [3, 2, 1]) (cs := [_, _, _, _]) Z Z Z Z Z Z (QI Z Z (Qb3 (ds0 := [1]) Z Z (by simp [D.ids, D.sid]) ⟨_, rfl, rfl, rfl, rfl, rfl⟩ Z Z (by simp) Z Z (by simp; omega) (by simp; omega) Z Z (Qa Z (Qa Z (hK _ _ (Qb (kp2 Z Z) ?_))))))))))
      refine Qv ?_
      rw [Qmt (by omega) (by omega) (by omega) (by omega) h5]
      exact QgC rfl rfl rfl (by simp) (by simp [Zt, QdQ, Qq6]; rfl) rfl rfl
theorem Qc1 {w : Qq} (hw : WSm w) {l : List QK} (hl : l.length <= 10000000) {inc : List TermT} (hi : inc.length <= 1000000) : Ok Tryz.prog 30 [Z6 w, Zt l, ZN inc] (.bool (Qdu w l inc)) := by
 refine Ok.ofT ZY Tryz.func30 Qt6 (Nat.le_of_ble_eq_true Z) ?_
 show TW _ _ tf30.body _ _
 refine Qf fun K hK => Zz Z Z Z (Qa Z (hK _ _ (Qb (kp3 Z Z Z) ?_)))
 refine QE ?_ -- 0
 refine Qf fun K hK => Qa Z (hK _ _ (Qb (kp4 Z Z Z Z) ?_))
 refine QD ?_
 refine Zs (ι := Nat) (fun i => ⟨[(1, Zt l), (2, ZN inc), (3, .ref 3 0 0), (7, .int .i64 i)], [(3, ⟨[[.sl ((w).map YX)]], 1, 26, true⟩)]⟩) (fun i => i <= inc.length /\ (inc.take i).all (fun t => decide (QaX (Ze w l t.u) t.m = 2)) = true) (fun i => inc.length - i) 0 ?_ ?_ ?_
 ·exact Q8 (l := [1, 2, 3, 7]) (lH := [3]) (kp4 rfl rfl rfl rfl) (Qg rfl Qr) rfl rfl rfl
 ·exact ⟨Nat.zero_le _, by simp⟩
 intro i hI
 try dsimp only
 refine QE ?_ -- 1
 refine Qf fun K hK => Qa Z (Qa Z ?_)
 first | refine QS rfl QW ?_ | refine QS rfl rfl ?_
 refine Z9 Z Z (hK _ _ (Qb (kp5 Z Z Z Z Z) ?_))
 refine Qx Z (fun h1 => ?_) (fun h1 => ?_)
 ·try rw [h1]
  try simp only [qA] at h1
  refine Qw (Qe (kp4 Z Z Z Z) ?_)
  refine QE ?_ -- 2
  refine QD (Qf fun K hK => QP (ds0 := [7, 1, 0]) (cs := [_]) Z Z Z Z Z Z (Qa Z (Qa Z (Qa Z (QL Z Z Z (by omega) (QT (by omega)) Z (Za Z Z (QR (ds0 := [7, 1, 0]) Z Z Z Z Z (QX (ds0 := [1, 0]) (Z4 hw hl) Z Z (.inr Z) Z Z (Qa Z (Qa Z ?_))))))))))
  refine QL Z Z Z (by omega) (QT (by omega)) Z (Za Z Z (QR (ds0 := [1, 0]) Z Z Z Z Z (QX (ds0 := [0]) (X1) Z Z (.inr Z) Z Z (XY Z Z (hK _ _ (Qb (kp5 Z Z Z Z Z) ?_))))))
  refine Qx Z (fun h2 => ?_) (fun h2 => ?_)
  ·try rw [h2]
   try simp only [qA] at h2
   refine Qf fun K hK => Qa Z (hK _ _ (Qb (kp1 Z) ?_))
   refine Qv (Qu (Qk (Q9 (Qu (Qk (Qt Z ?_))))))
   rw [Qdu, XZ (i := i) (by omega) (by simpa using h2)]
  ·try rw [h2]
   try simp only [qA] at h2
   refine Qw (Qi (Qe (kp4 Z Z Z Z) (QO fun K hK => Qa Z (Q2 Z Z (by first | exact Qs (by omega) (by omega) | rfl) (Qa Z (hK _ ?_))))))
   refine Qm (i + 1) ?_ ?_ ?_
   ·exact Q8 (l := [1, 2, 3, 7]) (lH := [3]) (kp4 rfl rfl rfl rfl) (Qg rfl Qr) rfl rfl rfl
   ·exact ⟨by omega, Yf (by omega) hI.2 (by simpa using h2)⟩
   ·first | omega | (simp only; omega) | (dsimp only; omega)
 ·try rw [h1]
  try simp only [qA] at h1
  refine Zl (QN (QC (QJ (Qe (Q7) (Qf fun K hK => Qa Z (hK _ _ (Qb (kp1 Z) ?_)))))))
  refine Qv (Qt Z ?_)
  rw [Qdu, XO (i := i) (by omega) hI.2]
theorem Qc2 {w : Qq} (hw : WSm w) {l : List QK} (hl : l.length <= 10000000) {inc : List TermT} (hi : inc.length <= 1000000) : Ok Tryz.prog 100 [Z6 w, Zt l, ZN inc] (.int .i64 (Qgs w l inc)) := by
 refine Ok.ofT ZY Tryz.func100 Qs8 (Nat.le_of_ble_eq_true Z) ?_
 show TW _ _ tf100.body _ _
 refine Qf fun K hK => Zz Z Z Z (Qa Z (hK _ _ (Qb (kp3 Z Z Z) ?_)))
 refine Qf fun K hK => Qa Z (hK _ _ (Qb (kp4 Z Z Z Z) ?_))
 refine QE ?_ -- 0
 refine Qf fun K hK => Qa Z (hK _ _ (Qb (kp5 Z Z Z Z Z) ?_))
 refine QD ?_
 refine Zs (ι := Nat × Int) (fun ⟨i, a⟩ => ⟨[(1, Zt l), (2, ZN inc), (3, .ref 3 0 0), (7, .int .i64 a), (8, .int .i64 i)], [(3, ⟨[[.sl ((w).map YX)]], 1, 26, true⟩)]⟩) (fun ⟨i, a⟩ => i <= inc.length /\ XB (Ze w l) inc (-1) = XB (Ze w l) (inc.drop i) a) (fun ⟨i, a⟩ => inc.length - i) (0, -1) ?_ ?_ ?_
 ·exact Q8 (l := [1, 2, 3, 7, 8]) (lH := [3]) (kp5 rfl rfl rfl rfl rfl) (Qg rfl Qr) rfl rfl rfl
 ·exact ⟨Nat.zero_le _, by simp⟩
 intro ⟨i, a⟩ hI
 dsimp only at hI
 try dsimp only
 refine QE ?_ -- 1
 refine Qf fun K hK => Qa Z (Qa Z ?_)
 first | refine QS rfl QW ?_ | refine QS rfl rfl ?_
 refine Z9 Z Z (hK _ _ (Qb (kp6 Z Z Z Z Z Z) ?_))
 refine Qx Z (fun h1 => ?_) (fun h1 => ?_)
 ·try rw [h1]
  try simp only [qA] at h1
  refine Qw (Qe (kp5 Z Z Z Z Z) ?_)
  refine QE ?_ -- 2
  refine QD (Qf fun K hK => QP (ds0 := [6, 0]) (cs := [_]) Z Z Z Z Z Z (Qa Z (Qa Z (Qa Z (QL Z Z Z (by omega) (QT (by omega)) Z (Za Z Z (QR (ds0 := [6, 0]) Z Z Z Z Z (QX (ds0 := [0]) (Z4 hw hl) Z Z (.inr Z) Z Z (Qa Z (Qa Z ?_))))))))))
  refine QL Z Z Z (by omega) (QT (by omega)) Z (Za Z Z (QR (ds0 := [0]) Z Z Z Z Z (QX (ds0 := []) (X1) Z Z (.inr Z) Z Z (hK _ _ (Qb (kp6 Z Z Z Z Z Z) ?_)))))
  refine QD (Qf fun K hK => ZD Z Z (Qa Z (hK _ _ (Qb (kp7 Z Z Z Z Z Z Z) ?_))))
  refine Qx Z (fun h2 => ?_) (fun h2 => ?_)
  ·try rw [h2]
   try simp only [qA] at h2
   refine Qf fun K hK => Qa Z (hK _ _ (Qb (kp1 Z) ?_))
   refine Qv (Qu (Qu (Qk (Q9 (Qu (Qk (QA Z ?_)))))))
   rw [Qgs, hI.2, QbI (by omega), if_pos h2]
  ·try rw [h2]
   try simp only [qA] at h2
   refine Qf fun K hK => ZD Z Z (Qa Z (hK _ _ (Qb (kp6 Z Z Z Z Z Z) ?_)))
   refine Qx Z (fun h3 => ?_) (fun h3 => ?_)
   ·try rw [h3]
    try simp only [qA] at h3
    refine QE ?_ -- 3
    refine Qf fun K hK => Qa Z (Qet Z Z (hK _ _ (Qb (kp5 Z Z Z Z Z) ?_)))
    refine Qx Z (fun h4 => ?_) (fun h4 => ?_)
    ·try rw [h4]
     try simp only [qA] at h4
     refine Qf fun K hK => Qa Z (hK _ _ (Qb (kp1 Z) ?_))
     refine Qv (Qk (Qu (Qu (Qk (Q9 (Qu (Qk (QA Z ?_))))))))
     rw [Qgs, hI.2, QbI (by omega), if_neg h2, if_pos h3, if_pos h4]
    ·try rw [h4]
     try simp only [qA] at h4
     refine Qw (Qe (kp4 Z Z Z Z) (QO fun K hK => Qa Z (Qa Z (QL Z Z Z (by omega) (QT (by omega)) Z (Za Z Z (Qy Z Z Z (Qa Z (hK _ ?_))))))))
     refine Qi (Qi (Qe (kp5 Z Z Z Z Z) (QO fun K hK => Qa Z (Q2 Z Z (by first | exact Qs (by omega) (by omega) | rfl) (Qa Z (hK _ ?_))))))
     refine Qm (i + 1, (inc[i]'(by omega)).u) ?_ ?_ ?_
     ·exact Q8 (l := [1, 2, 3, 7, 8]) (lH := [3]) (kp5 rfl rfl rfl rfl rfl) (Qg rfl Qr) rfl rfl rfl
     ·exact ⟨by omega, by rw [hI.2, QbI (by omega), if_neg h2, if_pos h3, if_neg h4]⟩
     ·show inc.length - (i + 1) < inc.length - i; omega
   ·try rw [h3]
    try simp only [qA] at h3
    refine Qw (Qi (Qi (Qe (kp5 Z Z Z Z Z) (QO fun K hK => Qa Z (Q2 Z Z (by first | exact Qs (by omega) (by omega) | rfl) (Qa Z (hK _ ?_)))))))
    refine Qm (i + 1, a) ?_ ?_ ?_
    ·exact Q8 (l := [1, 2, 3, 7, 8]) (lH := [3]) (kp5 rfl rfl rfl rfl rfl) (Qg rfl Qr) rfl rfl rfl
    ·exact ⟨by omega, by rw [hI.2, QbI (by omega), if_neg h2, if_neg h3]⟩
    ·show inc.length - (i + 1) < inc.length - i; omega
 ·try rw [h1]
  try simp only [qA] at h1
  refine Zl (QN (QC (QJ (Qe (kp1 Z) (Qf fun K hK => Qa Z (Qa Z (hK _ _ (Qb (kp1 Z) ?_))))))))
  refine Qv (QA Z ?_)
  rw [Qgs, hI.2, QjK (by omega)]
theorem Qc0 {w : Qq} (hw : WSm w) {db : List (List TermT)} (hd : db.length <= 100000000) (hi : ∀ x ∈ db, x.length <= 1000000) {l : List QK} (hl : l.length <= 10000000) : Ok Tryz.prog 75 [Z6 w, dDb db, Zt l] (.tup [.int .i64 (Yv w db l).1, .int .i64 (Yv w db l).2]) := by
 refine Ok.ofT ZY Tryz.func75 QuG (Nat.le_of_ble_eq_true Z) ?_
 show TW _ _ tf75.body _ _
 refine Qf fun K hK => Zz Z Z Z (Qa Z (Qa Z (hK _ _ (Qb (kp3 Z Z Z) ?_))))
 refine QE ?_ -- 0
 refine Qf fun K hK => Qa Z (hK _ _ (Qb (kp4 Z Z Z Z) ?_))
 refine QD ?_
 refine Zs (ι := Nat) (fun i => ⟨[(1, dDb db), (2, Zt l), (3, .ref 3 0 0), (8, .int .i64 i)], [(3, ⟨[[.sl ((w).map YX)]], 1, 26, true⟩)]⟩) (fun i => i <= db.length /\ Yv w db l = Xk w l i (db.drop i)) (fun i => db.length - i) 0 ?_ ?_ ?_
 ·exact Q8 (l := [1, 2, 3, 8]) (lH := [3]) (kp4 rfl rfl rfl rfl) (Qg rfl Qr) rfl rfl rfl
 ·exact ⟨Nat.zero_le _, rfl⟩
 intro i hI
 try dsimp only
 refine QE ?_ -- 1
 refine Qf fun K hK => Qa Z (Qa Z ?_)
 first | refine QS rfl QW ?_ | refine QS rfl rfl ?_
 refine Z9 Z Z (hK _ _ (Qb (kp5 Z Z Z Z Z) ?_))
 refine Qx Z (fun h1 => ?_) (fun h1 => ?_)
 ·try rw [h1]
  try simp only [qA] at h1
  refine Qw (Qe (kp4 Z Z Z Z) ?_)
  refine QE ?_ -- 2
  refine QD ?_
  refine QE ?_ -- 3
  refine Qf fun K hK => QP (ds0 := [0]) (cs := [_]) Z Z Z Z Z Z (Qa Z (Qa Z (Qa Z (QL Z Z Z (by omega) (QT (by omega)) Z (QR (ds0 := [0]) Z Z Z Z Z (QX (ds0 := []) (Qc1 hw hl (hi _ (List.getElem_mem (by omega)))) Z Z (.inr Z) Z Z (hK _ _ (Qb (kp5 Z Z Z Z Z) ?_))))))))
  refine Qx Z (fun h2 => ?_) (fun h2 => ?_)
  ·try rw [h2]
   try simp only [qA] at h2
   refine Qf fun K hK => Qa Z (Qa Z (Qa Z (hK _ _ (Qb (kp2 Z Z) ?_))))
   refine Qv (Qk (Qu (Qk (Q9 (Qu (Qk ?_))))))
   rw [hI.2, QkV (by omega), if_pos h2]
   exact QV rfl rfl ⟨rfl, rfl⟩
  ·try rw [h2]
   try simp only [qA] at h2
   refine Qw (Qe (kp4 Z Z Z Z) (Qf fun K hK => QP (ds0 := [1, 0]) (cs := [_]) Z Z Z Z Z Z (Qa Z (Qa Z (Qa Z (QL Z Z Z (by omega) (QT (by omega)) Z (QR (ds0 := [1, 0]) Z Z Z Z Z (QX (ds0 := [0]) (Qc2 hw hl (hi _ (List.getElem_mem (by omega)))) Z Z (.inr Z) Z Z (Qa Z (hK _ _ (Qb (kp5 Z Z Z Z Z) ?_)))))))))))
   refine Qf fun K hK => Qa Z (Qet Z Z (hK _ _ (Qb (kp6 Z Z Z Z Z Z) ?_)))
   refine Qx Z (fun h3 => ?_) (fun h3 => ?_)
   ·try rw [h3]
    try simp only [qA] at h3
    refine Qf fun K hK => Qa Z (Qa Z (Qa Z (Qa Z (hK _ _ (Qb (kp2 Z Z) ?_)))))
    refine Qv (Qu (Qk (Q9 (Qu (Qk ?_)))))
    rw [hI.2, QkV (by omega), if_neg (by rw [h2]; simp), if_pos h3]
    exact QV rfl rfl ⟨rfl, rfl⟩
   ·try rw [h3]
    try simp only [qA] at h3
    refine Qw (Qi (Qe (kp4 Z Z Z Z) (QO fun K hK => Qa Z (Q2 Z Z (by first | exact Qs (by omega) (by omega) | rfl) (Qa Z (hK _ ?_))))))
    refine Qm (i + 1) ?_ ?_ ?_
    ·exact Q8 (l := [1, 2, 3, 8]) (lH := [3]) (kp4 rfl rfl rfl rfl) (Qg rfl Qr) rfl rfl rfl
    ·exact ⟨by omega, by rw [hI.2, QkV (by omega), if_neg (by rw [h2]; simp), if_neg h3]⟩
    ·first | omega | (simp only; omega) | (dsimp only; omega)
 ·try rw [h1]
  try simp only [qA] at h1
  refine Zl (QN (QC (QJ (Qe (Q7) (Qf fun K hK => Qa Z (Qa Z (hK _ _ (Qb (kp2 Z Z) ?_))))))))
  refine Qv ?_
  rw [hI.2, QpQ (by omega)]
  exact QV rfl rfl ⟨rfl, rfl⟩
end Go.Proofs
namespace M25
open Go Go.Abs M3
def Qo4 (w : Qq) (i : Nat) : List (List TermT) := ((Qd3 w).take i).map RowT.t
theorem QhZ {w : Qq} {i : Nat} (h : i < (Qd3 w).length) : Qo4 w (i + 1) = Qo4 w i ++ [(Qd3 w)[i].t] := by
 rw [Qo4, List.take_succ_eq_append_getElem h, List.map_append]; rfl
theorem Qqi {w : Qq} {i : Nat} (h : (Qd3 w).length <= i) : Qo4 w i = mDB w := by rw [Qo4, List.take_of_length_le h]; rfl
theorem Qo5 (w : Qq) (i : Nat) : (Qo4 w i).length <= (Qd3 w).length := by rw [Qo4, List.length_map]; exact List.length_take_le' ..
theorem QoY {w : Qq} (hw : WSm w) (h0 : 0 < w.length) : (Qd3 w).length <= 1600000 := by
 have := (Qcz hw h0 w.length (Nat.le_refl _)).2
 have := hw.len
 rw [Qd3]; omega
theorem Qox {w : Qq} {db : List (List TermT)} : ∀ (n : Nat) (out : List QK), (Qfj w db n out).1.length <= out.length + n
 | 0, out => Nat.le_refl _
 | n + 1, out => by
  rw [Qfj]
  split
  ·simp
  ·refine Nat.le_trans (Qox n _) ?_
   have := Qg9 w out ⟨(Yv w db out).2, Qd7 w (db.getD (Yv w db out).1.toNat []) (Yv w db out).2⟩ (Yv w db out).1
   omega
theorem Qka {v : Int} (h : (v + 1).toNat <= 61) : IntKind.i64.wrap ((1 : Int) * 2 ^ min (v + 1).toNat IntKind.i64.bits) = 2 ^ (v + 1).toNat := by
 rw [show min (v + 1).toNat IntKind.i64.bits = (v + 1).toNat from by simp only [IntKind.bits]; omega, Int.one_mul]
 have := QiB (i := (v + 1).toNat) (by omega)
 exact Qs (by omega) (by omega)
theorem QoC {α : Type} {f : α -> List D} {l : List α} {k : Int} (h : k = (l.length : Int)) : ((l.map f).take k.toNat).drop (((0 : Nat) : Int)).toNat = l.map f := by
 subst h; rw [Int.toNat_natCast, List.take_of_length_le (by simp)]; rfl
end M25
namespace Go.Proofs
open Go Go.Abs M3 M25
set_option linter.unusedVariables false
set_option linter.unusedSimpArgs false
theorem Qdj {w : Qq} (hw : WSm w) {db : List (List TermT)} (hd : db.length <= 100000000) (hi : ∀ x ∈ db, x.length <= 1000000) {l : List QK} (hl : l.length <= 1000000) : Ok Tryz.prog 44 [Z6 w, dDb db, Zt l] (.tup [Zt (Qgu w db l).1, .int .i64 (Qgu w db l).2]) := by
 refine Ok.ofT ZY Tryz.func44 Qug (Nat.le_of_ble_eq_true Z) ?_
 show TW _ _ tf44.body _ _
 have hn := hw.len
 refine Qf fun K hK => Zz Z Z Z (Qa Z (Qa Z (hK _ _ (Qb (kp3 Z Z Z) ?_))))
 refine Qf fun K hK => Qa Z (Qp7 Z Z (fun _ h => QoF QmQ h) Z (.inl Z) (by simp) (by simp; omega) (by simp; omega) (Qa Z (hK _ _ (Qb (kp3 Z Z Z) ?_))))
 refine QE ?_ -- 0
 refine Qf fun K hK => Qa Z (hK _ _ (Qb (kp4 Z Z Z Z) ?_))
 refine QD ?_
 refine Zs (ι := Nat × List QK) (fun ⟨n, out⟩ => ⟨[(1, dDb db), (3, .ref 3 0 0), (8, Zt out), (9, .int .i64 n)], [(3, ⟨[[.sl ((w).map YX)]], 1, 26, true⟩)]⟩) (fun ⟨n, out⟩ => n <= w.length * 18 + 1 /\ out.length <= l.length + n /\ Qgu w db l = Qfj w db (w.length * 18 + 1 - n) out) (fun ⟨n, out⟩ => w.length * 18 + 1 - n) (0, l) ?_ ?_ ?_
 ·exact le_trans (QlE (l := [1, 3, 9]) (lH := [3]) 13 8 (kp3 rfl rfl rfl) (Qg rfl Qr) rfl rfl rfl (by simp) rfl rfl rfl rfl) (Q8 (l := [1, 3, 8, 9]) (lH := [3]) (kp4 rfl rfl rfl rfl) (Qg rfl Qr) rfl rfl rfl)
 ·exact ⟨Nat.zero_le _, Nat.le_refl _, rfl⟩
 intro ⟨n, out⟩ hI
 obtain ⟨hI1, hI2, hI3⟩ := hI
 try dsimp only at hI1 hI2 hI3
 try dsimp only
 refine QE ?_ -- 1
 refine Qf fun K hK => Qa Z (Qj Z Z (Qy Z Z Z ?_))
 first | refine QS rfl QW ?_ | refine QS rfl rfl ?_
 refine QqM Z Z (by first | exact Qs (by omega) (by omega) | rfl) (QqL Z Z (hK _ _ (Qb (kp5 Z Z Z Z Z) ?_)))
 refine Qx Z (fun h1 => ?_) (fun h1 => ?_)
 ·try rw [h1]
  try simp only [qA] at h1
  refine Qw (Qe (kp4 Z Z Z Z) ?_)
  refine QE ?_ -- 2
  refine QD (Qf fun K hK => QH (cs := [_]) Z Z Z Z (Qa Z (Qa Z (QF (Qc0 hw hd hi (by omega)) Z Z (.inl Z) (Qa Z (Zd Z Z (Zd Z Z (Qa Z (Qa Z (hK _ _ (Qb (kp6 Z Z Z Z Z Z) ?_)))))))))))
  refine QE ?_ -- 3
  refine Qf fun K hK => Qa Z (Z9 Z Z (hK _ _ (Qb (kp7 Z Z Z Z Z Z Z) ?_)))
  refine Qx Z (fun h2 => ?_) (fun h2 => ?_)
  ·try rw [h2]
   try simp only [qA] at h2
   try have hu := QjV h2
   refine Qf fun K hK => Qa Z (Qa Z (Qa Z (Qa Z (hK _ _ (Qb (kp2 Z Z) ?_)))))
   refine Qv (Qk (Qu (Qk (Q9 (Qu (Qk ?_))))))
   rw [hI3, QmR h2 (by omega)]
   exact QV rfl rfl ⟨rfl, rfl⟩
  ·try rw [h2]
   try simp only [qA] at h2
   try have hu := QjV h2
   refine Qw (Qe (kp6 Z Z Z Z Z Z) (QO fun K hK => QP (ds0 := [4, 3, 2, 1, 0]) (cs := [_]) Z Z Z Z Z Z (Qa Z (Qa Z (QP (ds0 := [7, 6, 4, 3, 2, 1, 0]) (cs := [_]) Z Z Z Z Z Z (Qa Z (Qa Z (QL Z Z Z (by omega) (ZA (by omega) (by omega)) Z (QR (ds0 := [7, 6, 4, 3, 2, 1, 0]) Z Z Z Z Z (Qa Z ?_))))))))))
   refine QX (ds0 := [6, 4, 3, 2, 1, 0]) (Xa hw (hi _ (List.getElem_mem (by omega)))) Z Z (.inr Z) Z Z (QU Z Z (Qa Z (QX (ds0 := [3, 2, 1, 0]) (QbY (t := ⟨(Yv w db out).2, Qd7 w (db[(Yv w db out).1.toNat]'(by omega)) (Yv w db out).2⟩) hw (by omega)) Z Z (.inl Z) Z Z (Qa Z (Zd Z Z (Zd Z Z (Qa Z (hK _ ?_))))))))
   refine Qi (Qe (kp4 Z Z Z Z) (QO fun K hK => Qa Z (Q2 Z Z (by first | exact Qs (by omega) (by omega) | rfl) (Qa Z (hK _ ?_)))))
   refine Qm (n + 1, (Yu w out ⟨(Yv w db out).2, Qd7 w (db[(Yv w db out).1.toNat]'(by omega)) (Yv w db out).2⟩ (Yv w db out).1).getD []) ?_ ?_ ?_
   ·exact Q8 (l := [1, 3, 8, 9]) (lH := [3]) (kp4 rfl rfl rfl rfl) (Qg rfl Qr) rfl rfl rfl
   ·exact ⟨by omega, by have := Qg9 w out ⟨(Yv w db out).2, Qd7 w (db[(Yv w db out).1.toNat]'(by omega)) (Yv w db out).2⟩ (Yv w db out).1; simp only; omega, by rw [hI3, QpO h2 (by omega) (by omega), show w.length * 18 + 1 - (n + 1) = w.length * 18 + 1 - n - 1 by omega]⟩
   ·show w.length * 18 + 1 - (n + 1) < w.length * 18 + 1 - n; omega
 ·try rw [h1]
  try simp only [qA] at h1
  refine Zl (QN (QC (QJ (Qe (kp1 Z) (Qf fun K hK => Qa Z (Qa Z (Qa Z (hK _ _ (Qb (kp2 Z Z) ?_)))))))))
  refine Qv ?_
  rw [hI3, show w.length * 18 + 1 - n = 0 by omega]
  exact QV rfl rfl ⟨rfl, rfl⟩
theorem Qev {w : Qq} (hw : WSm w) (h0 : 0 < w.length) : Ok Tryz.prog 12 [Z6 w, ZI []] (dDb (mDB w)) := by
 refine Ok.ofT ZY Tryz.func12 QtV (Nat.le_of_ble_eq_true Z) ?_
 show TW _ _ tf12.body _ _
 have hn := QoY hw h0
 refine Qf fun K hK => Zz Z Z Z (Qa Z (hK _ _ (Qb (kp2 Z Z) ?_)))
 refine Qf fun K hK => QH (cs := [_]) Z Z Z Z (QF (Qdi hw) Z Z (.inl Z) (Qa Z (hK _ _ (Qb (kp3 Z Z Z) ?_))))
 refine Qf fun K hK => Qa Z (hK _ _ (Qb (kp4 Z Z Z Z) ?_))
 refine QE ?_ -- 0
 refine Qf fun K hK => Qa Z (hK _ _ (Qb (kp5 Z Z Z Z Z) ?_))
 refine QD ?_
 refine Zs (ι := Nat) (fun i => ⟨[(1, ZI []), (2, .ref 2 0 0), (5, Qsa (Qd3 w)), (6, .osl 6 (Qo4 w i).length), (7, .int .i64 i)], [(2, ⟨[[.sl ((w).map YX)]], 1, 26, true⟩), (6, ⟨(Qo4 w i).map (fun t => [ZN t]), 1, 41, true⟩)]⟩) (fun i => i <= (Qd3 w).length) (fun i => (Qd3 w).length - i) 0 ?_ ?_ ?_
 ·exact le_trans (YG 6 6 1 41 rfl rfl) (Q8 (l := [1, 2, 5, 6, 7]) (lH := [2, 6]) (kp5 rfl rfl rfl rfl rfl) (Qg rfl (Qg rfl Qr)) rfl rfl rfl)
 ·exact Nat.zero_le _
 intro i hI
 have hlen := Qo5 w i
 try dsimp only
 refine QE ?_ -- 1
 refine Qf fun K hK => Qa Z (Qa Z ?_)
 first | refine QS rfl QW ?_ | refine QS rfl rfl ?_
 refine Z9 Z Z (hK _ _ (Qb (kp6 Z Z Z Z Z Z) ?_))
 refine Qx Z (fun h1 => ?_) (fun h1 => ?_)
 ·try rw [h1]
  try simp only [qA, List.length_nil] at h1
  refine Qw (Qe (kp5 Z Z Z Z Z) ?_)
  refine QE ?_ -- 2
  refine QD (QO fun K hK => Qa Z (Qa Z (Qa Z (QL Z Z Z (by omega) (QT (by omega)) Z (Za Z Z (Qy Z Z Z (QI Z Z (XW Z Z (fun _ h => XF Z Z Z h) Z (by simp) Z Z Z (by simp; omega) (by simp; omega) (Qa Z (hK _ ?_))))))))))
  refine Qi (Qe (kp5 Z Z Z Z Z) (QO fun K hK => Qa Z (Q2 Z Z (by first | exact Qs (by omega) (by omega) | rfl) (Qa Z (hK _ ?_)))))
  refine Qm (i + 1) ?_ ?_ ?_
  ·exact Q8 (l := [1, 2, 5, 6, 7]) (lH := [2, 6]) (kp5 rfl rfl rfl rfl rfl) (Qg rfl (Qg rfl Qr)) (by first | (rw [QhZ (by omega)]; done) | (rw [QhZ (by omega)]; rfl) | (rw [QhZ (by omega), List.length_append]; rfl) | (simp [QhZ (by omega)]; done) | (simp [QhZ (by omega)]; omega) | rfl) (by first | (rw [QhZ (by omega)]; done) | (rw [QhZ (by omega)]; rfl) | (rw [QhZ (by omega), List.map_append]; rfl) | (simp [QhZ (by omega)]; done) | rfl) rfl
  ·omega
  ·first | omega | (simp only; omega) | (dsimp only; omega)
 ·try rw [h1]
  try simp only [qA, List.length_nil] at h1
  refine Zl (QN (QC (QJ (Qe (kp3 Z Z Z) ?_))))
  refine QE ?_ -- 3
  refine Qf fun K hK => Qa Z (hK _ _ (Qb (kp4 Z Z Z Z) ?_))
  refine QD ?_
  refine Zs (ι := Unit) (fun _ => ⟨[(1, ZI []), (2, .ref 2 0 0), (6, .osl 6 (mDB w).length), (8, .int .i64 0)], [(2, ⟨[[.sl ((w).map YX)]], 1, 26, true⟩), (6, ⟨(mDB w).map (fun t => [ZN t]), 1, 41, true⟩)]⟩) (fun _ => True) (fun _ => 0) () ?_ ?_ ?_
  ·exact Q8 (l := [1, 2, 6, 8]) (lH := [2, 6]) (kp4 rfl rfl rfl rfl) (Qg rfl (Qg rfl Qr)) (by rw [Qqi (by omega)]) (by rw [Qqi (by omega)]) rfl
  ·trivial
  intro _ hJ
  try dsimp only
  refine QE ?_ -- 4
  refine Qf fun K hK => Qa Z (Qa Z ?_)
  first | refine QS rfl QW ?_ | refine QS rfl rfl ?_
  refine Z9 Z Z (Qa Z ?_)
  refine QB (g := 31) Z (fun h2 => ?_) (fun h2 => ?_)
  ·try rw [h2]
   try simp only [qA, List.length_nil] at h2
   exact absurd h2 (by decide)
  ·try rw [h2]
   try simp only [qA, List.length_nil] at h2
   refine Qp Z (Qp Z (Qp Z (Qp Z (Qp Z (Ql Z Z (hK _ _ (Qb (kp5 Z Z Z Z Z) ?_)))))))
   refine ZS Z (Zl (QN (QC (QJ (Qe (kp1 Z) (Qf fun K hK => Qa Z (Qa Z (hK _ _ (Qb (kp1 Z) ?_)))))))))
   refine Qv ?_
   exact QbJ rfl rfl rfl (by simp) (by rfl)
theorem Qg6 {v : Int} (h0 : -1 <= v) (h1v : v <= 60) : Ok Tryz.prog 82 [.int .i64 v] (.int .i64 (2 ^ (v + 1).toNat)) := by
 refine Ok.ofT ZY Tryz.func82 QuN (Nat.le_of_ble_eq_true Z) ?_
 show TW _ _ tf82.body _ _
 refine Qf fun K hK => Qa Z (hK _ _ (Qb (kp1 Z) ?_))
 refine Qf fun K hK => Qa Z (Q2 Z Z (by first | exact Qs (by omega) (by omega) | rfl) (QoU Z Z (by omega) (Qka (by omega)) (Qa Z (hK _ _ (Qb (kp1 Z) ?_)))))
 refine Qv (QA Z ?_)
 rfl
theorem Qmp {w : Qq} (hw : WSm w) {u : Int} : Ok Tryz.prog 81 [Z6 w, .int .i64 u] (.bool (inW w u)) := by
 refine Ok.ofT ZY Tryz.func81 QuM (Nat.le_of_ble_eq_true Z) ?_
 show TW _ _ tf81.body _ _
 refine Qf fun K hK => Zz Z Z Z (Qa Z (hK _ _ (Qb (kp2 Z Z) ?_)))
 refine Qf fun K hK => Qa Z (Qet Z Z (Qa Z ?_))
 refine QB (g := 7) Z (fun h1 => ?_) (fun h1 => ?_)
 ·try rw [h1]
  try simp only [qA] at h1
  refine Qh Z (Qa Z (Qh Z (Qj Z Z (Qh Z (Qy Z Z Z (Qh Z ?_))))))
  first | refine QS rfl QW ?_ | refine QS rfl rfl ?_
  refine Qh Z (Z9 Z Z (Ql Z Z (Qa Z (hK _ _ (Qb (kp1 Z) ?_)))))
  refine Qv (Qt Z ?_)
  first | rfl | (rw [Qdr (by omega)]; done) | (rw [inW, decide_eq_true h1, Bool.true_and])
 ·try rw [h1]
  try simp only [qA] at h1
  refine Qp Z (Qp Z (Qp Z (Qp Z (Qp Z (Ql Z Z (Qa Z (hK _ _ (Qb (kp1 Z) ?_))))))))
  refine Qv (Qt Z ?_)
  first | rfl | (rw [Qdr (by omega)]; done) | (rw [inW, decide_eq_true h1, Bool.true_and])
theorem QaC {w : Qq} (hw : WSm w) {u : Int} : Ok Tryz.prog 50 [Z6 w, .int .i64 u] (.int .i64 (YC w u)) := by
 refine Ok.ofT ZY Tryz.func50 Qum (Nat.le_of_ble_eq_true Z) ?_
 show TW _ _ tf50.body _ _
 refine Qf fun K hK => Zz Z Z Z (Qa Z (hK _ _ (Qb (kp2 Z Z) ?_)))
 refine QE ?_ -- 0
 refine Qf fun K hK => QH (cs := [_]) Z Z Z Z (Qa Z (QF (Qmp hw) Z Z (.inr Z) (Yh Z (hK _ _ (Qb (kp3 Z Z Z) ?_)))))
 refine Qx Z (fun h1 => ?_) (fun h1 => ?_)
 ·try rw [h1]
  try simp only [qA] at h1
  try have h1b := Qa3.1 h1
  refine Qf fun K hK => Qa Z (hK _ _ (Qb (kp1 Z) ?_))
  refine Qv (Qk (QA Z ?_))
  rw [X2.2 h1]
 ·try rw [h1]
  try simp only [qA] at h1
  try have h1b := Qa3.1 h1
  refine Qw (Qe (kp2 Z Z) (Qf fun K hK => Qj Z Z (Qy Z Z Z (Qa Z (QL Z Z Z (by omega) (ZA (by omega) (by omega)) Z (Za Z Z (Qy Z Z Z ?_)))))))
  first | refine QS rfl QW ?_ | refine QS rfl rfl ?_
  refine QF (Qg6 (by omega) (by have := hw.cs _ (List.getElem_mem (show u.toNat < w.length by omega)); omega)) Z Z (.inr Z) (Qag Z Z (Qj9 (by have := hw.cs _ (List.getElem_mem (show u.toNat < w.length by omega)); omega)) (Qa Z (hK _ _ (Qb (kp1 Z) ?_))))
  refine Qv (QA Z ?_)
  rw [Qfx h1b.1 h1b.2, show min (w[u.toNat]'(by omega)).cs.length 16 = (w[u.toNat]'(by omega)).cs.length from Nat.min_eq_left (hw.cs _ (List.getElem_mem _)), QoL]
theorem Qce {w : Qq} (hw : WSm w) {l : List QK} (hl : l.length <= 10000000) {u : Int} : Ok Tryz.prog 51 [Z6 w, Zt l, .int .i64 u] (.int .i64 (QaW w l u)) := by
 refine Ok.ofT ZY Tryz.func51 Qun (Nat.le_of_ble_eq_true Z) ?_
 show TW _ _ tf51.body _ _
 refine Qf fun K hK => Zz Z Z Z (Qa Z (hK _ _ (Qb (kp3 Z Z Z) ?_)))
 refine QE ?_ -- 0
 refine Qf fun K hK => Qa Z ?_
 first | refine QS rfl QW ?_ | refine QS rfl rfl ?_
 refine Qag Z Z (by first | exact Qs (by omega) (by omega) | rfl) (Qa Z (hK _ _ (Qb (kp4 Z Z Z Z) ?_)))
 refine QD ?_
 refine Zs (ι := Nat) (fun i => ⟨[(1, Zt l), (2, .int .i64 u), (3, .ref 3 0 0), (7, .int .i64 ((i : Int) - 1))], [(3, ⟨[[.sl ((w).map YX)]], 1, 26, true⟩)]⟩) (fun i => i <= l.length /\ QaW w l u = QaW w (l.take i) u) (fun i => i) l.length ?_ ?_ ?_
 ·exact Q8 (l := [1, 2, 3, 7]) (lH := [3]) (kp4 rfl rfl rfl rfl) (Qg rfl Qr) rfl rfl rfl
 ·exact ⟨Nat.le_refl _, by rw [List.take_length]⟩
 intro i hI
 try dsimp only
 refine QE ?_ -- 1
 refine Qf fun K hK => Qa Z (Qet Z Z (hK _ _ (Qb (kp5 Z Z Z Z Z) ?_)))
 refine Qx Z (fun h1 => ?_) (fun h1 => ?_)
 ·try rw [h1]
  try simp only [qA] at h1
  refine Qw (Qe (kp4 Z Z Z Z) ?_)
  refine QE ?_ -- 2
  refine QD (Qf fun K hK => Qa Z (Qa Z (QL Z Z Z (by omega) (ZA (by omega) (by omega)) Z (Za Z Z (Qy Z Z Z (Qa Z (ZD Z Z (hK _ _ (Qb (kp5 Z Z Z Z Z) ?_)))))))))
  refine Qx Z (fun h2 => ?_) (fun h2 => ?_)
  ·try rw [h2]
   try simp only [qA] at h2
   refine Qf fun K hK => Qa Z (Qa Z (QL Z Z Z (by omega) (ZA (by omega) (by omega)) Z (Za Z Z (Qy Z Z Z (Qa Z (hK _ _ (Qb (kp1 Z) ?_)))))))
   refine Qv (Qu (Qk (Q9 (Qu (Qk (QA Z ?_))))))
   rw [hI.2, QnV (k := ((i : Int) - 1).toNat) (by omega) (by omega) h2]
  ·try rw [h2]
   try simp only [qA] at h2
   refine Qw (Qi (Qe (kp4 Z Z Z Z) (QO fun K hK => Qa Z (Qag Z Z (by first | exact Qs (by omega) (by omega) | rfl) (Qa Z (hK _ ?_))))))
   refine Qm (i - 1) ?_ ?_ ?_
   ·exact Q8 (l := [1, 2, 3, 7]) (lH := [3]) (kp4 rfl rfl rfl rfl) (Qg rfl Qr) (by simp only [List.cons.injEq, Prod.mk.injEq, D.int.injEq, and_true, true_and]; omega) rfl rfl
   ·exact ⟨by omega, by rw [hI.2, QmF (k := ((i : Int) - 1).toNat) (by omega) (by omega) h2]⟩
   ·first | omega | (simp only; omega) | (dsimp only; omega)
 ·try rw [h1]
  try simp only [qA] at h1
  refine Zl (QN (QC (QJ (Qe (kp2 Z Z) (Qf fun K hK => QH (cs := [_]) Z Z Z Z (Qa Z (QF (QaC hw) Z Z (.inr Z) (Qa Z (hK _ _ (Qb (kp1 Z) ?_))))))))))
  refine Qv (QA Z ?_)
  rw [hI.2, show i = 0 by omega]; rfl
theorem Qcc {w : Qq} (hw : WSm w) {l : List QK} (hl : l.length <= 10000000) {u : Int} : Ok Tryz.prog 16 [Z6 w, Zt l, .int .i64 u] (.int .i64 (Ze w l u)) := by
 refine Ok.ofT ZY Tryz.func16 QtZ (Nat.le_of_ble_eq_true Z) ?_
 show TW _ _ tf16.body _ _
 refine Qf fun K hK => Zz Z Z Z (Qa Z (hK _ _ (Qb (kp3 Z Z Z) ?_)))
 refine QE ?_ -- 0
 refine Qf fun K hK => QH (cs := [_]) Z Z Z Z (Qa Z (QF (QaC hw) Z Z (.inr Z) (ZD Z Z (hK _ _ (Qb (kp4 Z Z Z Z) ?_)))))
 refine Qx Z (fun h1 => ?_) (fun h1 => ?_)
 ·try rw [h1]
  try simp only [qA] at h1
  refine Qf fun K hK => Qa Z (hK _ _ (Qb (kp1 Z) ?_))
  refine Qv (Qk (QA Z ?_))
  rw [Qim (X2.1 h1)]
 ·try rw [h1]
  try simp only [qA] at h1
  refine Qw (Qe (kp3 Z Z Z) (Qf fun K hK => QH (cs := [_]) Z Z Z Z (Qa Z (Qa Z (QF (Qce hw hl) Z Z (.inr Z) (Qa Z (hK _ _ (Qb (kp1 Z) ?_))))))))
  refine Qv (QA Z ?_)
  rw [Qil (by simpa using fun e => h1 (X2.2 e))]
theorem Y2 {l : List QK} (hl : l.length <= 10000000) : Ok Tryz.prog 17 [Zt l] (.int .i64 (ZV l)) := by
 refine Ok.ofT ZY Tryz.func17 Qt0 (Nat.le_of_ble_eq_true Z) ?_
 show TW _ _ tf17.body _ _
 refine Qf fun K hK => Qa Z (hK _ _ (Qb (kp1 Z) ?_))
 refine QE ?_ -- 0
 refine Qf fun K hK => Qa Z ?_
 first | refine QS rfl QW ?_ | refine QS rfl rfl ?_
 refine ZD Z Z (hK _ _ (Qb (kp2 Z Z) ?_))
 refine Qx Z (fun h1 => ?_) (fun h1 => ?_)
 ·try rw [h1]
  try simp only [qA] at h1
  refine Qf fun K hK => Qa Z (hK _ _ (Qb (kp1 Z) ?_))
  refine Qv (Qk (QA Z ?_))
  rw [Qjw h1]
 ·try rw [h1]
  try simp only [qA] at h1
  refine Qw (Qe (kp1 Z) (Qf fun K hK => Qa Z (Qa Z ?_)))
  first | refine QS rfl QW ?_ | refine QS rfl rfl ?_
  refine Qag Z Z (by first | exact Qs (by omega) (by omega) | rfl) (QL Z Z Z (by omega) (ZA (by omega) (by omega)) Z (Za Z Z (Qy Z Z Z (Qa Z (hK _ _ (Qb (kp1 Z) ?_))))))
  refine Qv (QA Z ?_)
  rw [QlF (k := ((l.length : Int) - 1).toNat) (by omega)]
theorem Qg7 {l : List QK} (hl : l.length <= 10000000) {s : QK} : Ok Tryz.prog 49 [Zt l, .agg (QdQ s)] (Zt (l ++ [s])) := by
 refine Ok.ofT ZY Tryz.func49 Qul (Nat.le_of_ble_eq_true Z) ?_
 show TW _ _ tf49.body _ _
 refine Qf fun K hK => Zz Z Z Z (Qa Z (hK _ _ (Qb (kp2 Z Z) ?_)))
 refine Qf fun K hK => Qa Z (Qa Z ?_)
 first | refine QS rfl QW ?_ | refine QS rfl rfl ?_
 refine Qa Z ?_
 first | refine QS rfl QW ?_ | refine QS rfl rfl ?_
 refine Qlf Z Z Z Z Z (by omega) (by omega) (by simp) QmQ (QoC Z) (QP (ds0 := [2, 1, 0]) (cs := [_, _, _, _]) Z Z Z Z Z Z (QI Z Z (Qes (ds0 := [0]) Z Z (fun _ h => XF Z Z Z h) Z (.inr (by simp)) QmQ (by simp; omega) (by simp; omega) Z Z (Qa Z (hK _ _ (Qb (kp1 Z) ?_))))))
 refine Qv ?_
 exact QbJ rfl rfl rfl (by simp) (by simp [Zt, QdQ])
theorem QgT {w : Qq} (hw : WSm w) {l : List QK} (hl : l.length <= 10000000) (hp : QdB w l) {t : TermT} {c : Int} : Ok Tryz.prog 15 [Z6 w, Zt l, .agg (QeD t), .int .i64 c] (dOS (Yu w l t c)) := by
 refine Ok.ofT ZY Tryz.func15 QtY (Nat.le_of_ble_eq_true Z) ?_
 show TW _ _ tf15.body _ _
 refine Qf fun K hK => Zz Z Z Z (Zz Z Z Z (Qa Z (Qa Z (hK _ _ (Qb (kp4 Z Z Z Z) ?_)))))
 refine Qf fun K hK => QH (cs := [_]) Z Z Z Z (Qa Z (Qj Z Z (Qy Z Z Z (QF (Qcc hw hl) Z Z (.inr Z) (Qa Z (hK _ _ (Qb (kp4 Z Z Z Z) ?_)))))))
 refine QE ?_ -- 0
 refine Qf fun K hK => Qa Z (Z9 Z Z (Qa Z ?_))
 refine QB (g := 18) Z (fun h1 => ?_) (fun h1 => ?_)
 ·try rw [h1]
  try simp only [qA] at h1
  refine Qp Z (Qp Z (Qp Z (Qp Z (Qp Z (Ql Z Z (Qa Z (Qp Z (Qp Z (Qp Z (Qp Z (Qp Z ?_)))))))))))
  refine Ql Z Z (hK _ _ (Qb (kp5 Z Z Z Z Z) ?_))
  refine Zm Z (Qf fun K hK => Qa Z (Qa Z (hK _ _ (Qb (kp2 Z Z) ?_))))
  refine Qv (Qk ?_)
  rw [QcE (.inl h1)]
  exact QV rfl rfl ⟨rfl, rfl⟩
 ·try rw [h1]
  try simp only [qA] at h1
  refine Qh Z (Qa Z (Qh Z (Qj Z Z (Qh Z (Qy Z Z Z (Qh Z (Qb2 Z Z (Qh Z (ZD Z Z (Ql Z Z (Qa Z ?_)))))))))))
  refine QB (g := 25) Z (fun h2 => ?_) (fun h2 => ?_)
  ·try rw [h2]
   try simp only [qA] at h2
   refine Qp Z (Qp Z (Qp Z (Qp Z (Qp Z (Ql Z Z (hK _ _ (Qb (kp5 Z Z Z Z Z) ?_)))))))
   refine Zm Z (Qf fun K hK => Qa Z (Qa Z (hK _ _ (Qb (kp2 Z Z) ?_))))
   refine Qv (Qk ?_)
   rw [Qnn hp h2]
   exact QV rfl rfl ⟨rfl, rfl⟩
  ·try rw [h2]
   try simp only [qA] at h2
   refine Qh Z (Qa Z (Qh Z (Qj Z Z (Qh Z (Qy Z Z Z (Qh Z (Qfm Z Z (Qh Z (ZD Z Z (Ql Z Z (hK _ _ (Qb (kp5 Z Z Z Z Z) ?_))))))))))))
   refine Qx Z (fun h3 => ?_) (fun h3 => ?_)
   ·try rw [h3]
    try simp only [qA] at h3
    refine Qf fun K hK => Qa Z (Qa Z (hK _ _ (Qb (kp2 Z Z) ?_)))
    refine Qv (Qk ?_)
    rw [Qno h3]
    exact QV rfl rfl ⟨rfl, rfl⟩
   ·try rw [h3]
    try simp only [qA] at h3
    refine Qw (Qe (kp4 Z Z Z Z) (Qf fun K hK => Qa Z (Qj Z Z (QR (ds0 := [3, 2, 1]) Z Z Z Z Z (Qa Z (Qj Z Z (QR (ds0 := [7, 3, 2, 1]) Z Z Z Z Z (Qfm Z Z (Qa Z (QX (ds0 := [3, 2, 1]) (Y2 hl) Z Z (.inr Z) Z Z ?_))))))))))
    refine Qa Z (QU Z Z (QX (ds0 := [1]) (Qg7 (s := ⟨t.u, QiR (Ze w l t.u) t.m, ZV l, c⟩) hl) Z Z (.inl Z) Z Z (Qa Z (Qa Z (hK _ _ (Qb (kp2 Z Z) ?_))))))
    refine Qv ?_
    rw [Qnp hp (by omega) h2 h3]
    exact QV rfl rfl ⟨rfl, rfl⟩
end Go.Proofs
namespace M25
open Go Go.Abs M3
/-! ### prop: what is left of each unit, scans -/
structure QrV (w : Qq) (db : List (List TermT)) (l : List QK) (a : Nat) (k : Nat) : Prop where
  ha : a < db.length
  hk : k < db[a].length
  eq : Yv w db l = ((a : Int), db[a][k].u)
  one : QaX (Ze w l db[a][k].u) db[a][k].m = 1
  two : ∀ j, ∀ hj : j < db[a].length, j ≠ k -> QaX (Ze w l db[a][j].u) db[a][j].m = 2
theorem QmN {w : Qq} {l : List QK} {s : QK} (hp : QdB w l) (hs : Lo s.m) : QdB w (l ++ [s]) := fun t ht => by
  rcases List.mem_append.1 ht with ht | ht
  · exact hp t ht
  · simp only [List.mem_singleton] at ht; subst ht; exact hs
def QtO (w : Qq) (l : List QK) (t : TermT) (c : Int) : QK := ⟨t.u, QiR (Ze w l t.u) t.m, ZV l, c⟩
end M25
namespace M25
open Go Go.Abs M3
/-! ### Sets that are made: moderate sizes -/
theorem Qpm (l : List (Cu × Cu)) (x y : Cu) : (Qcq l x y).length <= l.length + 1 := QjB l x y
theorem Qh3 (f : Cu -> Cu -> Bool) : ∀ (c : List Cu) (out : List (Cu × Cu)), (∀ x ∈ c, Cu.sm x) -> (∀ s ∈ out, Cu.sm s.1 /\ Cu.sm s.2) -> (Qcp f c out).length <= out.length + c.length /\ ∀ s ∈ Qcp f c out, Cu.sm s.1 /\ Cu.sm s.2
 | [], out, _, h => ⟨by simp [Qcp], by simpa [Qcp] using h⟩
 | [x], out, _, h => ⟨by simp [Qcp], by simpa [Qcp] using h⟩
 | x :: y :: r, out, hc, h => by
  rw [Qcp]
  have hxy := Qpm out x y
  split
  ·obtain ⟨h1, h2⟩ := Qh3 f (y :: r) (Qcq out x y) (fun z hz => hc z (by simp at hz ⊢; exact .inr hz)) (QlN h (hc x (by simp)) (hc y (by simp)))
   exact ⟨by simp only [List.length_cons] at h1 ⊢; omega, h2⟩
  ·obtain ⟨h1, h2⟩ := Qh3 f (y :: r) out (fun z hz => hc z (by simp at hz ⊢; exact .inr hz)) h
   exact ⟨by simp only [List.length_cons] at h1 ⊢; omega, h2⟩
def SmN (n : Nat) (l : List (Cu × Cu)) : Prop := l.length <= n /\ ∀ s ∈ l, Cu.sm s.1 /\ Cu.sm s.2
theorem SmN.sm {n : Nat} {l : List (Cu × Cu)} (h : SmN n l) (hn : n <= 1000000) : Sm l := ⟨Nat.le_trans h.1 hn, h.2⟩
theorem SmN.up {n m : Nat} {l : List (Cu × Cu)} (h : SmN n l) (hn : n <= m) : SmN m l := ⟨Nat.le_trans h.1 hn, h.2⟩
theorem SmN.nil (n : Nat) : SmN n [] := ⟨Nat.zero_le _, by simp⟩
theorem Qqt {a b : List (Cu × Cu)} {n m : Nat} (ha : SmN n a) (hb : SmN m b) (h : n + m <= 1000000) : SmN (2 + 2 * (n + m)) (Qqq a b) := by
 unfold Qqq
 split
 ·have hab : Sm (a ++ b) := (ha.sm (by omega)).app (hb.sm (by omega)) (by have := ha.1; have := hb.1; omega)
  unfold QkG
  split
  ·obtain ⟨h1, h2⟩ := Qh3 (mIn (a ++ b)) (Y5 (a ++ b)) [] (YH hab) (by simp)
   have := Qco (a ++ b)
   have := ha.1
   have := hb.1
   exact ⟨by simp only [List.length_nil, List.length_append] at *; omega, h2⟩
  ·exact SmN.nil _
 ·exact SmN.nil _
theorem Qoc {a : List (Cu × Cu)} {n : Nat} (ha : SmN n a) (h : n <= 1000000) : SmN (2 + 2 * n) (QkH a) := by
 unfold QkH
 split
 ·obtain ⟨h1, h2⟩ := Qh3 (fun x y => !mIn a x y) (Y5 a) [] (YH (ha.sm h)) (by simp)
  have := Qco a
  have := ha.1
  exact ⟨by simp only [List.length_nil] at *; omega, h2⟩
 ·exact SmN.nil _
def Qmm (n : Nat) (s : QfO) : Prop := SmN n s.1 /\ SmN n s.2
theorem Qsr {a b : QfO} {n m : Nat} (ha : Qmm n a) (hb : Qmm m b) (h : n + m <= 1000000) : Qmm (2 + 2 * (n + m)) (Qqr a b) := by
 unfold Qqr
 split
 ·exact ⟨Qqt ha.1 hb.1 h, Qqt ha.2 hb.2 h⟩
 ·exact ⟨SmN.nil _, SmN.nil _⟩
theorem Qod {a : QfO} {n : Nat} (ha : Qmm n a) (h : n <= 1000000) : Qmm (2 + 2 * n) (Qis a) := by
 unfold Qis
 split
 ·exact ⟨Qoc ha.1 h, Qoc ha.2 h⟩
 ·exact ⟨SmN.nil _, SmN.nil _⟩
theorem QcR (e a b c : Int) (f : Bool) : Cu.sm ⟨e, a, b, c, [], [], f⟩ := ⟨Nat.zero_le _, Nat.zero_le _⟩
theorem QcG {a b c : Int} {p q : List UInt8} (hp : p.length <= 1000000) : Qmm 1 (Xr a b c p q) := by
 unfold Xr
 split
 ·exact ⟨SmN.nil _, SmN.nil _⟩
 ·split
  ·refine ⟨SmN.nil _, ⟨Nat.le_refl _, fun s hs => ?_⟩⟩
   simp only [List.mem_singleton] at hs; subst hs
   exact ⟨⟨hp, Nat.zero_le _⟩, ⟨hp, Nat.zero_le _⟩⟩
  ·refine ⟨⟨Nat.le_refl _, fun s hs => ?_⟩, SmN.nil _⟩
   simp only [List.mem_singleton] at hs; subst hs
   constructor
   ·unfold Qgp; split
    ·exact QcR ..
    ·exact QcR ..
   ·unfold Qd4; split
    ·exact QcR ..
    ·exact QcR ..
def Qm9 : QfO := ([(Qc9, QgX)], [(Qc9, QgX)])
theorem Qqc : Qmm 1 Qm9 := by
 have h : SmN 1 [(Qc9, QgX)] := ⟨Nat.le_refl _, fun s hs => by simp only [List.mem_singleton] at hs; subst hs; exact ⟨QcR .., QcR ..⟩⟩
 exact ⟨h, h⟩
def bnd (i : Nat) : Nat := 4 * 2 ^ i
theorem Qqe {i : Nat} (h : i <= 16) : bnd i <= 262144 := by
 have : 2 ^ i <= 2 ^ 16 := Nat.pow_le_pow_right (by omega) h
 have e : (2 : Nat) ^ 16 = 65536 := by decide
 unfold bnd; omega
theorem Qsy {s : QfO} {i : Nat} (h : Qmm (bnd i - 4) s) {a b c : Int} {p q : List UInt8} (hp : p.length <= 1000000) (hi : i <= 16) : Qmm (bnd (i + 1) - 4) (Qqr s (Xr a b c p q)) := by
 have h1 := Qqe hi
 have h4 : 4 <= bnd i := by unfold bnd; have := Nat.one_le_two_pow (n := i); omega
 have := Qsr h (QcG (a := a) (b := b) (c := c) (q := q) hp) (by omega)
 have e : bnd (i + 1) = 2 * bnd i := by unfold bnd; rw [Nat.pow_succ]; omega
 exact ⟨this.1.up (by omega), this.2.up (by omega)⟩
theorem QpR {s : QfO} {i : Nat} (h : Qmm (bnd i - 4) s) : Qmm (bnd (i + 1) - 4) s := by
 have e : bnd (i + 1) = 2 * bnd i := by unfold bnd; rw [Nat.pow_succ]; omega
 exact ⟨h.1.up (by omega), h.2.up (by omega)⟩
def SetOk (s : QfO) : Prop := Qmm 600000 s
theorem SetOk.sm {s : QfO} (h : SetOk s) : Sm s.1 /\ Sm s.2 := ⟨h.1.sm (by omega), h.2.sm (by omega)⟩
structure CR where
 v : Vr
 x : D
 y : D
 z : D
def dCR (r : CR) : List D := [.int .i64 r.v.a, .int .i64 r.v.b, .int .i64 r.v.c, .str r.v.p, .str r.v.q, r.x, r.y, r.z]
def CR.ren (r : CR) : CR := ⟨r.v, r.x.renS upN, r.y.renS upN, r.z.renS upN⟩
theorem Qnj (l : List CR) : (l.map dCR).map (fun r => r.map (D.renS upN)) = (l.map CR.ren).map dCR := by
 rw [List.map_map, List.map_map]; rfl
structure UR where
 n : List UInt8
 f : List UInt8
 k : Nat
 cs : List CR
def dUR (u : UR) : List D := [.str u.n, .str u.f, .osl u.k u.cs.length]
def UR.ren (u : UR) : UR := ⟨u.n, u.f, upN u.k, u.cs.map CR.ren⟩
theorem Qq5 (l : List UR) : (l.map dUR).map (fun r => r.map (D.renS upN)) = (l.map UR.ren).map dUR := by
 rw [List.map_map, List.map_map]
 refine List.map_congr_left fun u _ => ?_
 simp [dUR, UR.ren, D.renS]
structure Fam (H : List (Nat × Box)) (kg ku eu ec : Nat) (us : List UR) : Prop where
 ne : ku ≠ kg
 u : ∃ pr, lk H ku = some ⟨us.map dUR, 3, eu, pr⟩
 c : ∀ y ∈ us, y.k ≠ kg /\ ∃ pr, lk H y.k = some ⟨y.cs.map dCR, 8, ec, pr⟩
 v : ∀ y ∈ us, y.cs.length <= 16 /\ ∀ z ∈ y.cs, Qg3 z.v
theorem Fam.up {H : List (Nat × Box)} {kg ku eu ec : Nat} {us : List UR} (h : Fam H kg ku eu ec us) : Fam (upH H) (upN kg) (upN ku) eu ec (us.map UR.ren) := by
 obtain ⟨h1, ⟨pu, h2⟩, h3, h4⟩ := h
 refine ⟨fun e => h1 (Qk7 e), ⟨pu, ?_⟩, fun y hy => ?_, fun y hy => ?_⟩
 ·rw [QaV, h2, Option.map_some, Box.ren, Qq5]
 ·obtain ⟨u, hu, rfl⟩ := List.mem_map.1 hy
  obtain ⟨q1, pr, q2⟩ := h3 u hu
  refine ⟨fun e => q1 (Qk7 e), pr, ?_⟩
  show lk (upH H) (upN u.k) = _
  rw [QaV, q2, Option.map_some, Box.ren, Qnj]; rfl
 ·obtain ⟨u, hu, rfl⟩ := List.mem_map.1 hy
  obtain ⟨q1, q2⟩ := h4 u hu
  refine ⟨by simpa [UR.ren] using q1, fun z hz => ?_⟩
  obtain ⟨z0, hz0, rfl⟩ := List.mem_map.1 hz
  exact q2 z0 hz0
theorem Fam.cons {H : List (Nat × Box)} {kg ku eu ec : Nat} {us : List UR} (h : Fam H kg ku eu ec us) {b : Box} : Fam ((kg, b) :: H) kg ku eu ec us := by
 obtain ⟨h1, ⟨pu, h2⟩, h3, h4⟩ := h
 exact ⟨h1, ⟨pu, Qo (Ne.symm h1) h2⟩, fun y hy => let ⟨q1, pr, q2⟩ := h3 y hy; ⟨q1, pr, Qo (Ne.symm q1) q2⟩, h4⟩
def WantIn (n : Nat) (x : WantT) : Prop := 1 <= x.u /\ x.u < n /\ SetOk x.s
def Qi0 (n : Nat) (r : List WantT) : Prop := r.length <= 2 /\ ∀ x ∈ r, WantIn n x
def QfK (n : Nat) (m : Int) (ns : List (List WantT)) : Prop := (ns.length : Int) <= m /\ ∀ r ∈ ns, Qi0 n r
theorem Qrs {n : Nat} {x : WantT} (h : WantIn n x) : Qi0 n [x] := ⟨by simp, by intro y hy; simp only [List.mem_singleton] at hy; subst hy; exact h⟩
theorem Qrt {n : Nat} {x y : WantT} (h : WantIn n x) (h' : WantIn n y) : Qi0 n [x, y] := ⟨by simp, by
 intro z hz
 simp only [List.mem_cons, List.not_mem_nil, or_false] at hz
 rcases hz with rfl | rfl
 ·exact h
 ·exact h'⟩
theorem Qou {n : Nat} {ns : List (List WantT)} {r : List WantT} (h : ∀ r ∈ ns, Qi0 n r) (hr : Qi0 n r) : ∀ x ∈ ns ++ [r], Qi0 n x := fun x hx => by
 rcases List.mem_append.1 hx with hx | hx
 ·exact h x hx
 ·simp only [List.mem_singleton] at hx; subst hx; exact hr
end M25
namespace Go.Proofs
open Go Go.Abs M3 M25
set_option linter.unusedVariables false
set_option linter.unusedSimpArgs false
theorem Qcu {s : St} {args : List Opd} {kg : Nat} {L : List Int} {I n : Int} {et : Nat} (ha : Zx s args = some [.ref kg 0 0, .int .i64 n]) (hg : lk s.H kg = some (gB L I et)) (hL : ∀ x ∈ L, I64 x) (hn : n <= 9223372036854775807) : Qbt Tryz.prog 42 args s [(kg, gB L I et)] [] [(kg, gB L (nxI I) et)] (.int .i64 (nx L I n)) := by
 refine Qll (b' := gB L (nxI I) et) (ds' := [.ref (upN kg) 0 0, .int .i64 n]) ha (fun j x h => ?_) (fun k b hk j hj => ?_) (fun x hx j hj => ?_) ?_ Z Z Z Z ?_
 ·obtain ⟨rfl, rfl⟩ := XK h; exact hg
 ·obtain ⟨rfl, rfl⟩ := XK hk; simp [Box.ids, gB] at hj
 ·simp only [List.mem_cons, List.not_mem_nil, or_false] at hx
  rcases hx with rfl | rfl
  ·simp [D.ids, D.sid] at hj; subst hj; rw [Qz]; rfl
  ·simp [D.ids, D.sid] at hj
 ·rw [Qz]; rfl
 ·exact X0 (by unfold upN; omega) hL hn et
theorem QdI {H : List (Nat × Box)} {kg kc : Nat} {L : List Int} {I : Int} {eg ec : Nat} {pr : Bool} {zs : List CR} (hkg : 1000000 <= kg) (hg : lk H kg = some (gB L I eg)) (hc : lk H kc = some ⟨zs.map dCR, 8, ec, pr⟩) (hne : kg ≠ kc) (hB : Big H) (hC : Closed H) (hL : ∀ x ∈ L, I64 x) (hz : ∀ z ∈ zs, Qg3 z.v) (hn : zs.length <= 16) : ∃ d H2, (∃ s I2, SetOk s /\ d = QhY s /\ H2 = (kg, gB L I2 eg) :: H) /\ OkH Tryz.prog 74 [.ref kg 0 0, .osl kc zs.length] H d H2 := by
 have hkc := hB _ _ hc
 refine OkH.ofX (R := fun d H2 => ∃ s I2, SetOk s /\ d = QhY s /\ H2 = (kg, gB L I2 eg) :: H) ZY Tryz.func74 QuF (Nat.le_of_ble_eq_true Z) ?_
 show TX _ _ tf74.body _ _
 refine Zb fun K hK => ?_
 refine ZF (by repeat (first | exact hB.none (by decide) | refine Zv (by first | decide | omega) ?_)) ?_
 refine hK _ _ (QQ (kp3 Z Z Z) ?_)
 refine Zb fun K hK => Qa Z (YL (Qcu (I := I) Z (Qo (by omega) hg) hL (by omega)) (Qa Z (hK _ _ (QQ (kp4 Z Z Z Z) ?_))))
 refine Zb fun K hK => QF (Ya) Z Z (.inl Z) ?_
 refine ZF (by repeat (first | exact hB.none (by decide) | refine Zv (by first | decide | omega) ?_)) ?_
 refine Q5 Z Z Z Z Z Z Z Z (hK _ _ (QQ (kp5 Z Z Z Z Z) ?_))
 refine XH ?_ -- 0
 refine Zb fun K hK => Qa Z (hK _ _ (QQ (kp6 Z Z Z Z Z Z) ?_))
 refine Yz ?_
 refine QdC (ι := Nat × QfO) (fun ⟨i, s⟩ => ⟨[(0, .ref kg 0 0), (1, .osl kc zs.length), (4, .ref 4 0 0), (5, .int .i64 (nx L I 8)), (6, .ref 6 0 0), (7, .int .i64 i)], [(4, ⟨[[.fsl [], .fsl []]], 2, 78, true⟩), (6, ⟨[[ZL s.1, ZL s.2]], 2, 78, true⟩), (kg, gB L (nxI I) eg)] ++ H⟩) (fun ⟨i, s⟩ => i <= zs.length /\ Qmm (bnd i - 4) s) (fun ⟨i, s⟩ => zs.length - i) (0, ([], [])) ?_ ?_ ?_
 ·exact Qgg (l := [0, 1, 4, 5, 6, 7]) (B := [_, _, _, _]) (kp6 rfl rfl rfl rfl rfl rfl) rfl (by intro p hp; simp only [List.mem_cons, List.not_mem_nil, or_false] at hp; rcases hp with rfl | rfl | rfl <;> exact ⟨by repeat (first | exact Qz | refine Qo (by first | decide | omega) ?_), rfl⟩) rfl (by intro p hp h; simp only [List.mem_cons, List.not_mem_nil, or_false] at hp; rcases hp with rfl | rfl | rfl | rfl <;> first | (simp only at h; omega) | (repeat (first | exact Q3 | refine Q0 ?_))) hB hC (by intro p hp k hk; simp only [List.mem_cons, List.not_mem_nil, or_false] at hp; rcases hp with rfl | rfl | rfl | rfl | rfl | rfl <;> first | (simp [D.ids, D.sid, Zc, QZ, ZI] at hk; done) | (simp [D.ids, D.sid, Zc, QZ, ZI] at hk; subst hk; repeat (first | exact Q3 | exact Zu hg | exact Zu hc | refine Q0 ?_)))
 ·exact ⟨Nat.zero_le _, SmN.nil _, SmN.nil _⟩
 intro ⟨i, s⟩ hI
 try dsimp only at hI
 have hb16 := Qqe (i := i) (by omega)
 try dsimp only
 refine XH ?_ -- 1
 refine Zb fun K hK => Qa Z (Qa Z ?_)
 first | refine QS rfl QW ?_ | refine QS rfl rfl ?_
 refine Z9 Z Z (hK _ _ (QQ (kp7 Z Z Z Z Z Z Z) ?_))
 refine YS Z (fun h1 => ?_) (fun h1 => ?_)
 ·try rw [h1]
  try simp only [qA] at h1
  refine Xd (Q4 (kp6 Z Z Z Z Z Z) ?_)
  refine XH ?_ -- 2
  refine Yz (Zb fun K hK => Qa Z (Qa Z (QiZ Z (QfI (by omega) (by omega)) (Qr0 Z Z (by omega) (Qb2 Z Z (ZD Z Z (hK _ _ (QQ (kp7 Z Z Z Z Z Z Z) ?_))))))))
  refine YS Z (fun h2 => ?_) (fun h2 => ?_)
  ·try rw [h2]
   try simp only [qA] at h2
   have hvp := (hz _ (List.getElem_mem (show i < zs.length by omega))).1
   refine ZW fun K hK => QP (ds0 := [1, 0]) (cs := [_, _]) Z Z Z Z (by simp [Dr.ok, Qcf]) Z (Qa Z (Qa Z (XX (ds0 := [4, 3, 2, 1, 0]) Z Z (Qo (by omega) (Qo (by omega) (Qo (by omega) hc))) (by simp) (by omega) (by omega) Z (by simp [Dr.ok, Qcf]) Z (Qj Z (Zu (Qo (by omega) (Qo (by omega) (Qo (by omega) hc)))) (QP (ds0 := [2, 1, 0]) (cs := [_, _, _, _, _]) Z (Z8 (Qo (by omega) (Qo (by omega) (Qo (by omega) hc))) (QT (by omega))) Z Z (by simp [Dr.ok, Qcf]) Z (QX (ds0 := [1, 0]) (Qac (hz _ (List.getElem_mem (by omega))).1 (hz _ (List.getElem_mem (by omega))).2) Z Z (.inl Z) (by simp [Dr.ok, Qcf]) Z (QX (ds0 := [0]) (Qew (a := s) (b := (Xr (zs[i]'(by omega)).v.a (zs[i]'(by omega)).v.b (zs[i]'(by omega)).v.c (zs[i]'(by omega)).v.p (zs[i]'(by omega)).v.q)) (hI.2.1.sm (by omega)) (hI.2.2.sm (by omega)) ((QcG hvp).1.sm (by omega)) ((QcG hvp).2.sm (by omega)) (by have := hI.2.1.1; have := (QcG (a := (zs[i]'(by omega)).v.a) (b := (zs[i]'(by omega)).v.b) (c := (zs[i]'(by omega)).v.c) (q := (zs[i]'(by omega)).v.q) hvp).1.1; omega) (by have := hI.2.2.1; have := (QcG (a := (zs[i]'(by omega)).v.a) (b := (zs[i]'(by omega)).v.b) (c := (zs[i]'(by omega)).v.c) (q := (zs[i]'(by omega)).v.q) hvp).2.1; omega)) Z Z (.inl Z) (by simp [Dr.ok, Qcf]) Z (Xu (ds0 := []) Z Z Z Z Z Z Z Z (by simp [Dr.ok, Qcf]) Z (hK _ ?_)))))))))
   refine Qi (Q4 (kp6 Z Z Z Z Z Z) (ZW fun K hK => Qa Z (Q2 Z Z (by first | exact Qs (by omega) (by omega) | rfl) (Qa Z (hK _ ?_)))))
   refine Qm (i + 1, Qqr s (Xr (zs[i]'(by omega)).v.a (zs[i]'(by omega)).v.b (zs[i]'(by omega)).v.c (zs[i]'(by omega)).v.p (zs[i]'(by omega)).v.q)) ?_ ?_ ?_
   ·exact Qgg (l := [0, 1, 4, 5, 6, 7]) (B := [_, _, _, _]) (kp6 rfl rfl rfl rfl rfl rfl) rfl (by intro p hp; simp only [List.mem_cons, List.not_mem_nil, or_false] at hp; rcases hp with rfl | rfl | rfl <;> exact ⟨by repeat (first | exact Qz | refine Qo (by first | decide | omega) ?_), rfl⟩) rfl (by intro p hp h; simp only [List.mem_cons, List.not_mem_nil, or_false] at hp; rcases hp with rfl | rfl | rfl | rfl <;> first | (simp only at h; omega) | (repeat (first | exact Q3 | refine Q0 ?_))) hB hC (by intro p hp k hk; simp only [List.mem_cons, List.not_mem_nil, or_false] at hp; rcases hp with rfl | rfl | rfl | rfl | rfl | rfl <;> first | (simp [D.ids, D.sid, Zc, QZ, ZI] at hk; done) | (simp [D.ids, D.sid, Zc, QZ, ZI] at hk; subst hk; repeat (first | exact Q3 | exact Zu hg | exact Zu hc | refine Q0 ?_)))
   ·exact ⟨by show i + 1 <= _; omega, Qsy hI.2 (hz _ (List.getElem_mem (by omega))).1 (by omega)⟩
   ·show zs.length - (i + 1) < zs.length - i; omega
  ·try rw [h2]
   try simp only [qA] at h2
   have hvp := (hz _ (List.getElem_mem (show i < zs.length by omega))).1
   refine Xd (Qi (Q4 (kp6 Z Z Z Z Z Z) (ZW fun K hK => Qa Z (Q2 Z Z (by first | exact Qs (by omega) (by omega) | rfl) (Qa Z (hK _ ?_))))))
   refine Qm (i + 1, s) ?_ ?_ ?_
   ·exact Qgg (l := [0, 1, 4, 5, 6, 7]) (B := [_, _, _]) (kp6 rfl rfl rfl rfl rfl rfl) rfl (by intro p hp; simp only [List.mem_cons, List.not_mem_nil, or_false] at hp; rcases hp with rfl | rfl | rfl <;> exact ⟨by repeat (first | exact Qz | refine Qo (by first | decide | omega) ?_), rfl⟩) rfl (by intro p hp h; simp only [List.mem_cons, List.not_mem_nil, or_false] at hp; rcases hp with rfl | rfl | rfl <;> first | (simp only at h; omega) | (repeat (first | exact Q3 | refine Q0 ?_))) hB hC (by intro p hp k hk; simp only [List.mem_cons, List.not_mem_nil, or_false] at hp; rcases hp with rfl | rfl | rfl | rfl | rfl | rfl <;> first | (simp [D.ids, D.sid, Zc, QZ, ZI] at hk; done) | (simp [D.ids, D.sid, Zc, QZ, ZI] at hk; subst hk; repeat (first | exact Q3 | exact Zu hg | exact Zu hc | refine Q0 ?_)))
   ·exact ⟨by show i + 1 <= _; omega, QpR hI.2⟩
   ·show zs.length - (i + 1) < zs.length - i; omega
 ·try rw [h1]
  try simp only [qA] at h1
  refine QbR (YK (QC (QJ (Q4 (kp3 Z Z Z) ?_))))
  refine XH ?_ -- 3
  refine Zb fun K hK => Qa Z (YL (Qcu (I := nxI I) Z (Qo (by omega) (Qo (by omega) Qz)) hL (by omega)) (hK _ _ (QQ (kp3 Z Z Z) ?_)))
  refine Yz (Zb fun K hK => ZD Z Z (Qa Z (hK _ _ (QQ (kp4 Z Z Z Z) ?_))))
  refine YS Z (fun h3 => ?_) (fun h3 => ?_)
  ·try rw [h3]
   try simp only [qA] at h3
   refine Zb fun K hK => QF (QdL) Z Z (.inl Z) (Q5 Z (Qo (by omega) Z) Z Z Z Z Z Z (hK _ _ (QQ (kp1 Z) ?_)))
   refine Qfc (Qu (QaZ ?_))
   refine ⟨QhY Qm9, (kg, gB L (nxI (nxI I)) eg) :: H, ⟨Qm9, _, ⟨Qqc.1.up (by omega), Qqc.2.up (by omega)⟩, rfl, rfl⟩, (XV hB hC hkg rfl).1, (XV hB hC hkg rfl).2, ?_⟩
   refine QcN (cs := [ZL Qm9.1, ZL Qm9.2]) Z (Z8 (by repeat (first | exact Qz | refine Qo (by first | decide | omega) ?_)) Z) Z Z Z ?_
   exact QaU (B := [_, _, _, _, _]) hB (by repeat (first | exact Qz | refine Qo (by first | decide | omega) ?_)) (by intro p hp h; simp only [List.mem_cons, List.not_mem_nil, or_false] at hp; rcases hp with rfl | rfl | rfl | rfl | rfl <;> first | rfl | (simp only at h; omega))
  ·try rw [h3]
   try simp only [qA] at h3
   refine Zb fun K hK => ZD Z Z (Qa Z (hK _ _ (QQ (kp3 Z Z Z) ?_)))
   refine YS Z (fun h4 => ?_) (fun h4 => ?_)
   ·try rw [h4]
    try simp only [qA] at h4
    refine Zb fun K hK => QH (cs := [_, _]) Z (Z8 (Qo (by omega) Z) Z) Z Z (QF (QdN (a := s) (hI.2.1.sm (by omega)) (hI.2.2.sm (by omega))) Z Z (.inl Z) (Q5 Z (Qo (by omega) Z) Z Z Z Z Z Z (hK _ _ (QQ (kp1 Z) ?_))))
    refine Qfc (Qu (QaZ ?_))
    refine ⟨QhY (Qis s), (kg, gB L (nxI (nxI I)) eg) :: H, ⟨(Qis s), _, ⟨(Qod hI.2 (by omega)).1.up (by omega), (Qod hI.2 (by omega)).2.up (by omega)⟩, rfl, rfl⟩, (XV hB hC hkg rfl).1, (XV hB hC hkg rfl).2, ?_⟩
    refine QcN (cs := [ZL (Qis s).1, ZL (Qis s).2]) Z (Z8 (by repeat (first | exact Qz | refine Qo (by first | decide | omega) ?_)) Z) Z Z Z ?_
    exact QaU (B := [_, _, _, _, _]) hB (by repeat (first | exact Qz | refine Qo (by first | decide | omega) ?_)) (by intro p hp h; simp only [List.mem_cons, List.not_mem_nil, or_false] at hp; rcases hp with rfl | rfl | rfl | rfl | rfl <;> first | rfl | (simp only at h; omega))
   ·try rw [h4]
    try simp only [qA] at h4
    refine Xd (Qi (Q4 (kp2 Z Z) (Zb fun K hK => QH (cs := [_, _]) Z (Z8 (Qo (by omega) Z) Z) Z Z (Q5 Z (Qo (by omega) Z) Z Z Z Z Z Z (hK _ _ (QQ (kp1 Z) ?_))))))
    refine Qfc ?_
    refine ⟨QhY s, (kg, gB L (nxI (nxI I)) eg) :: H, ⟨s, _, ⟨hI.2.1.up (by omega), hI.2.2.up (by omega)⟩, rfl, rfl⟩, (XV hB hC hkg rfl).1, (XV hB hC hkg rfl).2, ?_⟩
    refine QcN (cs := [ZL s.1, ZL s.2]) Z (Z8 (by repeat (first | exact Qz | refine Qo (by first | decide | omega) ?_)) Z) Z Z Z ?_
    exact QaU (B := [_, _, _, _, _]) hB (by repeat (first | exact Qz | refine Qo (by first | decide | omega) ?_)) (by intro p hp h; simp only [List.mem_cons, List.not_mem_nil, or_false] at hp; rcases hp with rfl | rfl | rfl | rfl | rfl <;> first | rfl | (simp only at h; omega))
end Go.Proofs
namespace Go.Proofs
open Go Go.Abs M3 M25
set_option linter.unusedVariables false
set_option linter.unusedSimpArgs false
/-- The call of 'set', over boxes that are lent. -/
theorem Qs3 {H : List (Nat × Box)} {kg kc : Nat} {L : List Int} {I : Int} {eg ec : Nat} {pr : Bool} {zs : List CR} (hg : lk H kg = some (gB L I eg)) (hc : lk H kc = some ⟨zs.map dCR, 8, ec, pr⟩) (hne : kg ≠ kc) (hC : Closed H) (hL : ∀ x ∈ L, I64 x) (hz : ∀ z ∈ zs, Qg3 z.v) (hn : zs.length <= 16) :
  ∃ s I2, SetOk s /\ ∀ (st : St) (args : List Opd), Zx st args = some [.ref kg 0 0, .osl kc zs.length] -> (∀ j x, lk H j = some x -> lk st.H j = some x) -> Qbt Tryz.prog 74 args st H [] [(kg, gB L I2 eg)] (QhY s) := by
 obtain ⟨d, H2, ⟨s, I2, hs, rfl, rfl⟩, hok⟩ := QdI (H := upH H) (kg := upN kg) (kc := upN kc) (L := L) (I := I) (eg := eg) (ec := ec) (pr := pr) (zs := zs.map CR.ren) (by unfold upN; omega) (by rw [QaV, hg]; rfl) (by rw [QaV, hc, Option.map_some, Box.ren, Qnj]) (fun e => hne (Qk7 e)) Qk6 (Qe1 hC) hL
  (fun z hz' => by obtain ⟨z0, h0, rfl⟩ := List.mem_map.1 hz'; exact hz z0 h0) (by simpa using hn)
 refine ⟨s, I2, hs, fun st args ha hF => Qll (b' := gB L I2 eg) (ds' := [.ref (upN kg) 0 0, .osl (upN kc) zs.length]) ha hF hC (fun x hx j hj => ?_) (Zu hg) Z Z Z Z ?_⟩
 ·simp only [List.mem_cons, List.not_mem_nil, or_false] at hx
  rcases hx with rfl | rfl
  ·simp [D.ids, D.sid] at hj; subst hj; exact Zu hg
  ·simp [D.ids, D.sid] at hj; subst hj; exact Zu hc
 ·rw [List.length_map] at hok; exact hok
theorem Qdg {H : List (Nat × Box)} {kg ku : Nat} {L : List Int} {I : Int} {eg eu ec : Nat} {us : List UR} (hkg : 1000000 <= kg) (hg : lk H kg = some (gB L I eg)) (hU : Fam H kg ku eu ec us) (hB : Big H) (hC : Closed H) (hL : ∀ x ∈ L, I64 x) (h2n : 2 <= us.length) (hn : us.length <= 48) : ∃ d H2, (∃ x I2, WantIn us.length x /\ d = .agg (Qff x) /\ H2 = (kg, gB L I2 eg) :: H) /\ OkH Tryz.prog 43 [.ref kg 0 0, .osl ku us.length] H d H2 := by
 obtain ⟨pu, hu⟩ := hU.u
 have hku := hB _ _ hu
 have hne := hU.ne
 have hx0 := QlR (v := QoP L (IntKind.i64.wrap (nxI I - 1))) (n := (us.length : Int) - 1)
 have hx1 := QlQ (v := QoP L (IntKind.i64.wrap (nxI I - 1))) (n := (us.length : Int) - 1) (by omega)
 change 0 <= nx L I ((us.length : Int) - 1) at hx0
 change nx L I ((us.length : Int) - 1) < _ at hx1
 obtain ⟨hyk, pr, hy⟩ := hU.c (us[(1 + nx L I ((us.length : Int) - 1)).toNat]'(by omega)) (List.getElem_mem _)
 obtain ⟨hv1, hv2⟩ := hU.v (us[(1 + nx L I ((us.length : Int) - 1)).toNat]'(by omega)) (List.getElem_mem _)
 obtain ⟨s, I2, hs, hcall⟩ := Qs3 (H := (kg, gB L (nxI I) eg) :: H) Qz (Qo (Ne.symm hyk) hy) (Ne.symm hyk) (hC.pr rfl) hL hv2 hv1
 refine OkH.ofX (R := fun d H2 => ∃ x I2, WantIn us.length x /\ d = .agg (Qff x) /\ H2 = (kg, gB L I2 eg) :: H) ZY Tryz.func43 Quf (Nat.le_of_ble_eq_true Z) ?_
 show TX _ _ tf43.body _ _
 refine Zb fun K hK => ?_
 refine ZF (by repeat (first | exact hB.none (by decide) | refine Zv (by first | decide | omega) ?_)) ?_
 refine hK _ _ (QQ (kp3 Z Z Z) ?_)
 refine Zb fun K hK => Qa Z (Qa Z ?_)
 first | refine QS rfl QW ?_ | refine QS rfl rfl ?_
 refine Qag Z Z (by first | exact Qs (by omega) (by omega) | rfl) (YL (Qcu (I := I) Z (Qo (by omega) hg) hL (by omega)) (Q2 Z Z (by first | exact Qs (by omega) (by omega) | rfl) (Qa Z (hK _ _ (QQ (kp4 Z Z Z Z) ?_)))))
 refine Zb fun K hK => Qa rfl (Qa rfl (Qa rfl (Qa rfl (Y1 rfl rfl (Qo (by omega) (Qo (by omega) hu)) (by simp) (by omega) (by omega) rfl (Qj rfl (Zu (Qo (by omega) (Qo (by omega) hu))) (Qy rfl (Z8 (Qo (by omega) (Qo (by omega) hu)) (ZA (by omega) (by omega))) rfl (YL (hcall _ _ rfl (QaU (B := [_, _]) hB Qz (by intro p hp h; simp only [List.mem_cons, List.not_mem_nil, or_false] at hp; rcases hp with rfl | rfl <;> first | rfl | (simp only at h; omega)))) (QU rfl rfl (Q5 rfl (Qo (by omega) (Qo (by omega) rfl)) rfl rfl rfl rfl rfl rfl (hK _ _ (QQ (kp1 rfl) ?_)))))))))))
 refine Qfc ?_
 refine ⟨.agg (Qff ⟨1 + nx L I ((us.length : Int) - 1), s⟩), (kg, gB L I2 eg) :: H, ⟨⟨1 + nx L I ((us.length : Int) - 1), s⟩, _, ⟨by show 1 <= 1 + _; omega, by show 1 + _ < (us.length : Int); omega, hs⟩, rfl, rfl⟩, (XV hB hC hkg rfl).1, (XV hB hC hkg rfl).2, ?_⟩
 refine QcN (cs := Qff ⟨1 + nx L I ((us.length : Int) - 1), s⟩) Z (Z8 (by repeat (first | exact Qz | refine Qo (by first | decide | omega) ?_)) Z) Z Z Z ?_
 exact QaU (B := [_, _, _, _]) hB (by repeat (first | exact Qz | refine Qo (by first | decide | omega) ?_)) (by intro p hp h; simp only [List.mem_cons, List.not_mem_nil, or_false] at hp; rcases hp with rfl | rfl | rfl | rfl <;> first | rfl | (simp only at h; omega))
/-- The call of 'want'. -/
theorem Ql4 {H : List (Nat × Box)} {kg ku : Nat} {L : List Int} {I : Int} {eg eu ec : Nat} {us : List UR} (hg : lk H kg = some (gB L I eg)) (hU : Fam H kg ku eu ec us) (hC : Closed H) (hL : ∀ x ∈ L, I64 x) (h2 : 2 <= us.length) (hn : us.length <= 48) :
  ∃ x I2, WantIn us.length x /\ ∀ (st : St) (args : List Opd), Zx st args = some [.ref kg 0 0, .osl ku us.length] -> (∀ j x, lk H j = some x -> lk st.H j = some x) -> Qbt Tryz.prog 43 args st H [] [(kg, gB L I2 eg)] (.agg (Qff x)) := by
 obtain ⟨d, H2, ⟨x, I2, hx, rfl, rfl⟩, hok⟩ := Qdg (H := upH H) (kg := upN kg) (ku := upN ku) (L := L) (I := I) (eg := eg) (eu := eu) (ec := ec) (us := us.map UR.ren) (by unfold upN; omega) (by rw [QaV, hg]; rfl) hU.up Qk6 (Qe1 hC) hL (by simpa using h2) (by simpa using hn)
 obtain ⟨pu, hu⟩ := hU.u
 rw [List.length_map] at hx hok
 refine ⟨x, I2, hx, fun st args ha hF => Qll (b' := gB L I2 eg) (ds' := [.ref (upN kg) 0 0, .osl (upN ku) us.length]) ha hF hC (fun x hx j hj => ?_) (Zu hg) Z Z Z Z hok⟩
 simp only [List.mem_cons, List.not_mem_nil, or_false] at hx
 rcases hx with rfl | rfl
 ·simp [D.ids, D.sid] at hj; subst hj; exact Zu hg
 ·simp [D.ids, D.sid] at hj; subst hj; exact Zu hu
end Go.Proofs
namespace Go.Proofs
open Go Go.Abs M3 M25
set_option linter.unusedVariables false
set_option linter.unusedSimpArgs false
theorem QcU {H : List (Nat × Box)} {kg ku : Nat} {L : List Int} {I most : Int} {eg eu ec : Nat} {us : List UR} (hkg : 1000000 <= kg) (hg : lk H kg = some (gB L I eg)) (hU : Fam H kg ku eu ec us) (hB : Big H) (hC : Closed H) (hL : ∀ x ∈ L, I64 x) (h2n : 2 <= us.length) (hn : us.length <= 48) (hm0 : 0 <= most) (hm1 : most <= 10) : ∃ d H2, (∃ ns I2, QfK us.length most ns /\ d = QZ ns /\ H2 = (kg, gB L I2 eg) :: H) /\ OkH Tryz.prog 40 [.ref kg 0 0, .osl ku us.length, .int .i64 most] H d H2 := by
 obtain ⟨pu, hu⟩ := hU.u
 have hku := hB _ _ hu
 have hne := hU.ne
 have hk0 : 0 <= nx L I (most + 1) := QlR
 have hk1 : nx L I (most + 1) < most + 1 := QlQ (by omega)
 refine OkH.ofX (R := fun d H2 => ∃ ns I2, QfK us.length most ns /\ d = QZ ns /\ H2 = (kg, gB L I2 eg) :: H) ZY Tryz.func40 Quc (Nat.le_of_ble_eq_true Z) ?_
 show TX _ _ tf40.body _ _
 refine Zb fun K hK => Qa Z (hK _ _ (QQ (kp3 Z Z Z) ?_))
 refine Zb fun K hK => Qa Z (hK _ _ (QQ (kp4 Z Z Z Z) ?_))
 refine XH ?_ -- 0
 refine Zb fun K hK => Qa Z (Qa Z (Q2 Z Z (by first | exact Qs (by omega) (by omega) | rfl) (YL (Qcu (I := I) Z hg hL (by omega)) (Qa Z (hK _ _ (QQ (kp4 Z Z Z Z) ?_))))))
 refine Yz ?_
 refine QdC (ι := Nat × List (List WantT) × Int) (fun ⟨k, ns, J⟩ => ⟨[(0, .ref kg 0 0), (1, .osl ku us.length), (7, .osl 7 ns.length), (8, .int .i64 k)], [(7, ⟨(ns).map (fun r => [Zc r]), 1, 69, true⟩), (kg, gB L J eg)] ++ H⟩) (fun ⟨k, ns, J⟩ => (ns.length : Int) + k <= most /\ ∀ r ∈ ns, Qi0 us.length r) (fun ⟨k, ns, J⟩ => k) ((nx L I (most + 1)).toNat, [], nxI I) ?_ ?_ ?_
 ·exact le_trans (YG 7 7 1 69 rfl (by repeat (first | exact hB.none (by decide) | refine Zv (by first | decide | omega) ?_))) (Qgg (l := [0, 1, 7, 8]) (B := [_, _]) (kp4 rfl rfl rfl rfl) (by simp only [Int.toNat_of_nonneg hk0] <;> rfl) (by intro p hp; simp only [List.mem_cons, List.not_mem_nil, or_false] at hp; rcases hp with rfl | rfl <;> exact ⟨by repeat (first | exact Qz | refine Qo (by first | decide | omega) ?_), rfl⟩) rfl (by intro p hp h; simp only [List.mem_cons, List.not_mem_nil, or_false] at hp; rcases hp with rfl | rfl <;> first | (simp only at h; omega) | (repeat (first | exact Q3 | refine Q0 ?_))) hB hC (by intro p hp k hk; simp only [List.mem_cons, List.not_mem_nil, or_false] at hp; rcases hp with rfl | rfl | rfl | rfl <;> first | (simp [D.ids, D.sid, Zc, QZ, ZI] at hk; done) | (simp [D.ids, D.sid, Zc, QZ, ZI] at hk; subst hk; repeat (first | exact Q3 | exact Zu hg | exact Zu hu | refine Q0 ?_))))
 ·exact ⟨by simp only [List.length_nil]; omega, by simp⟩
 intro ⟨k, ns, J⟩ hI
 try dsimp only at hI
 try dsimp only
 refine XH ?_ -- 1
 refine Zb fun K hK => Qa Z (QiQ Z Z (hK _ _ (QQ (kp5 Z Z Z Z Z) ?_)))
 refine YS Z (fun h1 => ?_) (fun h1 => ?_)
 ·try rw [h1]
  try simp only [qA] at h1
  refine Xd (Q4 (kp4 Z Z Z Z) ?_)
  refine XH ?_ -- 2
  refine Yz (Zb fun K hK => Qa Z (Qa Z ?_))
  obtain ⟨x1, J1, hx1, hc1⟩ := Ql4 (I := J) (H := (kg, gB L (J) eg) :: H) Qz hU.cons (hC.pr rfl) hL h2n hn
  refine YL (hc1 _ _ rfl (QaU (B := [_, _]) hB (by repeat (first | exact Qz | refine Qo (by first | decide | omega) ?_)) (by intro p hp h; simp only [List.mem_cons, List.not_mem_nil, or_false] at hp; rcases hp with rfl | rfl <;> first | rfl | (simp only at h; omega)))) ?_
  refine QI Z (by repeat (first | exact hB.none (by decide) | refine Zv (by first | decide | omega) ?_)) ?_
  refine Qa Z (hK _ _ (QQ (kp5 Z Z Z Z Z) ?_))
  refine Qr4 (ι := List WantT × Int) (fun ⟨r, J4⟩ => ⟨[(0, .ref kg 0 0), (1, .osl ku us.length), (7, .osl 7 ns.length), (8, .int .i64 k), (9, Zc r)], [(7, ⟨(ns).map (fun r => [Zc r]), 1, 69, true⟩), (kg, gB L J4 eg)] ++ H⟩) (fun ⟨r, J4⟩ => Qi0 us.length r) ?_ ?_
  ·skip
   refine Zb fun K hK => Qa Z (YL (Qcu (I := J1) Z (Qo (by omega) Qz) hL (by omega)) (ZD Z Z (hK _ _ (QQ (kp6 Z Z Z Z Z Z) ?_))))
   refine YS Z (fun h2 => ?_) (fun h2 => ?_)
   ·try rw [h2]
    try simp only [qA] at h2
    refine ZW fun K hK => Qa Z (Qa Z (Qa Z ?_))
    obtain ⟨x2, J2, hx2, hc2⟩ := Ql4 (I := nxI J1) (H := (kg, gB L (nxI J1) eg) :: H) Qz hU.cons (hC.pr rfl) hL h2n hn
    refine YL (hc2 _ _ rfl (QaU (B := [_, _, _, _, _]) hB (by repeat (first | exact Qz | refine Qo (by first | decide | omega) ?_)) (by intro p hp h; simp only [List.mem_cons, List.not_mem_nil, or_false] at hp; rcases hp with rfl | rfl | rfl | rfl | rfl <;> first | rfl | (simp only at h; omega)))) ?_
    refine QI Z (by repeat (first | exact hB.none (by decide) | refine Zv (by first | decide | omega) ?_)) ?_
    refine QqH Z Z (by simp [D.ids, D.sid]) ⟨_, rfl, rfl, rfl, rfl, rfl⟩ (by repeat (first | exact hB.none (by decide) | refine Zv (by first | decide | omega) ?_)) (Qo (by decide) (Qo (by omega) (Qo (by omega) Z))) Z Z Z (by simp) (by simp) ?_
    refine Qa Z (hK _ ?_)
    refine Yo ([x1, x2], J2) ?_ ?_
    ·exact le_trans (QkA (l := [0, 1, 7, 8]) (B := [_, _, _, _, _, _, _, _, _]) (A := [(7, ⟨(ns).map (fun r => [Zc r]), 1, 69, true⟩), (kg, gB L J2 eg)]) 30 9 (kp4 rfl rfl rfl rfl) rfl rfl rfl (by first | (simp; done) | (simp; omega)) (by intro p hp hk; simp only [List.mem_cons, List.not_mem_nil, or_false] at hp; rcases hp with rfl | rfl | rfl | rfl <;> first | (simp [D.ids, D.sid, Zc, QZ, ZI] at hk; done) | (simp [D.ids, D.sid, Zc, QZ, ZI] at hk; omega)) (by intro p hp; simp only [List.mem_cons, List.not_mem_nil, or_false] at hp; rcases hp with rfl | rfl <;> exact ⟨by first | decide | (simp only; omega), by repeat (first | exact Qz | refine Qo (by first | decide | omega) ?_), rfl⟩) (by intro p hp h; simp only [List.mem_cons, List.not_mem_nil, or_false] at hp; rcases hp with rfl | rfl | rfl | rfl | rfl | rfl | rfl | rfl | rfl <;> first | (simp only at h; omega) | (repeat (first | exact Q3 | refine Q0 ?_))) hB hC (by intro p hp k hk; simp only [List.mem_cons, List.not_mem_nil, or_false] at hp; rcases hp with rfl | rfl | rfl | rfl <;> first | (simp [D.ids, D.sid, Zc, QZ, ZI] at hk; done) | (simp [D.ids, D.sid, Zc, QZ, ZI] at hk; subst hk; repeat (first | exact Q3 | exact Zu hg | exact Zu hu | refine Q0 ?_)))) (Qgg (l := [0, 1, 7, 8, 9]) (B := [_, _]) (kp5 rfl rfl rfl rfl rfl) rfl (by intro p hp; simp only [List.mem_cons, List.not_mem_nil, or_false] at hp; rcases hp with rfl | rfl <;> exact ⟨by repeat (first | exact Qz | refine Qo (by first | decide | omega) ?_), rfl⟩) rfl (by intro p hp h; simp only [List.mem_cons, List.not_mem_nil, or_false] at hp; rcases hp with rfl | rfl <;> first | (simp only at h; omega) | (repeat (first | exact Q3 | refine Q0 ?_))) hB hC (by intro p hp k hk; simp only [List.mem_cons, List.not_mem_nil, or_false] at hp; rcases hp with rfl | rfl | rfl | rfl | rfl <;> first | (simp [D.ids, D.sid, Zc, QZ, ZI] at hk; done) | (simp [D.ids, D.sid, Zc, QZ, ZI] at hk; subst hk; repeat (first | exact Q3 | exact Zu hg | exact Zu hu | refine Q0 ?_))))
    ·exact Qrt hx1 hx2
   ·try rw [h2]
    try simp only [qA] at h2
    refine Xd ?_
    refine Yo ([x1], nxI J1) ?_ ?_
    ·exact le_trans (QkA (l := [0, 1, 7, 8]) (B := [_, _, _, _, _]) (A := [(7, ⟨(ns).map (fun r => [Zc r]), 1, 69, true⟩), (kg, gB L (nxI J1) eg)]) 21 9 (kp4 rfl rfl rfl rfl) rfl (Qo (by omega) rfl) rfl (by first | (simp; done) | (simp; omega)) (by intro p hp hk; simp only [List.mem_cons, List.not_mem_nil, or_false] at hp; rcases hp with rfl | rfl | rfl | rfl <;> first | (simp [D.ids, D.sid, Zc, QZ, ZI] at hk; done) | (simp [D.ids, D.sid, Zc, QZ, ZI] at hk; omega)) (by intro p hp; simp only [List.mem_cons, List.not_mem_nil, or_false] at hp; rcases hp with rfl | rfl <;> exact ⟨by first | decide | (simp only; omega), by repeat (first | exact Qz | refine Qo (by first | decide | omega) ?_), rfl⟩) (by intro p hp h; simp only [List.mem_cons, List.not_mem_nil, or_false] at hp; rcases hp with rfl | rfl | rfl | rfl | rfl <;> first | (simp only at h; omega) | (repeat (first | exact Q3 | refine Q0 ?_))) hB hC (by intro p hp k hk; simp only [List.mem_cons, List.not_mem_nil, or_false] at hp; rcases hp with rfl | rfl | rfl | rfl <;> first | (simp [D.ids, D.sid, Zc, QZ, ZI] at hk; done) | (simp [D.ids, D.sid, Zc, QZ, ZI] at hk; subst hk; repeat (first | exact Q3 | exact Zu hg | exact Zu hu | refine Q0 ?_)))) (Qgg (l := [0, 1, 7, 8, 9]) (B := [_, _]) (kp5 rfl rfl rfl rfl rfl) rfl (by intro p hp; simp only [List.mem_cons, List.not_mem_nil, or_false] at hp; rcases hp with rfl | rfl <;> exact ⟨by repeat (first | exact Qz | refine Qo (by first | decide | omega) ?_), rfl⟩) rfl (by intro p hp h; simp only [List.mem_cons, List.not_mem_nil, or_false] at hp; rcases hp with rfl | rfl <;> first | (simp only at h; omega) | (repeat (first | exact Q3 | refine Q0 ?_))) hB hC (by intro p hp k hk; simp only [List.mem_cons, List.not_mem_nil, or_false] at hp; rcases hp with rfl | rfl | rfl | rfl | rfl <;> first | (simp [D.ids, D.sid, Zc, QZ, ZI] at hk; done) | (simp [D.ids, D.sid, Zc, QZ, ZI] at hk; subst hk; repeat (first | exact Q3 | exact Zu hg | exact Zu hu | refine Q0 ?_))))
    ·exact Qrs hx1
  intro ⟨r, J4⟩ hJ
  try dsimp only at hJ
  try dsimp only
  refine ZW fun K hK => Qa Z (Qa Z ?_)
  refine QI Z (by repeat (first | exact hB.none (by decide) | refine Zv (by first | decide | omega) ?_)) ?_
  refine XW Z Z (fun _ h => XF Z Z Z h) Z (by simp) Z Z Z (by simp; omega) (by simp; omega) (Qa Z (hK _ ?_))
  refine Qi (Q4 (kp4 Z Z Z Z) (ZW fun K hK => Qa Z (Qag Z Z (by first | exact Qs (by omega) (by omega) | rfl) (Qa Z (hK _ ?_)))))
  refine Qm (k - 1, ns ++ [r], J4) ?_ ?_ ?_
  ·exact le_trans (Qsm (B := [_, _, _, _]) 7 hB hC) (Qgg (l := [0, 1, 7, 8]) (A := [(7, ⟨ns.map (fun r => [Zc r]) ++ [[Zc r]], 1, 69, true⟩), (kg, gB L J4 eg)]) (B := [_, _, _, _]) (kp4 rfl rfl rfl rfl) (by simp [D.scrub, show ¬ kg = 7 by omega, show ¬ ku = 7 by omega] <;> omega) (by intro p hp; simp only [List.mem_cons, List.not_mem_nil, or_false] at hp; rcases hp with rfl | rfl <;> exact ⟨by repeat (first | exact Qz | refine Qo (by first | decide | omega) ?_), rfl⟩) (by simp) (by intro p hp h; simp only [List.mem_cons, List.not_mem_nil, or_false] at hp; rcases hp with rfl | rfl | rfl | rfl <;> first | (simp only at h; omega) | (repeat (first | exact Q3 | refine Q0 ?_))) hB hC (by intro p hp k hk; simp only [List.mem_cons, List.not_mem_nil, or_false] at hp; rcases hp with rfl | rfl | rfl | rfl <;> first | (simp [D.ids, D.sid, Zc, QZ, ZI] at hk; done) | (simp [D.ids, D.sid, Zc, QZ, ZI] at hk; subst hk; repeat (first | exact Q3 | exact Zu hg | exact Zu hu | refine Q0 ?_))))
  ·exact ⟨by simp only [List.length_append, List.length_singleton]; omega, Qou hI.2 hJ⟩
  ·show k - 1 < k; omega
 ·try rw [h1]
  try simp only [qA] at h1
  refine QbR (YK (QC (QJ (Q4 (kp1 Z) (Zb fun K hK => Qa Z (Qa Z (hK _ _ (QQ (kp1 Z) ?_))))))))
  refine Qfc ?_
  refine ⟨QZ ns, (kg, gB L J eg) :: H, ⟨ns, _, ⟨by omega, hI.2⟩, rfl, rfl⟩, (XV hB hC hkg rfl).1, (XV hB hC hkg rfl).2, ?_⟩
  refine Xe Z (by simp [QmY, D.fz, D.fzS, Qfk, lk, D.can, D.canS, QZ]) ?_
  exact QaU (B := [_, _]) hB (by repeat (first | exact Qz | refine Qo (by first | decide | omega) ?_)) (by intro p hp h; simp only [List.mem_cons, List.not_mem_nil, or_false] at hp; rcases hp with rfl | rfl <;> first | rfl | (simp only at h; omega))
end Go.Proofs
