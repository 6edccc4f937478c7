/- Part 4 of the means of the proof: a verified abstract evaluator, the prepared functions, and contracts of functions. It states nothing of the claim by itself. -/
import Derived.Test.YtoajjnegidhknaaGreatDoorB3
set_option maxRecDepth 4000
set_option linter.unusedSimpArgs false
set_option linter.unusedVariables false
namespace Go.Proofs
open Go Go.Abs M3
theorem Qhu {a b : List UInt8} (ha : a.length <= 1000000) (hb : b.length <= 1000000) : Ok Tryz.prog 148 [.str a, .str b] (.int .i64 (Qgz a b)) := by
 refine Ok.ofT Z6 Tryz.func148 Qtz (QuS Z) ?_
 show TW _ _ tf148.body _ _
 refine Qe fun K hK => Qb Z (hK _ _ (Qa (kp2 Z Z) ?_))
 refine Qe fun K hK => Qb Z (QA (XL (by omega)) Z Z (.inr Z) (Qb Z (QA (XL (by omega)) Z Z (.inr Z) (Qb Z (Qb Z (hK _ _ (Qa (kp4 Z Z Z Z) ?_)))))))
 refine QG ?_ -- 0
 refine Qe fun K hK => Qb Z (Qb Z ?_)
 refine Qz (g := 16) Z (fun h1 => ?_) (fun h1 => ?_)
 ·try rw [h1]
  try simp only [qB] at h1
  refine Qf Z (Qb Z (Qj Z Z (hK _ _ (Qa (kp5 Z Z Z Z Z) ?_))))
  refine Qw Z (fun h2 => ?_) (fun h2 => ?_)
  ·try rw [h2]
   try simp only [qB] at h2
   refine Qe fun K hK => Qb Z (QA (Qa1 (by omega)) Z Z (.inr Z) (Qb Z (Q5 Z Z (Q5 Z Z (Qb Z (Qb Z (hK _ _ (Qa (kp2 Z Z) ?_))))))))
   refine Qe fun K hK => Qb Z (QA (Qa1 (by omega)) Z Z (.inr Z) (Qb Z (Q5 Z Z (Q5 Z Z (Qb Z (Qb Z (hK _ _ (Qa (kp2 Z Z) ?_))))))))
   refine Qe fun K hK => Qb Z (Qb Z (QA (ZR) Z Z (.inr Z) (Qb Z (hK _ _ (Qa (kp1 Z) ?_)))))
   refine Qt (Qk (Qx Z ?_))
   (repeat clear hK K); first | (simp [Qgz, h1, h2]; done) | (simp_all [Qgz]; done)
  ·try rw [h2]
   try simp only [qB] at h2
   refine Qu (Qd (kp4 Z Z Z Z) ?_)
   refine QG ?_ -- 1
   refine Qe fun K hK => Qb Z (Qb Z (Qrv Z Z (hK _ _ (Qa (kp4 Z Z Z Z) ?_))))
   refine Qw Z (fun h3 => ?_) (fun h3 => ?_)
   ·try rw [h3]
    try simp only [qB] at h3
    refine QG ?_ -- 2
    refine Qe fun K hK => Qb Z (hK _ _ (Qa (kp1 Z) ?_))
    refine Zt Z (Qe fun K hK => Qb Z (hK _ _ (Qa (kp1 Z) ?_)))
    refine Qt (Qk (Qk (Qx Z ?_)))
    (repeat clear hK K); first | (simp [Qgz, h1, h2, h3]; done) | (simp_all [Qgz]; done)
   ·try rw [h3]
    try simp only [qB] at h3
    refine Qu (Qd (kp2 Z Z) (Qe fun K hK => Qb Z (Qb Z (QA (X9) Z Z (.inr Z) (Qb Z (hK _ _ (Qa (kp1 Z) ?_)))))))
    refine Qt (Qx Z ?_)
    (repeat clear hK K); first | (simp [Qgz, h1, h2, h3]; done) | (simp_all [Qgz]; done)
 ·try rw [h1]
  try simp only [qB] at h1
  refine Qs Z (Qj Z Z (hK _ _ (Qa (kp5 Z Z Z Z Z) ?_)))
  refine Zs Z (Qu (Qd (kp4 Z Z Z Z) ?_))
  refine QG ?_ -- 1
  refine Qe fun K hK => Qb Z (Qb Z (Qrv Z Z (hK _ _ (Qa (kp4 Z Z Z Z) ?_))))
  refine Qw Z (fun h4 => ?_) (fun h4 => ?_)
  ·try rw [h4]
   try simp only [qB] at h4
   refine QG ?_ -- 2
   refine Qe fun K hK => Qb Z (hK _ _ (Qa (kp1 Z) ?_))
   refine Zs Z (Qu (Qd (ZE) (Qe fun K hK => Qb Z (hK _ _ (Qa (kp1 Z) ?_)))))
   refine Qt (Qk (Qx Z ?_))
   (repeat clear hK K); first | (simp [Qgz, h1, h4]; done) | (simp_all [Qgz]; done)
  ·try rw [h4]
   try simp only [qB] at h4
   refine Qu (Qd (kp2 Z Z) (Qe fun K hK => Qb Z (Qb Z (QA (X9) Z Z (.inr Z) (Qb Z (hK _ _ (Qa (kp1 Z) ?_)))))))
   refine Qt (Qx Z ?_)
   (repeat clear hK K); first | (simp [Qgz, h1, h4]; done) | (simp_all [Qgz]; done)
theorem Qht {s : List UInt8} (hl : s.length <= 1000000) : Ok Tryz.prog 115 [.str s] (.bool (QgA s)) := by
 refine Ok.ofT Z6 Tryz.func115 Qs7 (QuS Z) ?_
 show TW _ _ tf115.body _ _
 refine Qe fun K hK => Qb Z (hK _ _ (Qa (kp1 Z) ?_))
 refine QG ?_ -- 0
 refine Qe fun K hK => Qb Z (QA (Qa4 (by omega)) Z Z (.inr Z) (ZW Z (hK _ _ (Qa (kp2 Z Z) ?_))))
 refine Qw Z (fun h1 => ?_) (fun h1 => ?_)
 ·try rw [h1]
  try simp only [qB, Qq] at h1
  refine Qe fun K hK => Qb Z (hK _ _ (Qa (kp1 Z) ?_))
  refine Qt (Qk (Qn Z ?_))
  first | (simp [QgA, h1]; done) | exact (Qkd (i := i) (by omega) (by simp [Qe1, h1])).symm | exact (Qh1 (i := i) (by assumption) (by omega) hI.2).symm
 ·try rw [h1]
  try simp only [qB, Qq] at h1
  refine Qu (Qd (kp1 Z) ?_)
  refine QG ?_ -- 1
  refine Qe fun K hK => Qb Z (QA (Qag (by omega)) Z Z (.inl Z) (Q4 Z Z (Qb Z (hK _ _ (Qa (kp3 Z Z Z) ?_)))))
  refine QH ?_
  refine ZH (ι := Nat) (fun i => ⟨[(11, .sl (Y2 (Q9 s 46))), (12, .int .i64 (Q9 s 46).length), (13, .int .i64 i)], []⟩) (fun i => i <= (Q9 s 46).length /\ ((Q9 s 46).take i).all Qe1 = true) (fun i => (Q9 s 46).length - i) 0 ?_ ?_ ?_
  ·exact Q6 (l := [11, 12, 13]) (kp3 rfl rfl rfl) Qp (by simp [Qq]) rfl rfl
  ·exact ⟨Qu4 _, rfl⟩
  intro i hI
  have sl := Qej (s := s) (c := 46)
  try dsimp only
  refine Qe fun K hK => Yk Z Z (hK _ _ (Qa (kp4 Z Z Z Z) ?_))
  refine QG ?_ -- 2
  refine Qw Z (fun h2 => ?_) (fun h2 => ?_)
  ·try rw [h2]
   try simp only [qB, Qq] at h2
   refine Qu (Qd (kp3 Z Z Z) ?_)
   refine QG ?_ -- 3
   refine QH (Qe fun K hK => QP Z Z Z (by omega) (Qak (by omega)) Z (QC Z Z Z (Qb Z (hK _ _ (Qa (kp4 Z Z Z Z) ?_)))))
   refine Qe fun K hK => Qb Z (QA (Qa1 (Qan (by omega) hl)) Z Z (.inr Z) (Qb Z (Q5 Z Z (Q5 Z Z (Qb Z (Qb Z (hK _ _ (Qa (kp5 Z Z Z Z Z) ?_))))))))
   refine Qe fun K hK => Qb Z (QA (XL (Qan (by omega) hl)) Z Z (.inr Z) (Qb Z ?_))
   refine Qz (g := 24) Z (fun h3 => ?_) (fun h3 => ?_)
   ·try rw [h3]
    try simp only [qB, Qq] at h3
    refine Qf Z (Qb Z (Qf Z (ZW Z (Qj Z Z (hK _ _ (Qa (kp4 Z Z Z Z) ?_))))))
    refine Qw Z (fun h4 => ?_) (fun h4 => ?_)
    ·try rw [h4]
     try simp only [qB, Qq] at h4
     refine Qe fun K hK => Qb Z (hK _ _ (Qa (kp1 Z) ?_))
     refine Qt (Qv (Qk (Q2 (Qv (Qk (Qn Z ?_))))))
     first | (simp [QgA, h1, h2, h3, h4]; done) | exact (Qkd (i := i) (by omega) (by simp [Qe1, h1, h2, h3, h4])).symm | exact (Qh1 (i := i) (by assumption) (by omega) hI.2).symm
    ·try rw [h4]
     try simp only [qB, Qq] at h4
     refine Qu (Qh (Qd (kp3 Z Z Z) (QR fun K hK => Q8 Z Z (by first | exact Qr (by omega) (by omega) | exact QO (by omega) (by omega) | exact QW (by omega) (by omega) | rfl) (Qb Z (hK _ ?_)))))
     refine Ql (i + 1) ?_ ?_ ?_
     ·exact Q1 (kp3 rfl rfl rfl)
     ·exact ⟨by omega, Zg (by omega) hI.2 (by simp [Qe1, h1, h2, h3, h4])⟩
     ·first | omega | (simp only; omega) | (dsimp only; omega)
   ·try rw [h3]
    try simp only [qB, Qq] at h3
    refine Qs Z (Qs Z (Qj Z Z (hK _ _ (Qa (kp4 Z Z Z Z) ?_))))
    refine Zs Z (Qu (Qh (Qd (kp3 Z Z Z) (QR fun K hK => Q8 Z Z (by first | exact Qr (by omega) (by omega) | exact QO (by omega) (by omega) | exact QW (by omega) (by omega) | rfl) (Qb Z (hK _ ?_))))))
    refine Ql (i + 1) ?_ ?_ ?_
    ·exact Q1 (kp3 rfl rfl rfl)
    ·exact ⟨by omega, Zg (by omega) hI.2 (by simp [Qe1, h1, h2, h3])⟩
    ·first | omega | (simp only; omega) | (dsimp only; omega)
  ·try rw [h2]
   try simp only [qB, Qq] at h2
   refine Ze (QJ (Qy (QI (Qd (ZE) (Qe fun K hK => Qb Z (hK _ _ (Qa (kp1 Z) ?_)))))))
   refine Qt (Qn Z ?_)
   first | (simp [QgA, h1, h2]; done) | exact (Qkd (i := i) (by omega) (by simp [Qe1, h1, h2])).symm | exact (Qh1 (i := i) (by assumption) (by omega) hI.2).symm
theorem Y1 {a b c : Int} {p q : List UInt8} (hp : p.length <= 1000000) (hq : q.length <= 1000000) : Ok Tryz.prog 97 [.agg [.int .i64 a, .int .i64 b, .int .i64 c, .str p, .str q]] (.bool (QbK a b c p q)) := by
 refine Ok.ofT Z6 Tryz.func97 QuO (QuS Z) ?_
 show TW _ _ tf97.body _ _
 refine Qe fun K hK => ZI Z Z Z (Qb Z (hK _ _ (Qa (kp1 Z) ?_)))
 refine Qe fun K hK => Qi Z Z (QC Z Z Z (QA (Qa3) Z Z (.inr Z) (Qb Z ?_)))
 refine Qz (g := 6) Z (fun h1 => ?_) (fun h1 => ?_)
 ·try rw [h1]
  try simp only [qB] at h1
  refine Qf Z (Qi Z Z (Qf Z (QC Z Z Z (Qf Z (QA (Qa3) Z Z (.inr Z) (Qj Z Z (Qb Z ?_)))))))
  refine Qz (g := 11) Z (fun h2 => ?_) (fun h2 => ?_)
  ·try rw [h2]
   try simp only [qB] at h2
   refine Qf Z (Qi Z Z (Qf Z (QC Z Z Z (Qf Z (QA (Qa3) Z Z (.inr Z) (Qj Z Z (Qb Z ?_)))))))
   refine Qz (g := 16) Z (fun h3 => ?_) (fun h3 => ?_)
   ·try rw [h3]
    try simp only [qB] at h3
    refine Qf Z (Qi Z Z (Qf Z (QC Z Z Z (Qf Z (QcU Z Z (Qf Z (Qb Z ?_)))))))
    refine Qz (g := 20) Z (fun h4 => ?_) (fun h4 => ?_)
    ·try rw [h4]
     try simp only [qB] at h4
     refine Qs Z (Qs Z (Qs Z (Qf Z (Qj Z Z (Qj Z Z (Qb Z (Qf Z (Qi Z Z (Qf Z (QC Z Z Z (Qf Z ?_)))))))))))
     refine QcU Z Z (Qf Z (Qb Z ?_))
     refine Qz (g := 30) Z (fun h5 => ?_) (fun h5 => ?_)
     ·try rw [h5]
      try simp only [qB] at h5
      refine Qs Z (Qs Z (Qs Z (Qf Z (Qj Z Z (Qj Z Z (Qb Z (hK _ _ (Qa (kp1 Z) ?_))))))))
      refine Qt (Qn Z ?_)
      simp [QbK, YX, Xu, h1, h2, h3, h4, h5]
     ·try rw [h5]
      try simp only [qB] at h5
      refine Qf Z (Qi Z Z (Qf Z (QC Z Z Z (Qf Z (QA (Qa4 (by omega)) Z Z (.inr Z) (Qf Z (Qj Z Z (Qj Z Z (Qb Z (hK _ _ (Qa (kp1 Z) ?_)))))))))))
      refine Qt (Qn Z ?_)
      simp [QbK, YX, Xu, h1, h2, h3, h4, h5]
    ·try rw [h4]
     try simp only [qB] at h4
     refine Qf Z (Qi Z Z (Qf Z (QC Z Z Z (Qf Z (QA (Qht (by omega)) Z Z (.inr Z) (Qf Z (Qj Z Z (Qj Z Z (Qb Z ?_)))))))))
     refine Qz (g := 26) Z (fun h6 => ?_) (fun h6 => ?_)
     ·try rw [h6]
      try simp only [qB] at h6
      refine Qf Z (Qi Z Z (Qf Z (QC Z Z Z (Qf Z (QcU Z Z (Qf Z (Qb Z ?_)))))))
      refine Qz (g := 30) Z (fun h7 => ?_) (fun h7 => ?_)
      ·try rw [h7]
       try simp only [qB] at h7
       refine Qs Z (Qs Z (Qs Z (Qf Z (Qj Z Z (Qj Z Z (Qb Z (hK _ _ (Qa (kp1 Z) ?_))))))))
       refine Qt (Qn Z ?_)
       simp [QbK, YX, Xu, h1, h2, h3, h4, h6, h7]
      ·try rw [h7]
       try simp only [qB] at h7
       refine Qf Z (Qi Z Z (Qf Z (QC Z Z Z (Qf Z (QA (Qa4 (by omega)) Z Z (.inr Z) (Qf Z (Qj Z Z (Qj Z Z (Qb Z (hK _ _ (Qa (kp1 Z) ?_)))))))))))
       refine Qt (Qn Z ?_)
       simp [QbK, YX, Xu, h1, h2, h3, h4, h6, h7]
     ·try rw [h6]
      try simp only [qB] at h6
      refine Qs Z (Qs Z (Qs Z (Qs Z (QL Z (QL Z (QL Z (Qs Z (Qj Z Z (Qb Z (hK _ _ (Qa (kp1 Z) ?_)))))))))))
      refine Qt (Qn Z ?_)
      simp [QbK, YX, Xu, h1, h2, h3, h4, h6]
   ·try rw [h3]
    try simp only [qB] at h3
    refine Qs Z (Qs Z (Qs Z (Qs Z (QL Z (QL Z (QL Z (Qs Z (Qj Z Z (Qb Z (Qs Z (Qs Z ?_)))))))))))
    refine Qs Z (Qs Z (QL Z (QL Z (QL Z (Qs Z (Qj Z Z (Qb Z (hK _ _ (Qa (kp1 Z) ?_)))))))))
    refine Qt (Qn Z ?_)
    simp [QbK, YX, Xu, h1, h2, h3]
  ·try rw [h2]
   try simp only [qB] at h2
   refine Qs Z (Qs Z (Qs Z (Qj Z Z (Qb Z (Qs Z (Qs Z (Qs Z (Qs Z (QL Z (QL Z (QL Z ?_)))))))))))
   refine Qs Z (Qj Z Z (Qb Z (Qs Z (Qs Z (Qs Z (Qs Z (QL Z (QL Z (QL Z (Qs Z (Qj Z Z ?_)))))))))))
   refine Qb Z (hK _ _ (Qa (kp1 Z) ?_))
   refine Qt (Qn Z ?_)
   simp [QbK, YX, Xu, h1, h2]
 ·try rw [h1]
  try simp only [qB] at h1
  refine Qs Z (Qs Z (Qs Z (Qj Z Z (Qb Z (Qs Z (Qs Z (Qs Z (Qj Z Z (Qb Z (Qs Z (Qs Z ?_)))))))))))
  refine Qs Z (Qs Z (QL Z (QL Z (QL Z (Qs Z (Qj Z Z (Qb Z (Qs Z (Qs Z (Qs Z (Qs Z ?_)))))))))))
  refine QL Z (QL Z (QL Z (Qs Z (Qj Z Z (Qb Z (hK _ _ (Qa (kp1 Z) ?_)))))))
  refine Qt (Qn Z ?_)
  simp [QbK, YX, Xu, h1]
theorem Qbh {a b c : Int} {p q : List UInt8} (hp : p.length <= 1000000) (hq : q.length <= 1000000) {a' b' c' : Int} {p' q' : List UInt8} (hp' : p'.length <= 1000000) (hq' : q'.length <= 1000000) : Ok Tryz.prog 143 [.agg [.int .i64 a, .int .i64 b, .int .i64 c, .str p, .str q], .agg [.int .i64 a', .int .i64 b', .int .i64 c', .str p', .str q']] (.int .i64 (Qdn a b c p q a' b' c' p' q')) := by
 refine Ok.ofT Z6 Tryz.func143 Qtu (QuS Z) ?_
 show TW _ _ tf143.body _ _
 refine Qe fun K hK => ZI Z Z Z (ZI Z Z Z (Qb Z (hK _ _ (Qa (kp2 Z Z) ?_))))
 refine QG ?_ -- 0
 refine Qe fun K hK => QQ (ds0 := [13, 12, 11, 10, 9, 8, 7, 6, 5, 4, 3, 2, 1, 0]) (cs := [_, _, _, _, _]) Z Z Z Z Z Z (Zc (ds0 := [12, 11, 10, 9, 8, 7, 6, 5, 4, 3, 2, 1, 0]) (Y1 (by omega) (by omega)) Z Z (.inr Z) Z Z (ZW Z (Qb Z ?_)))
 refine Qz (g := 13) Z (fun h1 => ?_) (fun h1 => ?_)
 ·try rw [h1]
  try simp only [qB, Qq] at h1
  refine Qs Z (Qs Z (Qs Z (Qj Z Z (Qb Z (Qs Z (Qs Z (Qs Z (Qs Z (Qs Z (Qj Z Z (hK _ _ (Qa (kp3 Z Z Z) ?_))))))))))))
  refine Zt Z (Qe fun K hK => Qb Z (hK _ _ (Qa (kp1 Z) ?_)))
  refine Qt (Qk (Qx Z ?_))
  first | (simp [Qdn, h1]; done) | (exact (QdR (by assumption) (by assumption) (by assumption)).symm) | (exact Qby (by assumption) (by assumption) (by assumption)) | (exact (Qai (by assumption) (by assumption) (by assumption) (by assumption) (by assumption)).symm) | (exact (Qaj (by assumption) (by assumption) (by assumption) (by assumption) (by assumption)).symm) | (rw [hI.2.2, YB (by omega) (by omega) (by assumption)]) | (rw [hI.2.2, YA (by omega) (by omega) (by omega)]; simp [Qq])
 ·try rw [h1]
  try simp only [qB, Qq] at h1
  refine Qf Z (QQ (ds0 := [9, 8, 7, 6, 5, 4, 3, 2, 1, 0]) (cs := [_, _, _, _, _]) Z Z Z Z Z Z (Qf Z (Zc (ds0 := [8, 7, 6, 5, 4, 3, 2, 1, 0]) (Y1 (by omega) (by omega)) Z Z (.inr Z) Z Z (Qf Z (ZW Z (Qj Z Z (Qb Z ?_)))))))
  refine Qz (g := 18) Z (fun h2 => ?_) (fun h2 => ?_)
  ·try rw [h2]
   try simp only [qB, Qq] at h2
   refine Qs Z (Qs Z (Qs Z (Qs Z (Qs Z (Qj Z Z (hK _ _ (Qa (kp3 Z Z Z) ?_)))))))
   refine Zt Z (Qe fun K hK => Qb Z (hK _ _ (Qa (kp1 Z) ?_)))
   refine Qt (Qk (Qx Z ?_))
   first | (simp [Qdn, h1, h2]; done) | (exact (QdR (by assumption) (by assumption) (by assumption)).symm) | (exact Qby (by assumption) (by assumption) (by assumption)) | (exact (Qai (by assumption) (by assumption) (by assumption) (by assumption) (by assumption)).symm) | (exact (Qaj (by assumption) (by assumption) (by assumption) (by assumption) (by assumption)).symm) | (rw [hI.2.2, YB (by omega) (by omega) (by assumption)]) | (rw [hI.2.2, YA (by omega) (by omega) (by omega)]; simp [Qq])
  ·try rw [h2]
   try simp only [qB, Qq] at h2
   refine Qf Z (QQ (ds0 := [4, 1, 0]) (cs := [_, _, _, _, _]) Z Z Z Z Z Z (Qf Z (Zc (ds0 := [1, 0]) (Qc4) Z Z (.inl Z) Z Z (Qf Z (QQ (ds0 := [2, 1, 0]) (cs := [_, _, _, _, _]) Z Z Z Z Z Z (Qf Z (Zc (ds0 := [1, 0]) (Qc4) Z Z (.inl Z) Z Z (Qf Z (Qdz Z Z Z (Qj Z Z (hK _ _ (Qa (kp3 Z Z Z) ?_))))))))))))
   refine Qw Z (fun h3 => ?_) (fun h3 => ?_)
   ·try rw [h3]
    try simp only [qB, Qq] at h3
    refine Qe fun K hK => Qb Z (hK _ _ (Qa (kp1 Z) ?_))
    refine Qt (Qk (Qx Z ?_))
    first | (simp [Qdn, h1, h2, h3]; done) | (exact (QdR (by assumption) (by assumption) (by assumption)).symm) | (exact Qby (by assumption) (by assumption) (by assumption)) | (exact (Qai (by assumption) (by assumption) (by assumption) (by assumption) (by assumption)).symm) | (exact (Qaj (by assumption) (by assumption) (by assumption) (by assumption) (by assumption)).symm) | (rw [hI.2.2, YB (by omega) (by omega) (by assumption)]) | (rw [hI.2.2, YA (by omega) (by omega) (by omega)]; simp [Qq])
   ·try rw [h3]
    try simp only [qB, Qq] at h3
    refine Qu (Qd (kp2 Z Z) ?_)
    refine QG ?_ -- 1
    refine Qe fun K hK => Qi Z Z (Zi (ds0 := [13, 2, 1, 0]) Z Z Z Z Z (Qi Z Z (Zi (ds0 := [13, 2, 1, 0]) Z Z Z Z Z (Zc (ds0 := [2, 1, 0]) (ZR) Z Z (.inr Z) Z Z (Qi Z Z (Zi (ds0 := [8, 2, 1, 0]) Z Z Z Z Z (Qi Z Z (Zi (ds0 := [8, 2, 1, 0]) Z Z Z Z Z (Zc (ds0 := [2, 1, 0]) (ZR) Z Z (.inr Z) Z Z (Qi Z Z ?_))))))))))
    refine Zi (ds0 := [3, 2, 1, 0]) Z Z Z Z Z (Qi Z Z (Zi (ds0 := [3, 2, 1, 0]) Z Z Z Z Z (Zc (ds0 := [2, 1, 0]) (ZR) Z Z (.inr Z) Z Z (QM Z Z (Zc (ds0 := [0]) (QiB (l := [Z4 a a', Z4 b b', Z4 c c']) (by simp)) Z Z (.inr Z) Z Z (Qb Z (hK _ _ (Qa (kp3 Z Z Z) ?_))))))))
    refine Qe fun K hK => Qb Z (YQ Z Z (hK _ _ (Qa (kp4 Z Z Z Z) ?_)))
    refine Qw Z (fun h4 => ?_) (fun h4 => ?_)
    ·try rw [h4]
     try simp only [qB, Qq] at h4
     refine Qe fun K hK => Qb Z (Qb Z (hK _ _ (Qa (kp1 Z) ?_)))
     refine Qt (Qk (Qx Z ?_))
     first | (simp [Qdn, h1, h2, h3, h4]; done) | (exact (QdR (by assumption) (by assumption) (by assumption)).symm) | (exact Qby (by assumption) (by assumption) (by assumption)) | (exact (Qai (by assumption) (by assumption) (by assumption) (by assumption) (by assumption)).symm) | (exact (Qaj (by assumption) (by assumption) (by assumption) (by assumption) (by assumption)).symm) | (rw [hI.2.2, YB (by omega) (by omega) (by assumption)]) | (rw [hI.2.2, YA (by omega) (by omega) (by omega)]; simp [Qq])
    ·try rw [h4]
     try simp only [qB, Qq] at h4
     refine Qu (Qd (kp2 Z Z) ?_)
     refine QG ?_ -- 2
     refine Qe fun K hK => Qi Z Z (QC Z Z Z (QcU Z Z (hK _ _ (Qa (kp3 Z Z Z) ?_))))
     refine Qw Z (fun h5 => ?_) (fun h5 => ?_)
     ·try rw [h5]
      try simp only [qB, Qq] at h5
      refine Qe fun K hK => Qb Z (hK _ _ (Qa (kp1 Z) ?_))
      refine Qt (Qk (Qx Z ?_))
      first | (simp [Qdn, h1, h2, h3, h4, h5]; done) | (exact (QdR (by assumption) (by assumption) (by assumption)).symm) | (exact Qby (by assumption) (by assumption) (by assumption)) | (exact (Qai (by assumption) (by assumption) (by assumption) (by assumption) (by assumption)).symm) | (exact (Qaj (by assumption) (by assumption) (by assumption) (by assumption) (by assumption)).symm) | (rw [hI.2.2, YB (by omega) (by omega) (by assumption)]) | (rw [hI.2.2, YA (by omega) (by omega) (by omega)]; simp [Qq])
     ·try rw [h5]
      try simp only [qB, Qq] at h5
      refine Qu (Qd (kp2 Z Z) ?_)
      refine QG ?_ -- 3
      refine Qe fun K hK => Qi Z Z (QC Z Z Z (QcU Z Z (hK _ _ (Qa (kp3 Z Z Z) ?_))))
      refine Qw Z (fun h6 => ?_) (fun h6 => ?_)
      ·try rw [h6]
       try simp only [qB, Qq] at h6
       refine Qe fun K hK => Qb Z (hK _ _ (Qa (kp1 Z) ?_))
       refine Qt (Qk (Qx Z ?_))
       first | (simp [Qdn, h1, h2, h3, h4, h5, h6]; done) | (exact (QdR (by assumption) (by assumption) (by assumption)).symm) | (exact Qby (by assumption) (by assumption) (by assumption)) | (exact (Qai (by assumption) (by assumption) (by assumption) (by assumption) (by assumption)).symm) | (exact (Qaj (by assumption) (by assumption) (by assumption) (by assumption) (by assumption)).symm) | (rw [hI.2.2, YB (by omega) (by omega) (by assumption)]) | (rw [hI.2.2, YA (by omega) (by omega) (by omega)]; simp [Qq])
      ·try rw [h6]
       try simp only [qB, Qq] at h6
       refine Qu (Qd (kp2 Z Z) (Qe fun K hK => Qi Z Z (Zi (ds0 := [5, 1]) Z Z Z Z Z (Zc (ds0 := [1]) (Qag (by omega)) Z Z (.inl Z) Z Z (Qi Z Z (Zi (ds0 := [2, 0]) Z Z Z Z Z (Zc (ds0 := [0]) (Qag (by omega)) Z Z (.inl Z) Z Z (Qb Z (Qb Z (hK _ _ (Qa (kp2 Z Z) ?_)))))))))))
       refine QG ?_ -- 4
       refine Qe fun K hK => Qb Z (hK _ _ (Qa (kp3 Z Z Z) ?_))
       refine QH ?_
       refine ZH (ι := Nat) (fun i => ⟨[(6, .sl (Y2 (Q9 p 46))), (7, .sl (Y2 (Q9 p' 46))), (8, .int .i64 i)], []⟩) (fun i => i <= (Q9 p 46).length /\ i <= (Q9 p' 46).length /\ Qdn a b c p q a' b' c' p' q' = Qk6 ((Q9 p 46).drop i) ((Q9 p' 46).drop i)) (fun i => (Q9 p 46).length - i) 0 ?_ ?_ ?_
       ·exact Q6 (l := [6, 7, 8]) (kp3 rfl rfl rfl) Qp rfl rfl rfl
       ·exact ⟨Qu4 _, Qu4 _, Qqi (by assumption) (by assumption) (by assumption) (by assumption) (by assumption) (by assumption)⟩
       intro i hI
       have sl := Qej (s := p) (c := 46)
       try dsimp only
       refine QG ?_ -- 5
       refine Qe fun K hK => Qb Z (Qb Z (Q4 Z Z (Yk Z Z (Qb Z ?_))))
       refine Qz (g := 61) Z (fun h7 => ?_) (fun h7 => ?_)
       ·try rw [h7]
        try simp only [qB, Qq] at h7
        refine Qf Z (Qb Z (Qf Z (Qb Z (Qf Z (Q4 Z Z (Qf Z (Yk Z Z (Qj Z Z (hK _ _ (Qa (kp4 Z Z Z Z) ?_))))))))))
        refine Qw Z (fun h8 => ?_) (fun h8 => ?_)
        ·try rw [h8]
         try simp only [qB, Qq] at h8
         refine Qu (Qd (kp3 Z Z Z) ?_)
         refine QG ?_ -- 6
         refine QH (Qe fun K hK => Qb Z (Qb Z (QP Z Z Z (by omega) (Qak (by omega)) Z (Zi (ds0 := [1, 0]) Z Z Z Z Z (Qb Z (Qb Z (QP Z Z Z (by omega) (Qak (by omega)) Z (Zi (ds0 := [1, 0]) Z Z Z Z Z (Zc (ds0 := [0]) (Qhu (Qan (by omega) hp) (Qan (by omega) hp')) Z Z (.inr Z) Z Z (Qb Z ?_))))))))))
         refine hK _ _ (Qa (kp4 Z Z Z Z) ?_)
         refine Qe fun K hK => Qb Z (YQ Z Z (hK _ _ (Qa (kp5 Z Z Z Z Z) ?_)))
         refine Qw Z (fun h9 => ?_) (fun h9 => ?_)
         ·try rw [h9]
          try simp only [qB, Qq] at h9
          refine Qe fun K hK => Qb Z (Qb Z (hK _ _ (Qa (kp1 Z) ?_)))
          refine Qt (Qv (Qk (Q2 (Qv (Qk (Qx Z ?_))))))
          first | (simp [Qdn, h1, h2, h3, h4, h5, h6, h7, h8, h9]; done) | (exact (QdR (by assumption) (by assumption) (by assumption)).symm) | (exact Qby (by assumption) (by assumption) (by assumption)) | (exact (Qai (by assumption) (by assumption) (by assumption) (by assumption) (by assumption)).symm) | (exact (Qaj (by assumption) (by assumption) (by assumption) (by assumption) (by assumption)).symm) | (rw [hI.2.2, YB (by omega) (by omega) (by assumption)]) | (rw [hI.2.2, YA (by omega) (by omega) (by omega)]; simp [Qq])
         ·try rw [h9]
          try simp only [qB, Qq] at h9
          refine Qu (Qh (Qd (kp3 Z Z Z) (QR fun K hK => Qb Z (Q8 Z Z (by first | exact Qr (by omega) (by omega) | exact QO (by omega) (by omega) | exact QW (by omega) (by omega) | rfl) (Qb Z (hK _ ?_))))))
          refine Ql (i + 1) ?_ ?_ ?_
          ·exact Q1 (kp3 rfl rfl rfl)
          ·exact ⟨by omega, by omega, by rw [hI.2.2, Qjb (by omega) (by omega) (by assumption)]⟩
          ·first | omega | (simp only; omega) | (dsimp only; omega)
        ·try rw [h8]
         try simp only [qB, Qq] at h8
         refine Ze (QJ (Qy (QI (Qd (kp2 Z Z) (Qe fun K hK => Qb Z (Q4 Z Z (Qb Z (Q4 Z Z (QA (ZR) Z Z (.inr Z) (Qb Z ?_))))))))))
         refine hK _ _ (Qa (kp1 Z) ?_)
         refine Qt (Qx Z ?_)
         first | (simp [Qdn, h1, h2, h3, h4, h5, h6, h7, h8]; done) | (exact (QdR (by assumption) (by assumption) (by assumption)).symm) | (exact Qby (by assumption) (by assumption) (by assumption)) | (exact (Qai (by assumption) (by assumption) (by assumption) (by assumption) (by assumption)).symm) | (exact (Qaj (by assumption) (by assumption) (by assumption) (by assumption) (by assumption)).symm) | (rw [hI.2.2, YB (by omega) (by omega) (by assumption)]) | (rw [hI.2.2, YA (by omega) (by omega) (by omega)]; simp [Qq])
       ·try rw [h7]
        try simp only [qB, Qq] at h7
        refine Qs Z (Qs Z (Qs Z (Qs Z (Qj Z Z (hK _ _ (Qa (kp4 Z Z Z Z) ?_))))))
        refine Zs Z (Ze (QJ (Qy (QI (Qd (kp2 Z Z) (Qe fun K hK => Qb Z (Q4 Z Z (Qb Z (Q4 Z Z (QA (ZR) Z Z (.inr Z) ?_))))))))))
        refine Qb Z (hK _ _ (Qa (kp1 Z) ?_))
        refine Qt (Qx Z ?_)
        first | (simp [Qdn, h1, h2, h3, h4, h5, h6, h7]; done) | (exact (QdR (by assumption) (by assumption) (by assumption)).symm) | (exact Qby (by assumption) (by assumption) (by assumption)) | (exact (Qai (by assumption) (by assumption) (by assumption) (by assumption) (by assumption)).symm) | (exact (Qaj (by assumption) (by assumption) (by assumption) (by assumption) (by assumption)).symm) | (rw [hI.2.2, YB (by omega) (by omega) (by assumption)]) | (rw [hI.2.2, YA (by omega) (by omega) (by omega)]; simp [Qq])
theorem Qb7 {e a b c : Int} {p q : List UInt8} {f : Bool} (hp : p.length <= 1000000) (hq : q.length <= 1000000) : Ok Tryz.prog 141 [.agg [.int .i64 e, .int .i64 a, .int .i64 b, .int .i64 c, .str p, .str q, .bool f]] (.bool (Xh e a b c p q f)) := by
 refine Ok.ofT Z6 Tryz.func141 Qts (QuS Z) ?_
 show TW _ _ tf141.body _ _
 refine Qe fun K hK => ZI Z Z Z (Qb Z (hK _ _ (Qa (kp1 Z) ?_)))
 refine QG ?_ -- 0
 refine Qe fun K hK => Qi Z Z (QC Z Z Z (Xb Z Z (Qb Z ?_)))
 refine Qz (g := 6) Z (fun h1 => ?_) (fun h1 => ?_)
 ·try rw [h1]
  try simp only [qB] at h1
  refine Qs Z (Qs Z (Qs Z (Qj Z Z (hK _ _ (Qa (kp2 Z Z) ?_)))))
  refine Zt Z (Qe fun K hK => Qi Z Z (QD (cs := [_, _, _, _, _]) Z Z Z Z (QX Z Z (Qdz Z Z Z (Qb Z ?_)))))
  refine Qz (g := 15) Z (fun h2 => ?_) (fun h2 => ?_)
  ·try rw [h2]
   try simp only [qB] at h2
   refine Qf Z (Qi Z Z (Qf Z (QC Z Z Z (Qf Z (ZW Z (Qj Z Z (Qb Z (hK _ _ (Qa (kp1 Z) ?_)))))))))
   refine Qt (Qk (Qn Z ?_))
   (repeat clear hK K); first | (simp_all [Xh]; done) | (simp_all [Xh]; omega)
  ·try rw [h2]
   try simp only [qB] at h2
   refine Qs Z (Qs Z (Qs Z (Qj Z Z (Qb Z (hK _ _ (Qa (kp1 Z) ?_))))))
   refine Qt (Qk (Qn Z ?_))
   (repeat clear hK K); first | (simp_all [Xh]; done) | (simp_all [Xh]; omega)
 ·try rw [h1]
  try simp only [qB] at h1
  refine Qf Z (Qi Z Z (Qf Z (QC Z Z Z (Qf Z (Xb Z Z (Qj Z Z (hK _ _ (Qa (kp2 Z Z) ?_))))))))
  refine Qw Z (fun h3 => ?_) (fun h3 => ?_)
  ·try rw [h3]
   try simp only [qB] at h3
   refine Qe fun K hK => Qi Z Z (QD (cs := [_, _, _, _, _]) Z Z Z Z (QX Z Z (Qdz Z Z Z (Qb Z ?_))))
   refine Qz (g := 15) Z (fun h4 => ?_) (fun h4 => ?_)
   ·try rw [h4]
    try simp only [qB] at h4
    refine Qf Z (Qi Z Z (Qf Z (QC Z Z Z (Qf Z (ZW Z (Qj Z Z (Qb Z (hK _ _ (Qa (kp1 Z) ?_)))))))))
    refine Qt (Qk (Qn Z ?_))
    (repeat clear hK K); first | (simp_all [Xh]; done) | (simp_all [Xh]; omega)
   ·try rw [h4]
    try simp only [qB] at h4
    refine Qs Z (Qs Z (Qs Z (Qj Z Z (Qb Z (hK _ _ (Qa (kp1 Z) ?_))))))
    refine Qt (Qk (Qn Z ?_))
    (repeat clear hK K); first | (simp_all [Xh]; done) | (simp_all [Xh]; omega)
  ·try rw [h3]
   try simp only [qB] at h3
   refine Qe fun K hK => Qi Z Z (QC Z Z Z (YQ Z Z (hK _ _ (Qa (kp2 Z Z) ?_))))
   refine Qw Z (fun h5 => ?_) (fun h5 => ?_)
   ·try rw [h5]
    try simp only [qB] at h5
    refine Qe fun K hK => Qb Z (hK _ _ (Qa (kp1 Z) ?_))
    refine Qt (Qk (Qn Z ?_))
    (repeat clear hK K); first | (simp_all [Xh]; done) | (simp_all [Xh]; omega)
   ·try rw [h5]
    try simp only [qB] at h5
    refine Qu (Qd (kp1 Z) (Qe fun K hK => Qi Z Z (QD (cs := [_, _, _, _, _]) Z Z Z Z (QA (Y1 (by omega) (by omega)) Z Z (.inr Z) (Qb Z ?_)))))
    refine Qz (g := 26) Z (fun h6 => ?_) (fun h6 => ?_)
    ·try rw [h6]
     try simp only [qB] at h6
     refine Qf Z (Qi Z Z (Qf Z (Qi Z Z (Qf Z (QC Z Z Z (Qf Z (QcU Z Z (Qj Z Z (Qb Z (hK _ _ (Qa (kp1 Z) ?_)))))))))))
     refine Qt (Qn Z ?_)
     (repeat clear hK K); first | (simp_all [Xh]; done) | (simp_all [Xh]; omega)
    ·try rw [h6]
     try simp only [qB] at h6
     refine Qs Z (Qs Z (Qs Z (Qs Z (Qj Z Z (Qb Z (hK _ _ (Qa (kp1 Z) ?_)))))))
     refine Qt (Qn Z ?_)
     (repeat clear hK K); first | (simp_all [Xh]; done) | (simp_all [Xh]; omega)
theorem QdG {e a b c : Int} {p q : List UInt8} {f : Bool} (hp : p.length <= 1000000) (hq : q.length <= 1000000) {e' a' b' c' : Int} {p' q' : List UInt8} {f' : Bool} (hp' : p'.length <= 1000000) (hq' : q'.length <= 1000000) : Ok Tryz.prog 130 [.agg [.int .i64 e, .int .i64 a, .int .i64 b, .int .i64 c, .str p, .str q, .bool f], .agg [.int .i64 e', .int .i64 a', .int .i64 b', .int .i64 c', .str p', .str q', .bool f']] (.int .i64 (YH e a b c p q f e' a' b' c' p' q' f')) := by
 refine Ok.ofT Z6 Tryz.func130 Qtj (QuS Z) ?_
 show TW _ _ tf130.body _ _
 refine Qe fun K hK => ZI Z Z Z (ZI Z Z Z (Qb Z (hK _ _ (Qa (kp2 Z Z) ?_))))
 refine QG ?_ -- 0
 refine Qe fun K hK => QD (cs := [_, _, _, _, _, _, _]) Z Z Z Z (QA (Qb7 (by omega) (by omega)) Z Z (.inr Z) (ZW Z (Qb Z ?_)))
 refine Qz (g := 9) Z (fun h1 => ?_) (fun h1 => ?_)
 ·try rw [h1]
  try simp only [qB] at h1
  refine Qs Z (Qs Z (Qs Z (Qj Z Z (hK _ _ (Qa (kp3 Z Z Z) ?_)))))
  refine Zt Z (Qe fun K hK => Qb Z (hK _ _ (Qa (kp1 Z) ?_)))
  refine Qt (Qk (Qx Z ?_))
  (repeat clear hK K); first | (simp [YH, h1]; done) | exact (QaQ (by assumption) (by assumption) (by first | (left; assumption) | (right; assumption))).symm | (simp_all [YH]; done)
 ·try rw [h1]
  try simp only [qB] at h1
  refine Qf Z (QD (cs := [_, _, _, _, _, _, _]) Z Z Z Z (Qf Z (QA (Qb7 (by omega) (by omega)) Z Z (.inr Z) (Qf Z (ZW Z (Qj Z Z (hK _ _ (Qa (kp3 Z Z Z) ?_))))))))
  refine Qw Z (fun h2 => ?_) (fun h2 => ?_)
  ·try rw [h2]
   try simp only [qB] at h2
   refine Qe fun K hK => Qb Z (hK _ _ (Qa (kp1 Z) ?_))
   refine Qt (Qk (Qx Z ?_))
   (repeat clear hK K); first | (simp [YH, h1, h2]; done) | exact (QaQ (by assumption) (by assumption) (by first | (left; assumption) | (right; assumption))).symm | (simp_all [YH]; done)
  ·try rw [h2]
   try simp only [qB] at h2
   refine Qe fun K hK => Qi Z Z (QC Z Z Z (YQ Z Z (Qb Z ?_)))
   refine Qz (g := 17) Z (fun h3 => ?_) (fun h3 => ?_)
   ·try rw [h3]
    try simp only [qB] at h3
    refine Qs Z (Qs Z (Qs Z (Qj Z Z (hK _ _ (Qa (kp3 Z Z Z) ?_)))))
    refine Zt Z (Qe fun K hK => Qi Z Z (QC Z Z Z (Qi Z Z (QC Z Z Z (QA (ZR) Z Z (.inr Z) (Qb Z (hK _ _ (Qa (kp1 Z) ?_))))))))
    refine Qt (Qk (Qx Z ?_))
    (repeat clear hK K); first | (simp [YH, h1, h2, h3]; done) | exact (QaQ (by assumption) (by assumption) (by first | (left; assumption) | (right; assumption))).symm | (simp_all [YH]; done)
   ·try rw [h3]
    try simp only [qB] at h3
    refine Qf Z (Qi Z Z (Qf Z (QC Z Z Z (Qf Z (YQ Z Z (Qj Z Z (hK _ _ (Qa (kp3 Z Z Z) ?_))))))))
    refine Qw Z (fun h4 => ?_) (fun h4 => ?_)
    ·try rw [h4]
     try simp only [qB] at h4
     refine Qe fun K hK => Qi Z Z (QC Z Z Z (Qi Z Z (QC Z Z Z (QA (ZR) Z Z (.inr Z) (Qb Z (hK _ _ (Qa (kp1 Z) ?_)))))))
     refine Qt (Qk (Qx Z ?_))
     (repeat clear hK K); first | (simp [YH, h1, h2, h3, h4]; done) | exact (QaQ (by assumption) (by assumption) (by first | (left; assumption) | (right; assumption))).symm | (simp_all [YH]; done)
    ·try rw [h4]
     try simp only [qB] at h4
     refine Qe fun K hK => Qi Z Z (QD (cs := [_, _, _, _, _]) Z Z Z Z (Qi Z Z (QD (cs := [_, _, _, _, _]) Z Z Z Z (QA (Qbh (by omega) (by omega) (by omega) (by omega)) Z Z (.inr Z) (Qb Z (hK _ _ (Qa (kp3 Z Z Z) ?_)))))))
     refine Qe fun K hK => Qb Z (YQ Z Z (hK _ _ (Qa (kp4 Z Z Z Z) ?_)))
     refine Qw Z (fun h5 => ?_) (fun h5 => ?_)
     ·try rw [h5]
      try simp only [qB] at h5
      refine Qe fun K hK => Qb Z (Qb Z (hK _ _ (Qa (kp1 Z) ?_)))
      refine Qt (Qk (Qx Z ?_))
      (repeat clear hK K); first | (simp [YH, h1, h2, h3, h4, h5]; done) | exact (QaQ (by assumption) (by assumption) (by first | (left; assumption) | (right; assumption))).symm | (simp_all [YH]; done)
     ·try rw [h5]
      try simp only [qB] at h5
      refine Qe fun K hK => Qi Z Z (QC Z Z Z (Qi Z Z (QC Z Z Z (Qrq Z Z (hK _ _ (Qa (kp2 Z Z) ?_))))))
      refine Qw Z (fun h6 => ?_) (fun h6 => ?_)
      ·try rw [h6]
       try simp only [qB] at h6
       refine Qe fun K hK => Qb Z (hK _ _ (Qa (kp1 Z) ?_))
       refine Qt (Qk (Qx Z ?_))
       (repeat clear hK K); first | (simp [YH, h1, h2, h3, h4, h5, h6]; done) | exact (QaQ (by assumption) (by assumption) (by first | (left; assumption) | (right; assumption))).symm | (simp_all [YH]; done)
      ·try rw [h6]
       try simp only [qB] at h6
       refine Qe fun K hK => Qi Z Z (QC Z Z Z (hK _ _ (Qa (kp1 Z) ?_)))
       refine Qw Z (fun h7 => ?_) (fun h7 => ?_)
       ·try rw [h7]
        try simp only [qB] at h7
        refine Qe fun K hK => Qb Z (hK _ _ (Qa (kp1 Z) ?_))
        refine Qt (Qk (Qx Z ?_))
        (repeat clear hK K); first | (simp [YH, h1, h2, h3, h4, h5, h6, h7]; done) | exact (QaQ (by assumption) (by assumption) (by first | (left; assumption) | (right; assumption))).symm | (simp_all [YH]; done)
       ·try rw [h7]
        try simp only [qB] at h7
        refine Qu (Qd (ZE) (Qe fun K hK => Qb Z (hK _ _ (Qa (kp1 Z) ?_))))
        refine Qt (Qx Z ?_)
        (repeat clear hK K); first | (simp [YH, h1, h2, h3, h4, h5, h6, h7]; done) | exact (QaQ (by assumption) (by assumption) (by first | (left; assumption) | (right; assumption))).symm | (simp_all [YH]; done)
theorem Qfu {e a b c : Int} {p q : List UInt8} {f : Bool} (hp : p.length <= 1000000) (hq : q.length <= 1000000) {a' b' c' : Int} {p' q' : List UInt8} (hp' : p'.length <= 1000000) (hq' : q'.length <= 1000000) : Ok Tryz.prog 134 [.agg [.int .i64 e, .int .i64 a, .int .i64 b, .int .i64 c, .str p, .str q, .bool f], .agg [.int .i64 a', .int .i64 b', .int .i64 c', .str p', .str q']] (.bool (Qaz e a b c p q f a' b' c' p' q')) := by
 refine Ok.ofT Z6 Tryz.func134 Qtn (QuS Z) ?_
 show TW _ _ tf134.body _ _
 refine Qe fun K hK => ZI Z Z Z (ZI Z Z Z (Qb Z (hK _ _ (Qa (kp2 Z Z) ?_))))
 refine QG ?_ -- 0
 refine Qe fun K hK => QD (cs := [_, _, _, _, _, _, _]) Z Z Z Z (QA (Qb7 (by omega) (by omega)) Z Z (.inr Z) (ZW Z (Qb Z ?_)))
 refine Qz (g := 9) Z (fun h1 => ?_) (fun h1 => ?_)
 ·try rw [h1]
  try simp only [qB] at h1
  refine Qs Z (Qs Z (Qs Z (Qj Z Z (hK _ _ (Qa (kp3 Z Z Z) ?_)))))
  refine Zt Z (Qe fun K hK => Qb Z (hK _ _ (Qa (kp1 Z) ?_)))
  refine Qt (Qk (Qn Z ?_))
  (repeat clear hK K); first | (simp [Qaz, h1]; done) | (simp_all [Qaz]; done)
 ·try rw [h1]
  try simp only [qB] at h1
  refine Qf Z (QD (cs := [_, _, _, _, _]) Z Z Z Z (Qf Z (QA (Y1 (by omega) (by omega)) Z Z (.inr Z) (Qf Z (ZW Z (Qj Z Z (hK _ _ (Qa (kp3 Z Z Z) ?_))))))))
  refine Qw Z (fun h2 => ?_) (fun h2 => ?_)
  ·try rw [h2]
   try simp only [qB] at h2
   refine Qe fun K hK => Qb Z (hK _ _ (Qa (kp1 Z) ?_))
   refine Qt (Qk (Qn Z ?_))
   (repeat clear hK K); first | (simp [Qaz, h1, h2]; done) | (simp_all [Qaz]; done)
  ·try rw [h2]
   try simp only [qB] at h2
   refine Qe fun K hK => Qi Z Z (QC Z Z Z (YQ Z Z (hK _ _ (Qa (kp3 Z Z Z) ?_))))
   refine Qw Z (fun h3 => ?_) (fun h3 => ?_)
   ·try rw [h3]
    try simp only [qB] at h3
    refine Qe fun K hK => Qi Z Z (QC Z Z Z (Yk Z Z (Qb Z (hK _ _ (Qa (kp1 Z) ?_)))))
    refine Qt (Qk (Qn Z ?_))
    (repeat clear hK K); first | (simp [Qaz, h1, h2, h3]; done) | (simp_all [Qaz]; done)
   ·try rw [h3]
    try simp only [qB] at h3
    refine Qu (Qd (kp2 Z Z) (Qe fun K hK => Qi Z Z (QD (cs := [_, _, _, _, _]) Z Z Z Z (QD (cs := [_, _, _, _, _]) Z Z Z Z (QA (Qbh (by omega) (by omega) (by omega) (by omega)) Z Z (.inr Z) (Qb Z (hK _ _ (Qa (kp2 Z Z) ?_))))))))
    refine Qe fun K hK => Qb Z (Yk Z Z (Qb Z ?_))
    refine Qz (g := 26) Z (fun h4 => ?_) (fun h4 => ?_)
    ·try rw [h4]
     try simp only [qB] at h4
     refine Qs Z (Qs Z (Qs Z (QL Z (QL Z (QL Z (Qs Z (Qj Z Z (Qb Z (hK _ _ (Qa (kp1 Z) ?_))))))))))
     refine Qt (Qn Z ?_)
     (repeat clear hK K); first | (simp [Qaz, h1, h2, h3, h4]; done) | (simp_all [Qaz]; done)
    ·try rw [h4]
     try simp only [qB] at h4
     refine Qf Z (Qb Z (Qf Z (Xb Z Z (Qf Z (Qb Z ?_)))))
     refine Qz (g := 29) Z (fun h5 => ?_) (fun h5 => ?_)
     ·try rw [h5]
      try simp only [qB] at h5
      refine Qf Z (Qi Z Z (Qf Z (QC Z Z Z (Qf Z (ZW Z (Qf Z (Qj Z Z (Qj Z Z (Qb Z (hK _ _ (Qa (kp1 Z) ?_)))))))))))
      refine Qt (Qn Z ?_)
      (repeat clear hK K); first | (simp [Qaz, h1, h2, h3, h4, h5]; done) | (simp_all [Qaz]; done)
     ·try rw [h5]
      try simp only [qB] at h5
      refine Qs Z (Qs Z (Qs Z (Qf Z (Qj Z Z (Qj Z Z (Qb Z (hK _ _ (Qa (kp1 Z) ?_))))))))
      refine Qt (Qn Z ?_)
      (repeat clear hK K); first | (simp [Qaz, h1, h2, h3, h4, h5]; done) | (simp_all [Qaz]; done)
theorem QdH {e a b c : Int} {p q : List UInt8} {f : Bool} (hp : p.length <= 1000000) (hq : q.length <= 1000000) {e' a' b' c' : Int} {p' q' : List UInt8} {f' : Bool} (hp' : p'.length <= 1000000) (hq' : q'.length <= 1000000) : Ok Tryz.prog 129 [.agg [.int .i64 e, .int .i64 a, .int .i64 b, .int .i64 c, .str p, .str q, .bool f, .int .i64 e', .int .i64 a', .int .i64 b', .int .i64 c', .str p', .str q', .bool f']] (.bool (Qcp e a b c p q f e' a' b' c' p' q' f')) := by
 refine Ok.ofT Z6 Tryz.func129 Qti (QuS Z) ?_
 show TW _ _ tf129.body _ _
 refine Qe fun K hK => ZI Z Z Z (Qb Z (hK _ _ (Qa (kp1 Z) ?_)))
 refine Qe fun K hK => Qi Z Z (QD (cs := [_, _, _, _, _, _, _]) Z Z Z Z (QA (Qb7 (by omega) (by omega)) Z Z (.inr Z) (Qb Z ?_)))
 refine Qz (g := 6) Z (fun h1 => ?_) (fun h1 => ?_)
 ·try rw [h1]
  try simp only [qB] at h1
  refine Qf Z (Qi Z Z (Qf Z (QD (cs := [_, _, _, _, _, _, _]) Z Z Z Z (Qf Z (QA (Qb7 (by omega) (by omega)) Z Z (.inr Z) (Qj Z Z (Qb Z ?_)))))))
  refine Qz (g := 11) Z (fun h2 => ?_) (fun h2 => ?_)
  ·try rw [h2]
   try simp only [qB] at h2
   refine Qf Z (Qi Z Z (Qf Z (QD (cs := [_, _, _, _, _, _, _]) Z Z Z Z (Qf Z (Qi Z Z (Qf Z (QD (cs := [_, _, _, _, _, _, _]) Z Z Z Z (Qf Z (QA (QdG (by omega) (by omega) (by omega) (by omega)) Z Z (.inr Z) (Qf Z (Yk Z Z ?_)))))))))))
   refine Qj Z Z (Qb Z (hK _ _ (Qa (kp1 Z) ?_)))
   refine Qt (Qn Z ?_)
   (repeat clear hK K); first | (simp [Qcp, h1, h2]; done) | (simp_all [Qcp]; done)
  ·try rw [h2]
   try simp only [qB] at h2
   refine Qs Z (Qs Z (Qs Z (Qs Z (Qs Z (Qs Z (Qj Z Z (Qb Z (hK _ _ (Qa (kp1 Z) ?_)))))))))
   refine Qt (Qn Z ?_)
   (repeat clear hK K); first | (simp [Qcp, h1, h2]; done) | (simp_all [Qcp]; done)
 ·try rw [h1]
  try simp only [qB] at h1
  refine Qs Z (Qs Z (Qs Z (Qj Z Z (Qb Z (Qs Z (Qs Z (Qs Z (Qs Z (Qs Z (Qs Z (Qj Z Z ?_)))))))))))
  refine Qb Z (hK _ _ (Qa (kp1 Z) ?_))
  refine Qt (Qn Z ?_)
  (repeat clear hK K); first | (simp [Qcp, h1]; done) | (simp_all [Qcp]; done)
theorem QjN {e a b c : Int} {p q : List UInt8} {f : Bool} (hp : p.length <= 1000000) (hq : q.length <= 1000000) {e' a' b' c' : Int} {p' q' : List UInt8} {f' : Bool} (hp' : p'.length <= 1000000) (hq' : q'.length <= 1000000) {x y z : Int} {r s : List UInt8} (hr : r.length <= 1000000) (hs : s.length <= 1000000) : Ok Tryz.prog 117 [.agg [.int .i64 e, .int .i64 a, .int .i64 b, .int .i64 c, .str p, .str q, .bool f, .int .i64 e', .int .i64 a', .int .i64 b', .int .i64 c', .str p', .str q', .bool f'], .agg [.int .i64 x, .int .i64 y, .int .i64 z, .str r, .str s]] (.bool (Qc9 e a b c p q f e' a' b' c' p' q' f' x y z r s)) := by
 refine Ok.ofT Z6 Tryz.func117 Qs9 (QuS Z) ?_
 show TW _ _ tf117.body _ _
 refine Qe fun K hK => ZI Z Z Z (ZI Z Z Z (Qb Z (hK _ _ (Qa (kp2 Z Z) ?_))))
 refine Qe fun K hK => QD (cs := [_, _, _, _, _, _, _, _, _, _, _, _, _, _]) Z Z Z Z (QA (QdH (by omega) (by omega) (by omega) (by omega)) Z Z (.inr Z) (Qb Z ?_))
 refine Qz (g := 7) Z (fun h1 => ?_) (fun h1 => ?_)
 ·try rw [h1]
  try simp only [qB] at h1
  refine Qf Z (QD (cs := [_, _, _, _, _]) Z Z Z Z (Qf Z (QA (Y1 (by omega) (by omega)) Z Z (.inr Z) (Qj Z Z (Qb Z ?_)))))
  refine Qz (g := 11) Z (fun h2 => ?_) (fun h2 => ?_)
  ·try rw [h2]
   try simp only [qB] at h2
   refine Qf Z (Qi Z Z (Qf Z (QD (cs := [_, _, _, _, _, _, _]) Z Z Z Z (Qf Z (QD (cs := [_, _, _, _, _]) Z Z Z Z (Qf Z (QA (Qfu (by omega) (by omega) (by omega) (by omega)) Z Z (.inr Z) (Qj Z Z (Qb Z ?_)))))))))
   refine Qz (g := 17) Z (fun h3 => ?_) (fun h3 => ?_)
   ·try rw [h3]
    try simp only [qB] at h3
    refine Qf Z (Qi Z Z (Qf Z (QD (cs := [_, _, _, _, _, _, _]) Z Z Z Z (Qf Z (QD (cs := [_, _, _, _, _]) Z Z Z Z (Qf Z (QA (Qfu (by omega) (by omega) (by omega) (by omega)) Z Z (.inr Z) (Qf Z (ZW Z (Qj Z Z (Qb Z ?_)))))))))))
    refine hK _ _ (Qa (kp1 Z) ?_)
    refine Qt (Qn Z ?_)
    (repeat clear hK K); first | (simp [Qc9, h1, h2, h3]; done) | (simp_all [Qc9]; done)
   ·try rw [h3]
    try simp only [qB] at h3
    refine Qs Z (Qs Z (Qs Z (Qs Z (Qs Z (Qj Z Z (Qb Z (hK _ _ (Qa (kp1 Z) ?_))))))))
    refine Qt (Qn Z ?_)
    (repeat clear hK K); first | (simp [Qc9, h1, h2, h3]; done) | (simp_all [Qc9]; done)
  ·try rw [h2]
   try simp only [qB] at h2
   refine Qs Z (Qs Z (Qs Z (Qs Z (Qj Z Z (Qb Z (Qs Z (Qs Z (Qs Z (Qs Z (Qs Z (Qj Z Z ?_)))))))))))
   refine Qb Z (hK _ _ (Qa (kp1 Z) ?_))
   refine Qt (Qn Z ?_)
   (repeat clear hK K); first | (simp [Qc9, h1, h2]; done) | (simp_all [Qc9]; done)
 ·try rw [h1]
  try simp only [qB] at h1
  refine Qs Z (Qs Z (Qj Z Z (Qb Z (Qs Z (Qs Z (Qs Z (Qs Z (Qj Z Z (Qb Z (Qs Z (Qs Z ?_)))))))))))
  refine Qs Z (Qs Z (Qs Z (Qj Z Z (Qb Z (hK _ _ (Qa (kp1 Z) ?_))))))
  refine Qt (Qn Z ?_)
  (repeat clear hK K); first | (simp [Qc9, h1]; done) | (simp_all [Qc9]; done)
end Go.Proofs
namespace M3
open Go Go.Abs
end M3
namespace M3
open Go Go.Abs
end M3
namespace M3
open Go Go.Abs
end M3
namespace M25
open Go Go.Abs M3
def QeO (a b c : Int) : Bool := decide (a = 0) && decide (b = 0) && decide (c = 0)
def Qal (a b c : Int) (p q : List UInt8) (part : Int) : Option (Int × Int × Int) :=
 if QbK a b c p q = false \/ part < 0 \/ 2 < part then none
 else
  let o := if part = 0 then (a + 1, 0, 0) else if part = 1 then (a, b + 1, 0) else (a, b, c + 1)
  if QbK o.1 o.2.1 o.2.2 [] [] = true then some o else none
def dOV (o : Option (Int × Int × Int)) : D := .tup [.agg [.int .i64 (o.getD (0, 0, 0)).1, .int .i64 (o.getD (0, 0, 0)).2.1, .int .i64 (o.getD (0, 0, 0)).2.2, .str [], .str []], .bool o.isSome]
def XR (a b c : Int) (p q : List UInt8) : Nat -> Option (Int × Int × Int)
 | 0 => none
 | n + 1 => if (Qal a b c p q n).isSome = true then Qal a b c p q n else XR a b c p q n
def Qi8 (a b c : Int) (p q : List UInt8) : Option (Int × Int × Int) :=
 if QbK a b c p q = false then none else if p ≠ [] then some (a, b, c) else XR a b c p q 3
theorem QcM {a b c : Int} {p q : List UInt8} (h : QbK a b c p q = true) : (0 <= a /\ a <= 9999) /\ (0 <= b /\ b <= 9999) /\ (0 <= c /\ c <= 9999) := by
 simp only [QbK, Qgx, QuW, decide_eq_true_eq] at h
 omega
theorem QjM {a b c : Int} {p q : List UInt8} {m : Nat} (hm : 0 < m) (h : (Qal a b c p q ((m : Int) - 1)).isSome = false) : XR a b c p q m = XR a b c p q (m - 1) := by
 obtain ⟨n, rfl⟩ : ∃ n, m = n + 1 := ⟨m - 1, by omega⟩
 rw [show ((n + 1 : Nat) : Int) - 1 = (n : Int) by omega] at h
 rw [XR, if_neg (by rw [h]; simp)]; rfl
theorem QiA {a b c : Int} {p q : List UInt8} {m : Nat} (hm : 0 < m) (h : (Qal a b c p q ((m : Int) - 1)).isSome = true) : XR a b c p q m = Qal a b c p q ((m : Int) - 1) := by
 obtain ⟨n, rfl⟩ : ∃ n, m = n + 1 := ⟨m - 1, by omega⟩
 rw [show ((n + 1 : Nat) : Int) - 1 = (n : Int) by omega] at h ⊢
 rw [XR, if_pos h]
def dCu (x : Cu) : List D := [.int .i64 x.e, .int .i64 x.a, .int .i64 x.b, .int .i64 x.c, .str x.p, .str x.q, .bool x.f]
def QeY (s : Cu × Cu) : List D := dCu s.1 ++ dCu s.2
def Zk (l : List (Cu × Cu)) : D := .sl (l.map QeY)
def Qgk (s : List (Cu × Cu) × List (Cu × Cu)) : D := .agg [Zk s.1, Zk s.2]
def Qc5 : Cu := ⟨-1, 0, 0, 0, [], [], false⟩
def Qgw : Cu := ⟨1, 0, 0, 0, [], [], false⟩
def QfX (a b c : Int) : Cu := if QeO a b c = true then Qc5 else ⟨0, a, b, c, [], [], false⟩
def Qd3 (a b c : Int) : Cu := match Qi8 a b c [] [] with
 | none => Qgw
 | some o => ⟨0, o.1, o.2.1, o.2.2, [], [], false⟩
def Xs (a b c : Int) (p q : List UInt8) : List (Cu × Cu) × List (Cu × Cu) :=
 if QbK a b c p q = false then ([], []) else if p ≠ [] then ([], [(⟨0, a, b, c, p, [], false⟩, ⟨0, a, b, c, p, [], true⟩)]) else ([(QfX a b c, Qd3 a b c)], [])
def QeP (e a b c : Int) (p q : List UInt8) (f : Bool) : Bool := !decide (e = 0) || (!f && decide (p = []) && !QeO a b c)
def Cu.sm (x : Cu) : Prop := x.p.length <= 1000000 /\ x.q.length <= 1000000
def Sm (l : List (Cu × Cu)) : Prop := l.length <= 1000000 /\ ∀ s ∈ l, Cu.sm s.1 /\ Cu.sm s.2
theorem Sm.at {l : List (Cu × Cu)} (h : Sm l) {i : Nat} (hi : i < l.length) : (l[i].1.p.length <= 1000000 /\ l[i].1.q.length <= 1000000) /\ (l[i].2.p.length <= 1000000 /\ l[i].2.q.length <= 1000000) := h.2 _ (QuX hi)
def Qda (s : Cu × Cu) : Bool := Qcp s.1.e s.1.a s.1.b s.1.c s.1.p s.1.q s.1.f s.2.e s.2.a s.2.b s.2.c s.2.p s.2.q s.2.f
def QbJ (x y : Cu) : Int := YH x.e x.a x.b x.c x.p x.q x.f y.e y.a y.b y.c y.p y.q y.f
def QqF (l : List (Cu × Cu)) (i : Nat) : Bool := match l[i]? with
 | none => true
 | some s => Qda s && (decide (i = 0) || match l[i - 1]? with | none => true | some r => decide (QbJ r.2 s.1 < 0))
theorem Qka {l : List (Cu × Cu)} {i : Nat} (h : i < l.length) : QqF l i = (Qda l[i] && (decide (i = 0) || decide (QbJ (l[i - 1]'(by omega)).2 l[i].1 < 0))) := by
 unfold QqF
 rw [List.getElem?_eq_getElem h, List.getElem?_eq_getElem (show i - 1 < l.length by omega)]
theorem Qlb {l : List (Cu × Cu)} {i : Nat} (h : i < l.length) (h1 : Qda l[i] = true) (h2 : i = 0 \/ QbJ (l[i - 1]'(by omega)).2 l[i].1 < 0) : QqF l i = true := by
 rw [Qka h, h1]; simpa using h2
theorem QbY {l : List (Cu × Cu)} {i : Nat} (h : i < l.length) (h1 : Qda l[i] = false \/ (i ≠ 0 /\ 0 <= QbJ (l[i - 1]'(by omega)).2 l[i].1)) : QqF l i = false := by
 rw [Qka h]
 rcases h1 with h1 | ⟨h1, h2⟩
 ·rw [h1]; rfl
 ·simp only [Qu5, Bool.or_eq_false_iff, decide_eq_false_iff_not]
  exact .inr ⟨h1, by omega⟩
def Qb2 (l : List (Cu × Cu)) : Bool := (List.range l.length).all (QqF l)
theorem YN {n i : Nat} {p : Nat -> Bool} (h : i < n) (hp : p i = false) : (List.range n).all p = false := by
 rw [Bool.eq_false_iff]; intro ha
 rw [Qu2] at ha
 rw [ha i (Qvf.2 h)] at hp; cases hp
theorem QcQ {i : Nat} {p : Nat -> Bool} (h : (List.range i).all p = true) (hp : p i = true) : (List.range (i + 1)).all p = true := by
 rw [List.range_succ, List.all_append, h]; simp [hp]
theorem QcP {i : Nat} {p : Nat -> Bool} {n : Nat} (h : (List.range i).all p = true) (hn : n <= i) : (List.range n).all p = true := by
 rw [Qu2] at h ⊢
 exact fun x hx => h x (Qvf.2 (Nat.lt_of_lt_of_le (Qvf.1 hx) hn))
def QhS (s : Cu × Cu) (a b c : Int) (p q : List UInt8) : Bool := Qc9 s.1.e s.1.a s.1.b s.1.c s.1.p s.1.q s.1.f s.2.e s.2.a s.2.b s.2.c s.2.p s.2.q s.2.f a b c p q
def QhR (l : List (Cu × Cu)) (a b c : Int) (p q : List UInt8) : Bool := Qb2 l && l.any fun s => QhS s a b c p q
theorem QhH {l : List (Cu × Cu)} {a b c : Int} {p q : List UInt8} {i : Nat} (hi : l.length <= i) (h : (l.take i).any (fun s => QhS s a b c p q) = false) : QhR l a b c p q = false := by
 rw [Qu8 hi] at h; rw [QhR, h, Bool.and_false]
theorem QhI {l : List (Cu × Cu)} {a b c : Int} {p q : List UInt8} (h : Qb2 l = false) : QhR l a b c p q = false := by rw [QhR, h]; rfl
theorem QhJ {l : List (Cu × Cu)} {a b c : Int} {p q : List UInt8} {i : Nat} (h : Qb2 l = true) (hi : i < l.length) (hp : QhS l[i] a b c p q = true) : QhR l a b c p q = true := by
 rw [QhR, h, Bool.true_and]; exact List.any_eq_true.2 ⟨_, QuX hi, hp⟩
def inC (x y : Cu) (s : Cu × Cu) : Bool := decide (QbJ s.1 x <= 0) && decide (QbJ y s.2 <= 0)
theorem QrO {x y : Cu} {s : Cu × Cu} (h1 : QbJ s.1 x <= 0) (h2 : QbJ y s.2 <= 0) : inC x y s = true := by simp [inC, h1, h2]
theorem QrN {x y : Cu} {s : Cu × Cu} (h : ¬ QbJ s.1 x <= 0 \/ ¬ QbJ y s.2 <= 0) : inC x y s = false := by
 simp only [inC, Qu5, decide_eq_false_iff_not]; exact h
def mIn (l : List (Cu × Cu)) (x y : Cu) : Bool := l.any (inC x y)
theorem QjK {α : Type} {s : List α} {p : α -> Bool} {i : Nat} (h : i < s.length) (hp : p s[i] = true) : s.any p = true := List.any_eq_true.2 ⟨_, QuX h, hp⟩
theorem Qpo {α : Type} {s : List α} {p : α -> Bool} {i : Nat} (hi : s.length <= i) (h : (s.take i).any p = false) : s.any p = false := by rwa [Qu8 hi] at h
theorem Qiw {α : Type} {s : List α} {p : α -> Bool} {i : Nat} (h : i < s.length) (ha : (s.take i).any p = false) (hp : p s[i] = false) : (s.take (i + 1)).any p = false := by
 rw [List.take_succ_eq_append_getElem h, List.any_append, ha]; simp [hp]
def Xv (x : Cu) : Bool := QeP x.e x.a x.b x.c x.p x.q x.f
def Qdo (s : List (Cu × Cu) × List (Cu × Cu)) : Bool := Qb2 s.1 && Qb2 s.2 && s.1.all fun x => Xv x.1 && Xv x.2
def QlN (s : List (Cu × Cu) × List (Cu × Cu)) (a b c : Int) (p q : List UInt8) : Bool :=
 Qdo s && QbK a b c p q && (if p = [] then QhR s.1 a b c p q else QhR s.2 a b c p q)
theorem Qa9 {s : List (Cu × Cu) × List (Cu × Cu)} (h : Qb2 s.1 = false \/ Qb2 s.2 = false) : Qdo s = false := by
 rw [Qdo]; rcases h with h | h <;> simp [h]
theorem QaA {s : List (Cu × Cu) × List (Cu × Cu)} {i : Nat} (hi : i < s.1.length) (h : Xv s.1[i].1 = false \/ Xv s.1[i].2 = false) : Qdo s = false := by
 have : (s.1.all fun x => Xv x.1 && Xv x.2) = false := Ys hi (by rcases h with h | h <;> simp [h])
 rw [Qdo, this, Bool.and_false]
theorem Qd6 {s : List (Cu × Cu) × List (Cu × Cu)} {i : Nat} (h1 : Qb2 s.1 = true) (h2 : Qb2 s.2 = true) (hi : s.1.length <= i) (h : (s.1.take i).all (fun x => Xv x.1 && Xv x.2) = true) : Qdo s = true := by
 rw [Qu8 hi] at h
 rw [Qdo, h1, h2, h]; rfl
def Qhw (l : List Cu) : D := .sl (l.map dCu)
theorem Qjp {l : List Cu} : ∀ r ∈ l.map dCu, r.length = 7 := fun r hr => by obtain ⟨x, _, rfl⟩ := Qu6.1 hr; rfl
theorem Qo7 {l : List Cu} {a b : Nat} : ∀ r ∈ ((l.map dCu).take a).drop b, r.length = 7 := fun r hr => Qjp r (Qvc (List.mem_of_mem_drop hr))
def Qco : List Cu -> Cu -> List Cu
 | [], c => [c]
 | x :: r, c => if QbJ x c < 0 then x :: Qco r c else if QbJ x c = 0 then x :: r else c :: x :: r
theorem Qna {l : List Cu} {c : Cu} {k : Nat} (hk : k < l.length) (h : QbJ l[k] c < 0) (hi : Qco l c = l.take k ++ Qco (l.drop k) c) : Qco l c = l.take (k + 1) ++ Qco (l.drop (k + 1)) c := by
 rw [hi, Qu9 hk, Qco, if_pos h, List.take_succ_eq_append_getElem hk, List.append_assoc]; rfl
theorem Qm9 {l : List Cu} {c : Cu} {k : Nat} (hk : k < l.length) (h : QbJ l[k] c = 0) (hi : Qco l c = l.take k ++ Qco (l.drop k) c) : Qco l c = l := by
 rw [hi, Qu9 hk, Qco, if_neg (by omega), if_pos h, <- Qu9 hk, List.take_append_drop]
theorem Qk5 {l : List Cu} {c : Cu} {k : Nat} (h : l.length <= k \/ ∃ hk : k < l.length, ¬ QbJ l[k] c < 0 /\ QbJ l[k] c ≠ 0) (hi : Qco l c = l.take k ++ Qco (l.drop k) c) : Qco l c = l.take k ++ c :: l.drop k := by
 rw [hi]
 rcases h with h | ⟨hk, h1, h2⟩
 ·rw [Qvd h, Qco]
 ·rw [Qu9 hk, Qco, if_neg h1, if_neg h2]
theorem Qe9 : ∀ (l : List Cu) (c : Cu), (Qco l c).length <= l.length + 1
 | [], c => by simp [Qco]
 | x :: r, c => by
  have := Qe9 r c
  simp only [Qco]
  (repeat' split) <;> simp <;> omega
theorem QhU : ∀ {l : List Cu} {c : Cu}, (∀ x ∈ l, Cu.sm x) -> Cu.sm c -> ∀ x ∈ Qco l c, Cu.sm x
 | [], c, _, hc, x, hx => by simp [Qco] at hx; exact hx ▸ hc
 | y :: r, c, hl, hc, x, hx => by
  simp only [Qco] at hx
  split at hx
  ·rcases QuU.1 hx with rfl | hx
   ·exact hl _ (by simp)
   ·exact QhU (fun z hz => hl z (by simp [hz])) hc x hx
  ·split at hx
   ·exact hl x hx
   ·rcases QuU.1 hx with rfl | hx
    ·exact hc
    ·exact hl x hx
def Y5 (l : List (Cu × Cu)) : List Cu := l.foldl (fun out s => Qco (Qco out s.1) s.2) [Qc5, Qgw]
theorem QoD {l : List (Cu × Cu)} {i : Nat} (h : i < l.length) : Y5 (l.take (i + 1)) = Qco (Qco (Y5 (l.take i)) l[i].1) l[i].2 := by
 rw [List.take_succ_eq_append_getElem h, Y5, List.foldl_append]; rfl
theorem Qg1 : ∀ (l : List (Cu × Cu)) (out : List Cu), (l.foldl (fun out s => Qco (Qco out s.1) s.2) out).length <= out.length + 2 * l.length
 | [], out => by simp
 | s :: l, out => by
  have h1 := Qe9 out s.1
  have h2 := Qe9 (Qco out s.1) s.2
  have := Qg1 l (Qco (Qco out s.1) s.2)
  simp only [List.foldl_cons, List.length_cons]; omega
theorem Qcl (l : List (Cu × Cu)) : (Y5 l).length <= 2 + 2 * l.length := Qg1 l _
theorem Qi4 : ∀ {l : List (Cu × Cu)} {out : List Cu}, (∀ s ∈ l, Cu.sm s.1 /\ Cu.sm s.2) -> (∀ x ∈ out, Cu.sm x) -> ∀ x ∈ l.foldl (fun out s => Qco (Qco out s.1) s.2) out, Cu.sm x
 | [], _, _, h => h
 | s :: l, out, hl, h => by
  rw [List.foldl_cons]
  exact Qi4 (fun t ht => hl t (by simp [ht])) (QhU (QhU h (hl s (by simp)).1) (hl s (by simp)).2)
theorem Qk3 {l : List (Cu × Cu)} (hl : ∀ s ∈ l, Cu.sm s.1 /\ Cu.sm s.2) : ∀ x ∈ Y5 l, Cu.sm x := Qi4 hl (by
 intro x hx
 simp only [QuU, QuT, or_false] at hx
 rcases hx with rfl | rfl <;> exact ⟨Qu4 _, Qu4 _⟩)
theorem Qe8 {l : List (Cu × Cu)} (hl : Sm l) (i : Nat) : (Y5 (l.take i)).length <= 2000002 /\ ∀ x ∈ Y5 (l.take i), Cu.sm x := by
 refine ⟨?_, Qk3 fun s hs => hl.2 s (Qvc hs)⟩
 have := Qcl (l.take i)
 have h2 : (l.take i).length <= l.length := List.length_take_le' ..
 have := hl.1
 omega
def Qcn (l : List (Cu × Cu)) (x y : Cu) : List (Cu × Cu) := match l.getLast? with
 | some s => if QbJ s.2 x = 0 then l.dropLast ++ [(s.1, y)] else l ++ [(x, y)]
 | none => l ++ [(x, y)]
theorem Qi6 {l : List (Cu × Cu)} {x y : Cu} {i : Nat} (hi : i + 1 = l.length) (h : QbJ (l[i]'(by omega)).2 x = 0) : Qcn l x y = l.set i ((l[i]'(by omega)).1, y) := by
 have hg : l.getLast? = some (l[i]'(by omega)) := by
  rw [List.getLast?_eq_getElem?, show l.length - 1 = i by omega, List.getElem?_eq_getElem]
 rw [Qcn, hg]
 simp only [h, if_true]
 rw [List.dropLast_eq_take, show l.length - 1 = i by omega, List.set_eq_take_append_cons_drop, if_pos (by omega), Qvd (by omega)]
theorem Qd4 {l : List (Cu × Cu)} {x y : Cu} (h : l = [] \/ ∃ i, ∃ hi : i + 1 = l.length, QbJ (l[i]'(by omega)).2 x ≠ 0) : Qcn l x y = l ++ [(x, y)] := by
 rcases h with rfl | ⟨i, hi, h⟩
 ·rfl
 ·have hg : l.getLast? = some (l[i]'(by omega)) := by
   rw [List.getLast?_eq_getElem?, show l.length - 1 = i by omega, List.getElem?_eq_getElem]
  rw [Qcn, hg]
  simp only [if_neg h]
theorem Qi7 (l : List (Cu × Cu)) (x y : Cu) : (Qcn l x y).length <= l.length + 1 := by
 unfold Qcn
 split
 ·split
  ·simp
  ·simp
 ·simp
theorem Qk4 {l : List (Cu × Cu)} {x y : Cu} (hl : ∀ s ∈ l, Cu.sm s.1 /\ Cu.sm s.2) (hx : Cu.sm x) (hy : Cu.sm y) : ∀ s ∈ Qcn l x y, Cu.sm s.1 /\ Cu.sm s.2 := by
 intro s hs
 unfold Qcn at hs
 split at hs
 ·rename_i t ht
  have ht' := List.mem_of_getLast? ht
  split at hs
  ·rcases Qu3.1 hs with hs | hs
   ·exact hl s (List.dropLast_subset _ hs)
   ·simp at hs; subst hs; exact ⟨(hl t ht').1, hy⟩
  ·rcases Qu3.1 hs with hs | hs
   ·exact hl s hs
   ·simp at hs; subst hs; exact ⟨hx, hy⟩
 ·rcases Qu3.1 hs with hs | hs
  ·exact hl s hs
  ·simp at hs; subst hs; exact ⟨hx, hy⟩
theorem QkS {α β : Type} {l : List α} {f : α -> β} {i : Nat} (h : i + 1 < l.length) : (l.map f)[((i : Int) + 1).toNat]? = some (f l[i + 1]) := by
 rw [show ((i : Int) + 1).toNat = i + 1 by omega, List.getElem?_map, List.getElem?_eq_getElem h]; rfl
def Qcm (f : Cu -> Cu -> Bool) : List Cu -> List (Cu × Cu) -> List (Cu × Cu)
 | x :: y :: r, out => Qcm f (y :: r) (if f x y = true then Qcn out x y else out)
 | _, out => out
def Qj7 (l : List (Cu × Cu)) : List (Cu × Cu) := if l.all Qda = true then Qcm (mIn l) (Y5 l) [] else []
theorem Qg2 {f : Cu -> Cu -> Bool} {c : List Cu} {out : List (Cu × Cu)} {i : Nat} (h : i + 1 < c.length) : Qcm f (c.drop i) out = Qcm f (c.drop (i + 1)) (if f c[i] c[i + 1] = true then Qcn out c[i] c[i + 1] else out) := by
 rw [Qu9 (show i < c.length by omega), Qu9 h, Qcm]
theorem Qm8 {f : Cu -> Cu -> Bool} {c : List Cu} {out : List (Cu × Cu)} {i : Nat} (h : c.length <= i + 1) : Qcm f (c.drop i) out = out := by
 have : (c.drop i).length <= 1 := by simp; omega
 match hd : c.drop i with
 | [] => rfl
 | [x] => rfl
 | x :: y :: r => rw [hd] at this; simp at this
def FillI (f : Cu -> Cu -> Bool) (c : List Cu) (i : Nat) (out : List (Cu × Cu)) : Prop :=
 out.length <= i /\ (∀ s ∈ out, Cu.sm s.1 /\ Cu.sm s.2) /\ Qcm f c [] = Qcm f (c.drop i) out
theorem FillI.zero {f : Cu -> Cu -> Bool} {c : List Cu} : FillI f c 0 [] := ⟨Qu4 _, by simp, by simp⟩
theorem FillI.take {f : Cu -> Cu -> Bool} {c : List Cu} {i : Nat} {out : List (Cu × Cu)} (h : FillI f c i out) (hc : ∀ x ∈ c, Cu.sm x) (hi : i + 1 < c.length) (ht : f c[i] c[i + 1] = true) : FillI f c (i + 1) (Qcn out c[i] c[i + 1]) := by
 obtain ⟨h1, h2, h3⟩ := h
 refine ⟨Qvb (Qi7 ..) (by omega), Qk4 h2 (hc _ (QuX _)) (hc _ (QuX _)), ?_⟩
 rw [h3, Qg2 hi, if_pos ht]
theorem FillI.skip {f : Cu -> Cu -> Bool} {c : List Cu} {i : Nat} {out : List (Cu × Cu)} (h : FillI f c i out) (hi : i + 1 < c.length) (ht : f c[i] c[i + 1] = false) : FillI f c (i + 1) out := by
 obtain ⟨h1, h2, h3⟩ := h
 exact ⟨by omega, h2, by rw [h3, Qg2 hi, if_neg (by rw [ht]; simp)]⟩
theorem FillI.done {f : Cu -> Cu -> Bool} {c : List Cu} {i : Nat} {out : List (Cu × Cu)} (h : FillI f c i out) (hi : c.length <= i + 1) : Qcm f c [] = out := by rw [h.2.2, Qm8 hi]
theorem Qsh {i : Nat} : ((i : Int) + 1).toNat = i + 1 := by omega
theorem YI {l : List (Cu × Cu)} (hl : Sm l) : ∀ x ∈ Y5 l, Cu.sm x := Qk3 hl.2
def QpC (a b : List (Cu × Cu)) : List (Cu × Cu) := if Qb2 a = true /\ Qb2 b = true then Qj7 (a ++ b) else []
def Qj8 (a : List (Cu × Cu)) : List (Cu × Cu) := if Qb2 a = true then Qcm (fun x y => !mIn a x y) (Y5 a) [] else []
theorem QpI {l : List (Cu × Cu)} : ∀ r ∈ l.map QeY, r.length = 14 := fun r hr => by obtain ⟨x, _, rfl⟩ := Qu6.1 hr; rfl
theorem Sm.app {a b : List (Cu × Cu)} (ha : Sm a) (hb : Sm b) (h : a.length + b.length <= 1000000) : Sm (a ++ b) := by
 refine ⟨by simp; omega, fun s hs => ?_⟩
 rcases Qu3.1 hs with hs | hs
 ·exact ha.2 s hs
 ·exact hb.2 s hs
theorem QsL {H : List (Nat × Box)} {S : Nat -> Bool} {k n : Nat} {b : Box} (hS : S k = true) (hb : lk H k = some b) (hp : b.pr = true) (hn : n = b.rows.length) : (D.osl k n).fz H S = .sl b.rows := by
 simp only [D.fz, D.fzS, hS, hb, if_true, hp, hn, and_self]
abbrev Qfn := List (Cu × Cu) × List (Cu × Cu)
def QpD (a b : Qfn) : Qfn := if Qdo a = true /\ Qdo b = true then (QpC a.1 b.1, QpC a.2 b.2) else ([], [])
def QhT (a : Qfn) : Qfn := if Qdo a = true then (Qj8 a.1, Qj8 a.2) else ([], [])
def mPl (v n : Int) : Int := if n < 1 then 0 else QfY v n
theorem Qja {v n : Int} : 0 <= mPl v n := by
 unfold mPl; split
 ·omega
 ·exact Qo0 (by omega)
theorem Qi9 {v n : Int} (h : 1 <= n) : mPl v n < n := by
 rw [mPl, if_neg (by omega)]; exact QoZ (by omega)
def Qbk (l : List Int) (i : Int) : Int := if i < 0 \/ (l.length : Int) <= i then i.tmod 3 else l.getD i.toNat 0
theorem Qm7 {l : List Int} {i : Int} (h0 : 0 <= i) (h : i < l.length) : Qbk l i = l[i.toNat]'(by omega) := by
 rw [Qbk, if_neg (by omega), List.getD_eq_getElem?_getD, List.getElem?_eq_getElem (by omega)]; rfl
def I64 (x : Int) : Prop := -9223372036854775808 <= x /\ x <= 9223372036854775807
theorem Qk2 {l : List Int} {i : Int} (hl : ∀ x ∈ l, I64 x) (hi : I64 i) : I64 (Qbk l i) := by
 by_cases h : i < 0 \/ (l.length : Int) <= i
 ·rw [Qbk, if_pos h]
  have h1 := Int.tmod_lt_of_pos i (show (0 : Int) < 3 by omega)
  have h2 := Int.lt_tmod_of_pos i (show (0 : Int) < 3 by omega)
  exact ⟨by omega, by omega⟩
 ·rw [Qm7 (by omega) (by omega)]
  exact hl _ (QuX _)
theorem Qgi (x : Int) : I64 (IntKind.i64.wrap x) := by
 unfold IntKind.wrap I64
 simp only [IntKind.bits, IntKind.signed, Bool.true_and]
 split
 ·rename_i h
  have := of_decide_eq_true h
  omega
 ·rename_i h
  have : ¬ (x % 2 ^ 64 >= 2 ^ (64 - 1)) := fun hh => h (decide_eq_true hh)
  omega
theorem Qex {α : Type} {k : Nat} {v : α} {l : List (Nat × α)} : lk ((k, v) :: l) k = some v := by rw [Qm, if_pos rfl]
theorem Qe7 {α : Type} {k : Nat} {v : α} {l : List (Nat × α)} : (lk ((k, v) :: l) k).isSome = true := by rw [Qex]; rfl
def gB (L : List Int) (I : Int) (et : Nat) : Box := ⟨[[QZ L, .int .i64 I]], 2, et, true⟩
def nxI (I : Int) : Int := IntKind.i64.wrap (I + 1)
def nx (L : List Int) (I n : Int) : Int := mPl (Qbk L (IntKind.i64.wrap (nxI I - 1))) n
def Qjc (h m : Int) : Int := if Qcg .and .i64 h m = h then 2 else if Qcg .and .i64 h m = 0 then 0 else 1
theorem Qns {i : Nat} (h : i <= 62) : 1 <= (2 : Int) ^ i /\ (2 : Int) ^ i <= 4611686018427387904 := by
 have h1 : (2 : Nat) ^ i <= 2 ^ 62 := Nat.pow_le_pow_right (by omega) h
 have h2 : 1 <= (2 : Nat) ^ i := Nat.one_le_two_pow
 have h3 : ((2 ^ i : Nat) : Int) = (2 : Int) ^ i := by simp
 rw [<- h3]
 have h4 : (2 : Nat) ^ 62 = 4611686018427387904 := by decide
 omega
structure Vr where
 a : Int
 b : Int
 c : Int
 p : List UInt8
 q : List UInt8
def dVr (v : Vr) : List D := [.int .i64 v.a, .int .i64 v.b, .int .i64 v.c, .str v.p, .str v.q]
def Vr.sm (v : Vr) : Prop := v.p.length <= 100 /\ v.q.length <= 100
def versions : List Vr := [⟨1, 0, 0, [], []⟩, ⟨1, 2, 0, [], []⟩, ⟨2, 0, 0, [97, 46, 49], []⟩, ⟨2, 0, 0, [], []⟩]
theorem Qkq : ∀ v ∈ versions, v.sm := by
 intro v hv
 simp only [versions, QuU, QuT, or_false] at hv
 rcases hv with rfl | rfl | rfl | rfl <;> exact ⟨by decide, by decide⟩
theorem XU {i : Nat} : ((i : Int) - 1).toNat = i - 1 := by omega
end M25
namespace Go.Proofs
open Go Go.Abs M3 M25
theorem Qas {a b c : Int} {p q : List UInt8} : Ok Tryz.prog 88 [.agg [.int .i64 a, .int .i64 b, .int .i64 c, .str p, .str q]] (.agg [.int .i64 a, .int .i64 b, .int .i64 c, .str p, .str []]) := by
 refine Ok.ofT Z6 Tryz.func88 QuF (QuS Z) ?_
 show TW _ _ tf88.body _ _
 refine Qe fun K hK => ZI Z Z Z (ZF Z (hK _ _ (Qa (kp2 Z Z) ?_)))
 refine Qe fun K hK => Qi Z Z (Q0 Z Z Z Z Z Z Z Z (hK _ _ (Qa (kp2 Z Z) ?_)))
 refine Qe fun K hK => QD (cs := [_, _, _, _, _]) Z Z Z Z (Q0 Z Z Z Z Z Z Z Z (hK _ _ (Qa (kp1 Z) ?_)))
 refine Qt (ZL (cs := [_, _, _, _, _]) Z Z Z Z ?_)
 exact rfl
theorem Xe  : Ok Tryz.prog 90 [] (.agg [.int .i64 (-1), .int .i64 0, .int .i64 0, .int .i64 0, .str [], .str [], .bool false]) := by
 refine Ok.ofT Z6 Tryz.func90 QuH (QuS Z) ?_
 show TW _ _ tf90.body _ _
 refine Qe fun K hK => ZF Z (hK _ _ (Qa (kp1 Z) ?_))
 refine Qe fun K hK => QX Z Z (Q0 Z Z Z Z Z Z Z Z (hK _ _ (Qa (kp1 Z) ?_)))
 refine Qt (ZL (cs := [_, _, _, _, _, _, _]) Z Z Z Z ?_)
 exact rfl
theorem Xp  : Ok Tryz.prog 92 [] (.agg [.int .i64 1, .int .i64 0, .int .i64 0, .int .i64 0, .str [], .str [], .bool false]) := by
 refine Ok.ofT Z6 Tryz.func92 QuJ (QuS Z) ?_
 show TW _ _ tf92.body _ _
 refine Qe fun K hK => ZF Z (hK _ _ (Qa (kp1 Z) ?_))
 refine Qe fun K hK => QX Z Z (Q0 Z Z Z Z Z Z Z Z (hK _ _ (Qa (kp1 Z) ?_)))
 refine Qt (ZL (cs := [_, _, _, _, _, _, _]) Z Z Z Z ?_)
 exact rfl
theorem YS {a b c : Int} {p q : List UInt8} : Ok Tryz.prog 63 [.agg [.int .i64 a, .int .i64 b, .int .i64 c, .str p, .str q]] (.agg [.int .i64 0, .int .i64 a, .int .i64 b, .int .i64 c, .str p, .str [], .bool false]) := by
 refine Ok.ofT Z6 Tryz.func63 Qun (QuS Z) ?_
 show TW _ _ tf63.body _ _
 refine Qe fun K hK => ZI Z Z Z (ZF Z (hK _ _ (Qa (kp2 Z Z) ?_)))
 refine Qe fun K hK => QD (cs := [_, _, _, _, _]) Z Z Z Z (QA (Qas) Z Z (.inl Z) (QX Z Z (Q0 Z Z Z Z Z Z Z Z (hK _ _ (Qa (kp1 Z) ?_)))))
 refine Qt (ZL (cs := [_, _, _, _, _, _, _]) Z Z Z Z ?_)
 exact rfl
theorem Qca {a b c : Int} {p q : List UInt8} : Ok Tryz.prog 64 [.agg [.int .i64 a, .int .i64 b, .int .i64 c, .str p, .str q]] (.agg [.int .i64 0, .int .i64 a, .int .i64 b, .int .i64 c, .str p, .str [], .bool true]) := by
 refine Ok.ofT Z6 Tryz.func64 Quo (QuS Z) ?_
 show TW _ _ tf64.body _ _
 refine Qe fun K hK => ZI Z Z Z (ZF Z (hK _ _ (Qa (kp2 Z Z) ?_)))
 refine Qe fun K hK => QD (cs := [_, _, _, _, _]) Z Z Z Z (QA (Qas) Z Z (.inl Z) (QX Z Z (Q0 Z Z Z Z Z Z Z Z (hK _ _ (Qa (kp1 Z) ?_)))))
 refine Qt (ZL (cs := [_, _, _, _, _, _, _]) Z Z Z Z ?_)
 exact rfl
theorem Qab {a b c : Int} {p q : List UInt8} : Ok Tryz.prog 89 [.agg [.int .i64 a, .int .i64 b, .int .i64 c, .str p, .str q]] (.bool (QeO a b c)) := by
 refine Ok.ofT Z6 Tryz.func89 QuG (QuS Z) ?_
 show TW _ _ tf89.body _ _
 refine Qe fun K hK => ZI Z Z Z (Qb Z (hK _ _ (Qa (kp1 Z) ?_)))
 refine Qe fun K hK => Qi Z Z (QC Z Z Z (Xb Z Z (Qb Z ?_)))
 refine Qz (g := 6) Z (fun h1 => ?_) (fun h1 => ?_)
 ·try rw [h1]
  try simp only [qB] at h1
  refine Qf Z (Qi Z Z (Qf Z (QC Z Z Z (Qf Z (Xb Z Z (Qj Z Z (Qb Z ?_)))))))
  refine Qz (g := 11) Z (fun h2 => ?_) (fun h2 => ?_)
  ·try rw [h2]
   try simp only [qB] at h2
   refine Qf Z (Qi Z Z (Qf Z (QC Z Z Z (Qf Z (Xb Z Z (Qj Z Z (Qb Z (hK _ _ (Qa (kp1 Z) ?_)))))))))
   refine Qt (Qn Z ?_)
   (repeat clear hK K); simp_all [QeO]
  ·try rw [h2]
   try simp only [qB] at h2
   refine Qs Z (Qs Z (Qs Z (Qj Z Z (Qb Z (hK _ _ (Qa (kp1 Z) ?_))))))
   refine Qt (Qn Z ?_)
   (repeat clear hK K); simp_all [QeO]
 ·try rw [h1]
  try simp only [qB] at h1
  refine Qs Z (Qs Z (Qs Z (Qj Z Z (Qb Z (Qs Z (Qs Z (Qs Z (Qj Z Z (Qb Z (hK _ _ (Qa (kp1 Z) ?_)))))))))))
  refine Qt (Qn Z ?_)
  (repeat clear hK K); simp_all [QeO]
end Go.Proofs
namespace Go.Proofs
open Go Go.Abs M3 M25
theorem Qdf {a b c : Int} {p q : List UInt8} (hp : p.length <= 1000000) (hq : q.length <= 1000000) {part : Int} : Ok Tryz.prog 109 [.agg [.int .i64 a, .int .i64 b, .int .i64 c, .str p, .str q], .int .i64 part] (dOV (Qal a b c p q part)) := by
 refine Ok.ofT Z6 Tryz.func109 Qs1 (QuS Z) ?_
 show TW _ _ tf109.body _ _
 refine Qe fun K hK => ZI Z Z Z (ZF Z (Qb Z (hK _ _ (Qa (kp3 Z Z Z) ?_))))
 refine QG ?_ -- 0
 refine Qe fun K hK => QD (cs := [_, _, _, _, _]) Z Z Z Z (QA (ZB (by omega) (by omega)) Z Z (.inr Z) (ZW Z (Qb Z ?_)))
 refine Qz (g := 10) Z (fun h1 => ?_) (fun h1 => ?_)
 ·try rw [h1]
  try simp only [qB] at h1
  refine Qs Z (Qs Z (Qj Z Z (Qb Z (Qs Z (Qs Z (Qj Z Z (hK _ _ (Qa (kp4 Z Z Z Z) ?_))))))))
  refine Zt Z (Qe fun K hK => QX Z Z (Q0 Z Z Z Z Z Z Z Z (Qb Z (hK _ _ (Qa (kp2 Z Z) ?_)))))
  refine Qt (Qk (Post.eq (XN (ds := [.int .i64 _, .int .i64 _, .int .i64 _, .str _, .str _]) (d' := .bool _) (cs := [_, _, _, _, _]) Z Z Z Z Z ⟨rfl, rfl⟩) ?_))
  (repeat clear hK K); first | (simp [Qal, dOV, h1]; done) | (simp_all [Qal, dOV]; done)
 ·try rw [h1]
  try simp only [qB] at h1
  refine Qf Z (Qb Z (Qf Z (Yk Z Z (Qj Z Z (Qb Z ?_)))))
  refine Qz (g := 14) Z (fun h2 => ?_) (fun h2 => ?_)
  ·try rw [h2]
   try simp only [qB] at h2
   refine Qs Z (Qs Z (Qj Z Z (hK _ _ (Qa (kp4 Z Z Z Z) ?_))))
   refine Zt Z (Qe fun K hK => QX Z Z (Q0 Z Z Z Z Z Z Z Z (Qb Z (hK _ _ (Qa (kp2 Z Z) ?_)))))
   refine Qt (Qk (Post.eq (XN (ds := [.int .i64 _, .int .i64 _, .int .i64 _, .str _, .str _]) (d' := .bool _) (cs := [_, _, _, _, _]) Z Z Z Z Z ⟨rfl, rfl⟩) ?_))
   (repeat clear hK K); first | (simp [Qal, dOV, h1, h2]; done) | (simp_all [Qal, dOV]; done)
  ·try rw [h2]
   try simp only [qB] at h2
   refine Qf Z (Qb Z (Qf Z (Qdx Z Z (Qj Z Z (hK _ _ (Qa (kp4 Z Z Z Z) ?_))))))
   refine Qw Z (fun h3 => ?_) (fun h3 => ?_)
   ·try rw [h3]
    try simp only [qB] at h3
    refine Qe fun K hK => QX Z Z (Q0 Z Z Z Z Z Z Z Z (Qb Z (hK _ _ (Qa (kp2 Z Z) ?_))))
    refine Qt (Qk (Post.eq (XN (ds := [.int .i64 _, .int .i64 _, .int .i64 _, .str _, .str _]) (d' := .bool _) (cs := [_, _, _, _, _]) Z Z Z Z Z ⟨rfl, rfl⟩) ?_))
    (repeat clear hK K); first | (simp [Qal, dOV, h1, h2, h3]; done) | (simp_all [Qal, dOV]; done)
   ·try rw [h3]
    try simp only [qB] at h3
    refine Qu (Qd (kp3 Z Z Z) (Qe fun K hK => ZF Z (hK _ _ (Qa (kp4 Z Z Z Z) ?_))))
    refine QG ?_ -- 1
    refine Qe fun K hK => Qb Z (hK _ _ (Qa (kp4 Z Z Z Z) ?_))
    refine QH (Qe fun K hK => Xb Z Z (Qb Z (hK _ _ (Qa (kp5 Z Z Z Z Z) ?_))))
    refine Qw Z (fun h4 => ?_) (fun h4 => ?_)
    ·try rw [h4]
     try simp only [qB] at h4
     refine QR fun K hK => Qi Z Z (QC Z Z Z (Q8 Z Z (Qr (by have := QcM (by simpa using h1); omega) (by have := QcM (by simpa using h1); omega)) (QX Z Z (Q0 Z Z Z Z Z Z Z Z (hK _ ?_)))))
     refine Qh (Qd (kp2 Z Z) ?_)
     refine QG ?_ -- 2
     refine Qe fun K hK => QD (cs := [_, _, _, _, _]) Z Z Z Z (QA (ZB (by simp) (by simp)) Z Z (.inr Z) (ZW Z (hK _ _ (Qa (kp3 Z Z Z) ?_))))
     refine Qw Z (fun h5 => ?_) (fun h5 => ?_)
     ·try rw [h5]
      try simp only [qB] at h5
      refine Qe fun K hK => QX Z Z (Q0 Z Z Z Z Z Z Z Z (Qb Z (hK _ _ (Qa (kp2 Z Z) ?_))))
      refine Qt (Qk (Post.eq (XN (ds := [.int .i64 _, .int .i64 _, .int .i64 _, .str _, .str _]) (d' := .bool _) (cs := [_, _, _, _, _]) Z Z Z Z Z ⟨rfl, rfl⟩) ?_))
      (repeat clear hK K); first | (simp [Qal, dOV, h1, h2, h3, h4, h5]; done) | (simp_all [Qal, dOV]; done)
     ·try rw [h5]
      try simp only [qB] at h5
      refine Qu (Qd (kp2 Z Z) (Qe fun K hK => QD (cs := [_, _, _, _, _]) Z Z Z Z (Q0 Z Z Z Z Z Z Z Z (Qb Z (hK _ _ (Qa (kp2 Z Z) ?_))))))
      refine Qt (Post.eq (XN (ds := [.int .i64 _, .int .i64 _, .int .i64 _, .str _, .str _]) (d' := .bool _) (cs := [_, _, _, _, _]) Z Z Z Z Z ⟨rfl, rfl⟩) ?_)
      (repeat clear hK K); first | (simp [Qal, dOV, h1, h2, h3, h4, h5]; done) | (simp_all [Qal, dOV]; done)
    ·try rw [h4]
     try simp only [qB] at h4
     refine Qe fun K hK => Xb Z Z (Qb Z (hK _ _ (Qa (kp4 Z Z Z Z) ?_)))
     refine Qw Z (fun h6 => ?_) (fun h6 => ?_)
     ·try rw [h6]
      try simp only [qB] at h6
      refine QR fun K hK => Qi Z Z (QC Z Z Z (Qi Z Z (QC Z Z Z (Q8 Z Z (Qr (by have := QcM (by simpa using h1); omega) (by have := QcM (by simpa using h1); omega)) (QX Z Z (Q0 Z Z Z Z Z Z Z Z (hK _ ?_)))))))
      refine Qh (Qd (kp2 Z Z) ?_)
      refine QG ?_ -- 2
      refine Qe fun K hK => QD (cs := [_, _, _, _, _]) Z Z Z Z (QA (ZB (by simp) (by simp)) Z Z (.inr Z) (ZW Z (hK _ _ (Qa (kp3 Z Z Z) ?_))))
      refine Qw Z (fun h7 => ?_) (fun h7 => ?_)
      ·try rw [h7]
       try simp only [qB] at h7
       refine Qe fun K hK => QX Z Z (Q0 Z Z Z Z Z Z Z Z (Qb Z (hK _ _ (Qa (kp2 Z Z) ?_))))
       refine Qt (Qk (Post.eq (XN (ds := [.int .i64 _, .int .i64 _, .int .i64 _, .str _, .str _]) (d' := .bool _) (cs := [_, _, _, _, _]) Z Z Z Z Z ⟨rfl, rfl⟩) ?_))
       (repeat clear hK K); first | (simp [Qal, dOV, h1, h2, h3, h4, h6, h7]; done) | (simp_all [Qal, dOV]; done)
      ·try rw [h7]
       try simp only [qB] at h7
       refine Qu (Qd (kp2 Z Z) (Qe fun K hK => QD (cs := [_, _, _, _, _]) Z Z Z Z (Q0 Z Z Z Z Z Z Z Z (Qb Z (hK _ _ (Qa (kp2 Z Z) ?_))))))
       refine Qt (Post.eq (XN (ds := [.int .i64 _, .int .i64 _, .int .i64 _, .str _, .str _]) (d' := .bool _) (cs := [_, _, _, _, _]) Z Z Z Z Z ⟨rfl, rfl⟩) ?_)
       (repeat clear hK K); first | (simp [Qal, dOV, h1, h2, h3, h4, h6, h7]; done) | (simp_all [Qal, dOV]; done)
     ·try rw [h6]
      try simp only [qB] at h6
      refine QR fun K hK => Qi Z Z (QC Z Z Z (Qi Z Z (QC Z Z Z (Qi Z Z (QC Z Z Z (Q8 Z Z (Qr (by have := QcM (by simpa using h1); omega) (by have := QcM (by simpa using h1); omega)) (QX Z Z (Q0 Z Z Z Z Z Z Z Z (hK _ ?_)))))))))
      refine Qh (Qd (kp2 Z Z) ?_)
      refine QG ?_ -- 2
      refine Qe fun K hK => QD (cs := [_, _, _, _, _]) Z Z Z Z (QA (ZB (by simp) (by simp)) Z Z (.inr Z) (ZW Z (hK _ _ (Qa (kp3 Z Z Z) ?_))))
      refine Qw Z (fun h8 => ?_) (fun h8 => ?_)
      ·try rw [h8]
       try simp only [qB] at h8
       refine Qe fun K hK => QX Z Z (Q0 Z Z Z Z Z Z Z Z (Qb Z (hK _ _ (Qa (kp2 Z Z) ?_))))
       refine Qt (Qk (Post.eq (XN (ds := [.int .i64 _, .int .i64 _, .int .i64 _, .str _, .str _]) (d' := .bool _) (cs := [_, _, _, _, _]) Z Z Z Z Z ⟨rfl, rfl⟩) ?_))
       (repeat clear hK K); first | (simp [Qal, dOV, h1, h2, h3, h4, h6, h8]; done) | (simp_all [Qal, dOV]; done)
      ·try rw [h8]
       try simp only [qB] at h8
       refine Qu (Qd (kp2 Z Z) (Qe fun K hK => QD (cs := [_, _, _, _, _]) Z Z Z Z (Q0 Z Z Z Z Z Z Z Z (Qb Z (hK _ _ (Qa (kp2 Z Z) ?_))))))
       refine Qt (Post.eq (XN (ds := [.int .i64 _, .int .i64 _, .int .i64 _, .str _, .str _]) (d' := .bool _) (cs := [_, _, _, _, _]) Z Z Z Z Z ⟨rfl, rfl⟩) ?_)
       (repeat clear hK K); first | (simp [Qal, dOV, h1, h2, h3, h4, h6, h8]; done) | (simp_all [Qal, dOV]; done)
theorem Qdg {a b c : Int} {p q : List UInt8} (hp : p.length <= 1000000) (hq : q.length <= 1000000) : Ok Tryz.prog 91 [.agg [.int .i64 a, .int .i64 b, .int .i64 c, .str p, .str q]] (dOV (Qi8 a b c p q)) := by
 refine Ok.ofT Z6 Tryz.func91 QuI (QuS Z) ?_
 show TW _ _ tf91.body _ _
 refine Qe fun K hK => ZI Z Z Z (ZF Z (Qb Z (hK _ _ (Qa (kp2 Z Z) ?_))))
 refine QG ?_ -- 0
 refine Qe fun K hK => QD (cs := [_, _, _, _, _]) Z Z Z Z (QA (ZB (by omega) (by omega)) Z Z (.inr Z) (ZW Z (hK _ _ (Qa (kp3 Z Z Z) ?_))))
 refine Qw Z (fun h1 => ?_) (fun h1 => ?_)
 ·try rw [h1]
  try simp only [qB] at h1
  refine Qe fun K hK => QX Z Z (Q0 Z Z Z Z Z Z Z Z (Qb Z (hK _ _ (Qa (kp2 Z Z) ?_))))
  refine Qt (Qk (Post.eq (XN (ds := [.int .i64 _, .int .i64 _, .int .i64 _, .str _, .str _]) (d' := .bool _) (cs := [_, _, _, _, _]) Z Z Z Z Z ⟨rfl, rfl⟩) ?_))
  simp [Qi8, dOV, h1]
 ·try rw [h1]
  try simp only [qB] at h1
  refine Qu (Qd (kp2 Z Z) ?_)
  refine QG ?_ -- 1
  refine Qe fun K hK => Qi Z Z (QC Z Z Z (QlA Z Z (hK _ _ (Qa (kp3 Z Z Z) ?_))))
  refine Qw Z (fun h2 => ?_) (fun h2 => ?_)
  ·try rw [h2]
   try simp only [qB] at h2
   refine Qe fun K hK => Qi Z Z (QC Z Z Z (Qi Z Z (QC Z Z Z (Qi Z Z (QC Z Z Z (QX Z Z (Q0 Z Z Z Z Z Z Z Z (Qb Z (hK _ _ (Qa (kp2 Z Z) ?_))))))))))
   refine Qt (Qk (Post.eq (XN (ds := [.int .i64 _, .int .i64 _, .int .i64 _, .str _, .str _]) (d' := .bool _) (cs := [_, _, _, _, _]) Z Z Z Z Z ⟨rfl, rfl⟩) ?_))
   simp [Qi8, dOV, h1, h2]
  ·try rw [h2]
   try simp only [qB] at h2
   refine Qu (Qd (kp2 Z Z) ?_)
   refine QG ?_ -- 2
   refine Qe fun K hK => Qb Z (hK _ _ (Qa (kp3 Z Z Z) ?_))
   refine QH ?_
   refine ZH (ι := Nat) (fun m => ⟨[(1, .ref 1 0 0), (2, .ref 2 0 0), (4, .int .i64 ((m : Int) - 1))], [(1, ⟨[[.int .i64 a, .int .i64 b, .int .i64 c, .str p, .str q]], 5, 59, true⟩), (2, ⟨[[.int .i64 0, .int .i64 0, .int .i64 0, .str [], .str []]], 5, 59, true⟩)]⟩) (fun m => m <= 3 /\ XR a b c p q 3 = XR a b c p q m) (fun m => m) 3 ?_ ?_ ?_
   ·exact Q6 (l := [1, 2, 4]) (lH := [1, 2]) (kp3 rfl rfl rfl) (Qg rfl (Qg rfl Qp)) rfl rfl rfl
   ·exact ⟨by omega, rfl⟩
   intro m hI
   obtain ⟨hI1, hI2⟩ := hI
   try dsimp only
   refine QG ?_ -- 3
   refine Qe fun K hK => Qb Z (Qhj Z Z (hK _ _ (Qa (kp4 Z Z Z Z) ?_)))
   refine Qw Z (fun h3 => ?_) (fun h3 => ?_)
   ·try rw [h3]
    try simp only [qB] at h3
    rcases Nat.eq_zero_or_pos m with hm | hm <;> first | omega | skip
    refine Qu (Qd (kp3 Z Z Z) ?_)
    refine QG ?_ -- 4
    refine QH (Qe fun K hK => QD (cs := [_, _, _, _, _]) Z Z Z Z (Qb Z (QA (Qdf (by omega) (by omega)) Z Z (.inl Z) (Qb Z (Q5 Z Z (Q5 Z Z (ZF Z (Q0 Z Z Z Z Z Z Z Z (Qb Z (hK _ _ (Qa (kp5 Z Z Z Z Z) ?_)))))))))))
    refine Qe fun K hK => Qb Z (hK _ _ (Qa (kp5 Z Z Z Z Z) ?_))
    refine Qw Z (fun h4 => ?_) (fun h4 => ?_)
    ·try rw [h4]
     try simp only [qB] at h4
     refine Qe fun K hK => QD (cs := [_, _, _, _, _]) Z Z Z Z (Q0 Z Z Z Z Z Z Z Z (Qb Z (hK _ _ (Qa (kp2 Z Z) ?_))))
     refine Qt (Qv (Qk (Q2 (Qv (Qk (Post.eq (XN (ds := [.int .i64 _, .int .i64 _, .int .i64 _, .str _, .str _]) (d' := .bool _) (cs := [_, _, _, _, _]) Z Z Z Z Z ⟨rfl, rfl⟩) ?_))))))
     subst h2
     simp [Qi8, dOV, h1, hI2, QiA hm h4, h4]
    ·try rw [h4]
     try simp only [qB] at h4
     refine Qu (Qh (Qd (kp3 Z Z Z) (QR fun K hK => Qb Z (QdB Z Z (by first | exact Qr (by omega) (by omega) | rfl) (Qb Z (hK _ ?_))))))
     refine Ql (m - 1) ?_ ?_ ?_
     ·refine Q6 (l := [1, 2, 4]) (lH := [1, 2]) (kp3 Z Z Z) (Qg Z (Qg Z Qp)) ?_ Z rfl; simp only [List.cons.injEq, Prod.mk.injEq, D.int.injEq, and_true, true_and]; omega
     ·exact ⟨by omega, by rw [hI2]; exact QjM hm h4⟩
     ·show m - 1 < m; omega
   ·try rw [h3]
    try simp only [qB] at h3
    rcases Nat.eq_zero_or_pos m with hm | hm <;> first | omega | skip
    refine Ze (QJ (Qy (QI (Qd (kp1 Z) (Qe fun K hK => QX Z Z (Q0 Z Z Z Z Z Z Z Z (Qb Z (hK _ _ (Qa (kp2 Z Z) ?_)))))))))
    refine Qt (Post.eq (XN (ds := [.int .i64 _, .int .i64 _, .int .i64 _, .str _, .str _]) (d' := .bool _) (cs := [_, _, _, _, _]) Z Z Z Z Z ⟨rfl, rfl⟩) ?_)
    subst h2
    subst hm
    have hb : XR a b c [] q 3 = none := hI2
    simp [Qi8, dOV, h1, hb]
end Go.Proofs
namespace Go.Proofs
open Go Go.Abs M3 M25
theorem Qac {e a b c : Int} {p q : List UInt8} {f : Bool} : Ok Tryz.prog 103 [.agg [.int .i64 e, .int .i64 a, .int .i64 b, .int .i64 c, .str p, .str q, .bool f]] (.bool (QeP e a b c p q f)) := by
 refine Ok.ofT Z6 Tryz.func103 QsW (QuS Z) ?_
 show TW _ _ tf103.body _ _
 refine Qe fun K hK => ZI Z Z Z (Qb Z (hK _ _ (Qa (kp1 Z) ?_)))
 refine Qe fun K hK => Qi Z Z (QC Z Z Z (YQ Z Z (Qb Z ?_)))
 refine Qz (g := 6) Z (fun h1 => ?_) (fun h1 => ?_)
 ·try rw [h1]
  try simp only [qB] at h1
  refine Qs Z (Qs Z (Qs Z (Qs Z (QL Z (QL Z (QL Z (QL Z (Qs Z (Qs Z (QL Z (QL Z ?_)))))))))))
  refine QL Z (QL Z (Qs Z (Qj Z Z (Qb Z (hK _ _ (Qa (kp1 Z) ?_))))))
  refine Qt (Qn Z ?_)
  (repeat clear hK K); simp_all [QeP]
 ·try rw [h1]
  try simp only [qB] at h1
  refine Qf Z (Qi Z Z (Qf Z (QC Z Z Z (Qf Z (ZW Z (Qf Z (Qb Z ?_)))))))
  refine Qz (g := 10) Z (fun h2 => ?_) (fun h2 => ?_)
  ·try rw [h2]
   try simp only [qB] at h2
   refine Qf Z (Qi Z Z (Qf Z (Qi Z Z (Qf Z (QC Z Z Z (Qf Z (QcU Z Z (Qf Z (Qj Z Z (Qf Z (Qb Z ?_)))))))))))
   refine Qz (g := 16) Z (fun h3 => ?_) (fun h3 => ?_)
   ·try rw [h3]
    try simp only [qB] at h3
    refine Qf Z (Qi Z Z (Qf Z (QD (cs := [_, _, _, _, _]) Z Z Z Z (Qf Z (QA (Qab) Z Z (.inr Z) (Qf Z (ZW Z (Qf Z (Qj Z Z (Qj Z Z (Qb Z ?_)))))))))))
    refine hK _ _ (Qa (kp1 Z) ?_)
    refine Qt (Qn Z ?_)
    (repeat clear hK K); simp_all [QeP]
   ·try rw [h3]
    try simp only [qB] at h3
    refine Qs Z (Qs Z (Qs Z (Qs Z (Qf Z (Qj Z Z (Qj Z Z (Qb Z (hK _ _ (Qa (kp1 Z) ?_)))))))))
    refine Qt (Qn Z ?_)
    (repeat clear hK K); simp_all [QeP]
  ·try rw [h2]
   try simp only [qB] at h2
   refine Qs Z (Qs Z (Qs Z (Qs Z (Qf Z (Qj Z Z (Qf Z (Qb Z (Qs Z (Qs Z (Qs Z (Qs Z ?_)))))))))))
   refine Qf Z (Qj Z Z (Qj Z Z (Qb Z (hK _ _ (Qa (kp1 Z) ?_)))))
   refine Qt (Qn Z ?_)
   (repeat clear hK K); simp_all [QeP]
theorem Qc1 {a b c : Int} {p q : List UInt8} : Ok Tryz.prog 65 [.agg [.int .i64 a, .int .i64 b, .int .i64 c, .str p, .str q]] (.agg (dCu (QfX a b c))) := by
 refine Ok.ofT Z6 Tryz.func65 Qup (QuS Z) ?_
 show TW _ _ tf65.body _ _
 refine Qe fun K hK => ZI Z Z Z (ZF Z (hK _ _ (Qa (kp2 Z Z) ?_)))
 refine QG ?_ -- 0
 refine Qe fun K hK => QD (cs := [_, _, _, _, _]) Z Z Z Z (QA (Qab) Z Z (.inr Z) (hK _ _ (Qa (kp3 Z Z Z) ?_)))
 refine Qw Z (fun h1 => ?_) (fun h1 => ?_)
 ·try rw [h1]
  try simp only [qB] at h1
  refine Qe fun K hK => QA (Xe) Z Z (.inl Z) (Q0 Z Z Z Z Z Z Z Z (hK _ _ (Qa (kp1 Z) ?_)))
  refine Qt (Qk (Post.eq (ZL (ds := [.int .i64 _, .int .i64 _, .int .i64 _, .int .i64 _, .str _, .str _, .bool _]) (cs := [_, _, _, _, _, _, _]) Z Z Z Z Z) ?_))
  simp [QfX, dCu, Qc5, h1]
 ·try rw [h1]
  try simp only [qB] at h1
  refine Qu (Qd (kp2 Z Z) (Qe fun K hK => Qi Z Z (QC Z Z Z (Qi Z Z (QC Z Z Z (Qi Z Z (QC Z Z Z (QX Z Z (QA (YS) Z Z (.inl Z) (Q0 Z Z Z Z Z Z Z Z ?_))))))))))
  refine hK _ _ (Qa (kp1 Z) ?_)
  refine Qt (Post.eq (ZL (ds := [.int .i64 _, .int .i64 _, .int .i64 _, .int .i64 _, .str _, .str _, .bool _]) (cs := [_, _, _, _, _, _, _]) Z Z Z Z Z) ?_)
  simp [QfX, dCu, Qc5, h1]
theorem Qcb {a b c : Int} {p q : List UInt8} : Ok Tryz.prog 66 [.agg [.int .i64 a, .int .i64 b, .int .i64 c, .str p, .str q]] (.agg (dCu (Qd3 a b c))) := by
 refine Ok.ofT Z6 Tryz.func66 Quq (QuS Z) ?_
 show TW _ _ tf66.body _ _
 refine Qe fun K hK => ZI Z Z Z (ZF Z (hK _ _ (Qa (kp2 Z Z) ?_)))
 refine Qe fun K hK => Qi Z Z (QC Z Z Z (Qi Z Z (QC Z Z Z (Qi Z Z (QC Z Z Z (QX Z Z (QA (Qdg (by simp) (by simp)) Z Z (.inl Z) (Qb Z (Q5 Z Z (Q5 Z Z ?_))))))))))
 refine ZF Z (Q0 Z Z Z Z Z Z Z Z (Qb Z (hK _ _ (Qa (kp3 Z Z Z) ?_))))
 refine QG ?_ -- 0
 refine Qe fun K hK => Qb Z (ZW Z (hK _ _ (Qa (kp3 Z Z Z) ?_)))
 refine Qw Z (fun h1 => ?_) (fun h1 => ?_)
 ·try rw [h1]
  try simp only [qB] at h1
  refine Qe fun K hK => QA (Xp) Z Z (.inl Z) (Q0 Z Z Z Z Z Z Z Z (hK _ _ (Qa (kp1 Z) ?_)))
  refine Qt (Qk (Post.eq (ZL (ds := [.int .i64 _, .int .i64 _, .int .i64 _, .int .i64 _, .str _, .str _, .bool _]) (cs := [_, _, _, _, _, _, _]) Z Z Z Z Z) ?_))
  cases hn : Qi8 a b c [] [] <;> simp [Qd3, dCu, Qgw, hn] at *
 ·try rw [h1]
  try simp only [qB] at h1
  refine Qu (Qd (kp2 Z Z) (Qe fun K hK => QD (cs := [_, _, _, _, _]) Z Z Z Z (QA (YS) Z Z (.inl Z) (Q0 Z Z Z Z Z Z Z Z (hK _ _ (Qa (kp1 Z) ?_))))))
  refine Qt (Post.eq (ZL (ds := [.int .i64 _, .int .i64 _, .int .i64 _, .int .i64 _, .str _, .str _, .bool _]) (cs := [_, _, _, _, _, _, _]) Z Z Z Z Z) ?_)
  cases hn : Qi8 a b c [] [] <;> simp [Qd3, dCu, Qgw, hn] at *
theorem Qad  : Ok Tryz.prog 85 [] (Zk [(Qc5, Qgw)]) := by
 refine Ok.ofT Z6 Tryz.func85 QuC (QuS Z) ?_
 show TW _ _ tf85.body _ _
 refine Qe fun K hK => Qb Z (hK _ _ (Qa (ZE) ?_))
 refine Qe fun K hK => QA (Xe) Z Z (.inl Z) (QA (Xp) Z Z (.inl Z) (QX Z Z (QM Z Z (Qb Z (hK _ _ (Qa (kp1 Z) ?_))))))
 refine Qt (Z5 Z ?_)
 rfl
theorem Yh  : Ok Tryz.prog 62 [] (Qgk ([], [])) := by
 refine Ok.ofT Z6 Tryz.func62 Qum (QuS Z) ?_
 show TW _ _ tf62.body _ _
 refine Qe fun K hK => ZF Z (hK _ _ (Qa (kp1 Z) ?_))
 refine Qe fun K hK => QX Z Z (Q0 Z Z Z Z Z Z Z Z (hK _ _ (Qa (kp1 Z) ?_)))
 refine Qt (Post.eq (ZL (ds := [.sl _, .sl _]) (cs := [_, _]) Z Z Z Z Z) ?_)
 rfl
theorem QaP  : Ok Tryz.prog 60 [] (Qgk ([(Qc5, Qgw)], [(Qc5, Qgw)])) := by
 refine Ok.ofT Z6 Tryz.func60 Quk (QuS Z) ?_
 show TW _ _ tf60.body _ _
 refine Qe fun K hK => ZF Z (hK _ _ (Qa (kp1 Z) ?_))
 refine Qe fun K hK => QA (Qad) Z Z (.inl Z) (QA (Qad) Z Z (.inl Z) (QX Z Z (Q0 Z Z Z Z Z Z Z Z (hK _ _ (Qa (kp1 Z) ?_)))))
 refine Qt (Post.eq (ZL (ds := [.sl _, .sl _]) (cs := [_, _]) Z Z Z Z Z) ?_)
 rfl
theorem Qaa {a b c : Int} {p q : List UInt8} (hp : p.length <= 1000000) (hq : q.length <= 1000000) : Ok Tryz.prog 32 [.agg [.int .i64 a, .int .i64 b, .int .i64 c, .str p, .str q]] (Qgk (Xs a b c p q)) := by
 refine Ok.ofT Z6 Tryz.func32 Qt3 (QuS Z) ?_
 show TW _ _ tf32.body _ _
 refine Qe fun K hK => ZI Z Z Z (ZF Z (hK _ _ (Qa (kp2 Z Z) ?_)))
 refine QG ?_ -- 0
 refine Qe fun K hK => QD (cs := [_, _, _, _, _]) Z Z Z Z (QA (ZB (by omega) (by omega)) Z Z (.inr Z) (ZW Z (hK _ _ (Qa (kp3 Z Z Z) ?_))))
 refine Qw Z (fun h1 => ?_) (fun h1 => ?_)
 ·try rw [h1]
  try simp only [qB] at h1
  refine Qe fun K hK => QA (Yh) Z Z (.inl Z) (Q0 Z Z Z Z Z Z Z Z (hK _ _ (Qa (kp1 Z) ?_)))
  refine Qt (Qk (Post.eq (ZL (ds := [.sl _, .sl _]) (cs := [_, _]) Z Z Z Z Z) ?_))
  simp [Xs, Qgk, Zk, QeY, dCu, h1]
 ·try rw [h1]
  try simp only [qB] at h1
  refine Qu (Qd (kp2 Z Z) ?_)
  refine QG ?_ -- 1
  refine Qe fun K hK => Qi Z Z (QC Z Z Z (QlA Z Z (hK _ _ (Qa (kp3 Z Z Z) ?_))))
  refine Qw Z (fun h2 => ?_) (fun h2 => ?_)
  ·try rw [h2]
   try simp only [qB] at h2
   refine Qe fun K hK => QQ (ds0 := [6, 3, 2, 1, 0]) (cs := [_, _, _, _, _]) Z Z Z Z Z Z (Zc (ds0 := [3, 2, 1, 0]) (YS) Z Z (.inl Z) Z Z (QQ (ds0 := [4, 3, 2, 1, 0]) (cs := [_, _, _, _, _]) Z Z Z Z Z Z (Zc (ds0 := [3, 2, 1, 0]) (Qca) Z Z (.inl Z) Z Z (QX Z Z (QM Z Z (QX Z Z (Xk (ds0 := []) Z Z Z Z Z Z Z Z Z Z (hK _ _ (Qa (kp1 Z) ?_)))))))))
   refine Qt (Qk (Post.eq (ZL (ds := [.sl _, .sl _]) (cs := [_, _]) Z Z Z Z Z) ?_))
   simp [Xs, Qgk, Zk, QeY, dCu, h1, h2]
  ·try rw [h2]
   try simp only [qB] at h2
   refine Qu (Qd (kp2 Z Z) (Qe fun K hK => QQ (ds0 := [6, 3, 2, 1, 0]) (cs := [_, _, _, _, _]) Z Z Z Z Z Z (Zc (ds0 := [3, 2, 1, 0]) (Qc1) Z Z (.inl Z) Z Z (QQ (ds0 := [4, 3, 2, 1, 0]) (cs := [_, _, _, _, _]) Z Z Z Z Z Z (Zc (ds0 := [3, 2, 1, 0]) (Qcb) Z Z (.inl Z) Z Z (QX Z Z (QM Z Z (QX Z Z (Xk (ds0 := []) Z Z Z Z Z Z Z Z Z Z (hK _ _ (Qa (kp1 Z) ?_)))))))))))
   refine Qt (Post.eq (ZL (ds := [.sl _, .sl _]) (cs := [_, _]) Z Z Z Z Z) ?_)
   subst h2
   simp [Xs, Qgk, Zk, QeY, dCu, h1]
end Go.Proofs
namespace Go.Proofs
open Go Go.Abs M3 M25
theorem Yo {l : List (Cu × Cu)} (hl : Sm l) : Ok Tryz.prog 102 [Zk l] (.bool (Qb2 l)) := by
 refine Ok.ofT Z6 Tryz.func102 QsV (QuS Z) ?_
 show TW _ _ tf102.body _ _
 have hn := hl.1
 refine Qe fun K hK => Qb Z (hK _ _ (Qa (kp1 Z) ?_))
 refine QG ?_ -- 0
 refine Qe fun K hK => Qb Z (hK _ _ (Qa (kp2 Z Z) ?_))
 refine QH ?_
 refine ZH (ι := Nat) (fun i => ⟨[(0, Zk l), (3, .int .i64 i)], []⟩) (fun i => i <= l.length /\ (List.range i).all (QqF l) = true) (fun i => l.length - i) 0 ?_ ?_ ?_
 ·exact Q1 (kp2 rfl rfl)
 ·exact ⟨Qu4 _, rfl⟩
 intro i hI
 try dsimp only
 refine QG ?_ -- 1
 refine Qe fun K hK => Qb Z (Qb Z (Q4 Z Z (Yk Z Z (hK _ _ (Qa (kp3 Z Z Z) ?_)))))
 refine Qw Z (fun h1 => ?_) (fun h1 => ?_)
 ·try rw [h1]
  try simp only [qA] at h1
  refine Qu (Qd (kp2 Z Z) ?_)
  refine QG ?_ -- 2
  refine QH (Qe fun K hK => Qb Z (Qb Z (QP Z Z Z (by omega) (Zj (by omega)) Z (QQ (ds0 := [20, 19, 18, 17, 16, 15, 14, 13, 12, 11, 10, 9, 8, 7, 6, 5, 4, 3, 2, 1, 0]) (cs := [_, _, _, _, _, _, _, _, _, _, _, _, _, _]) Z Z Z Z Z Z (Zc (ds0 := [19, 18, 17, 16, 15, 14, 13, 12, 11, 10, 9, 8, 7, 6, 5, 4, 3, 2, 1, 0]) (XJ (hl.at (i := i) (by omega)).1.1 (hl.at (i := i) (by omega)).1.2 (hl.at (i := i) (by omega)).2.1 (hl.at (i := i) (by omega)).2.2) Z Z (.inr Z) Z Z (ZW Z (Qb Z ?_)))))))
  refine Qz (g := 16) Z (fun h2 => ?_) (fun h2 => ?_)
  ·try rw [h2]
   try simp only [qA] at h2
   refine Qs Z (Qs Z (Qs Z (QL Z (QL Z (QL Z (QL Z (QL Z (QL Z (QL Z (QL Z (QL Z ?_)))))))))))
   refine QL Z (QL Z (QL Z (QL Z (Qs Z (Qj Z Z (hK _ _ (Qa (kp3 Z Z Z) ?_)))))))
   refine Zt Z (Qe fun K hK => Qb Z (hK _ _ (Qa (kp1 Z) ?_)))
   refine Qt (Qv (Qk (Q2 (Qv (Qk (Qn Z ?_))))))
   first
    | exact (QcP hI.2 (by omega)).symm
    | exact (YN (i := i) (by omega) (QbY (by omega) (.inl h2))).symm
    | (simp only [XU] at *; exact (YN (i := i) (by omega) (QbY (by omega) (.inr ⟨by omega, h4⟩))).symm)
  ·try rw [h2]
   try simp only [qA] at h2
   refine Qf Z (Qb Z (Qf Z (Qdx Z Z (Qf Z (Qb Z ?_)))))
   refine Qz (g := 19) Z (fun h3 => ?_) (fun h3 => ?_)
   ·try rw [h3]
    try simp only [qA] at h3
    refine Qf Z (Qb Z (Qf Z (Qb Z (Qf Z (QdB Z Z (by first | exact Qr (by omega) (by omega) | rfl) (Qf Z (QP Z Z Z (by omega) (Ye (by omega) (by omega)) Z (Qf Z (ZA Z Z (Qf Z (QQ (ds0 := [3, 2, 1, 0]) (cs := [_, _, _, _, _, _, _]) Z Z Z Z Z Z ?_)))))))))))
    refine Qf Z (Qb Z (Qf Z (Qb Z (Qf Z (QP Z Z Z (by omega) (Zj (by omega)) Z (Qf Z (ZA Z Z (Qf Z (QQ (ds0 := [3, 2, 1, 0]) (cs := [_, _, _, _, _, _, _]) Z Z Z Z Z Z (Qf Z (Zc (ds0 := [2, 1, 0]) (Zz (hl.at (i := ((i : Int) - 1).toNat) (by omega)).2.1 (hl.at (i := ((i : Int) - 1).toNat) (by omega)).2.2 (hl.at (i := i) (by omega)).1.1 (hl.at (i := i) (by omega)).1.2) Z Z (.inr Z) Z Z ?_)))))))))))
    refine Qf Z (Qhj Z Z (Qf Z (Qj Z Z (Qj Z Z (hK _ _ (Qa (kp3 Z Z Z) ?_))))))
    refine Qw Z (fun h4 => ?_) (fun h4 => ?_)
    ·try rw [h4]
     try simp only [qA] at h4
     refine Qe fun K hK => Qb Z (hK _ _ (Qa (kp1 Z) ?_))
     refine Qt (Qv (Qk (Q2 (Qv (Qk (Qn Z ?_))))))
     first
      | exact (QcP hI.2 (by omega)).symm
      | exact (YN (i := i) (by omega) (QbY (by omega) (.inl h2))).symm
      | (simp only [XU] at *; exact (YN (i := i) (by omega) (QbY (by omega) (.inr ⟨by omega, h4⟩))).symm)
    ·try rw [h4]
     try simp only [qA] at h4
     refine Qu (Qh (Qd (kp2 Z Z) (QR fun K hK => Qb Z (Q8 Z Z (by first | exact Qr (by omega) (by omega) | rfl) (Qb Z (hK _ ?_))))))
     refine Ql (i + 1) ?_ ?_ ?_
     ·exact Q1 (kp2 rfl rfl)
     ·exact ⟨by omega, QcQ hI.2 (Qlb (by omega) h2 (by first | exact .inl (by omega) | (simp only [XU] at *; exact .inr (Int.not_le.1 h4))))⟩
     ·first | omega | (simp only; omega) | (dsimp only; omega)
   ·try rw [h3]
    try simp only [qA] at h3
    refine Qs Z (Qs Z (Qs Z (Qs Z (Qs Z (Qs Z (Qs Z (Qs Z (Qs Z (Qs Z (Qs Z (Qs Z ?_)))))))))))
    refine Qs Z (Qf Z (Qj Z Z (Qj Z Z (hK _ _ (Qa (kp3 Z Z Z) ?_)))))
    refine Zs Z (Qu (Qh (Qd (kp2 Z Z) (QR fun K hK => Qb Z (Q8 Z Z (by first | exact Qr (by omega) (by omega) | rfl) (Qb Z (hK _ ?_)))))))
    refine Ql (i + 1) ?_ ?_ ?_
    ·exact Q1 (kp2 rfl rfl)
    ·exact ⟨by omega, QcQ hI.2 (Qlb (by omega) h2 (by first | exact .inl (by omega) | (simp only [XU] at *; exact .inr (Int.not_le.1 h4))))⟩
    ·first | omega | (simp only; omega) | (dsimp only; omega)
 ·try rw [h1]
  try simp only [qA] at h1
  refine Ze (QJ (Qy (QI (Qd (ZE) (Qe fun K hK => Qb Z (hK _ _ (Qa (kp1 Z) ?_)))))))
  refine Qt (Qn Z ?_)
  first
   | exact (QcP hI.2 (by omega)).symm
   | exact (YN (i := i) (by omega) (QbY (by omega) (.inl h2))).symm
   | (simp only [XU] at *; exact (YN (i := i) (by omega) (QbY (by omega) (.inr ⟨by omega, h4⟩))).symm)
theorem Qbg {l : List (Cu × Cu)} (hl : Sm l) {x y : Cu} (hx : Cu.sm x) (hy : Cu.sm y) : Ok Tryz.prog 127 [Zk l, .agg (dCu x), .agg (dCu y)] (.bool (mIn l x y)) := by
 refine Ok.ofT Z6 Tryz.func127 Qtg (QuS Z) ?_
 show TW _ _ tf127.body _ _
 have hn := hl.1
 refine Qe fun K hK => ZI Z Z Z (ZI Z Z Z (Qb Z (hK _ _ (Qa (kp3 Z Z Z) ?_))))
 refine QG ?_ -- 0
 refine Qe fun K hK => Qb Z (hK _ _ (Qa (kp4 Z Z Z Z) ?_))
 refine QH ?_
 refine ZH (ι := Nat) (fun i => ⟨[(0, Zk l), (4, .ref 4 0 0), (5, .ref 5 0 0), (7, .int .i64 i)], [(4, ⟨[dCu x], 7, 113, true⟩), (5, ⟨[dCu y], 7, 113, true⟩)]⟩) (fun i => i <= l.length /\ (l.take i).any (inC x y) = false) (fun i => l.length - i) 0 ?_ ?_ ?_
 ·exact Q6 (l := [0, 4, 5, 7]) (lH := [4, 5]) (kp4 rfl rfl rfl rfl) (Qg rfl (Qg rfl Qp)) rfl rfl rfl
 ·exact ⟨Qu4 _, by simp⟩
 intro i hI
 try dsimp only
 refine QG ?_ -- 1
 refine Qe fun K hK => Qb Z (Qb Z (Q4 Z Z (Yk Z Z (hK _ _ (Qa (kp5 Z Z Z Z Z) ?_)))))
 refine Qw Z (fun h1 => ?_) (fun h1 => ?_)
 ·try rw [h1]
  try simp only [qA] at h1
  refine Qu (Qd (kp4 Z Z Z Z) ?_)
  refine QG ?_ -- 2
  refine QH (Qe fun K hK => Qb Z (Qb Z (QP Z Z Z (by omega) (Zj (by omega)) Z (ZA Z Z (QQ (ds0 := [11, 10, 9, 8, 7, 6, 5, 4, 3, 2, 1, 0]) (cs := [_, _, _, _, _, _, _]) Z Z Z Z Z Z (QQ (ds0 := [11, 10, 9, 8, 7, 6, 5, 4, 3, 2, 1, 0]) (cs := [_, _, _, _, _, _, _]) Z Z Z Z Z Z (Zc (ds0 := [10, 9, 8, 7, 6, 5, 4, 3, 2, 1, 0]) (Zz (hl.at (i := i) (by omega)).1.1 (hl.at (i := i) (by omega)).1.2 hx.1 hx.2) Z Z (.inr Z) Z Z (QnV Z Z (Qb Z ?_)))))))))
  refine Qz (g := 22) Z (fun h2 => ?_) (fun h2 => ?_)
  ·try rw [h2]
   try simp only [qA] at h2
   refine Qf Z (QQ (ds0 := [2, 1, 0]) (cs := [_, _, _, _, _, _, _]) Z Z Z Z Z Z (Qf Z (Qb Z (Qf Z (Qb Z (Qf Z (QP Z Z Z (by omega) (Zj (by omega)) Z (Qf Z (ZA Z Z (Qf Z (QQ (ds0 := [2, 1, 0]) (cs := [_, _, _, _, _, _, _]) Z Z Z Z Z Z ?_)))))))))))
   refine Qf Z (Zc (ds0 := [1, 0]) (Zz hy.1 hy.2 (hl.at (i := i) (by omega)).2.1 (hl.at (i := i) (by omega)).2.2) Z Z (.inr Z) Z Z (Qf Z (QnV Z Z (Qj Z Z (hK _ _ (Qa (kp5 Z Z Z Z Z) ?_))))))
   refine Qw Z (fun h3 => ?_) (fun h3 => ?_)
   ·try rw [h3]
    try simp only [qA] at h3
    refine Qe fun K hK => Qb Z (hK _ _ (Qa (kp1 Z) ?_))
    refine Qt (Qv (Qk (Q2 (Qv (Qk (Qn Z ?_))))))
    first
     | exact (Qpo (i := i) (by omega) hI.2).symm
     | exact (QjK (i := i) (by omega) (QrO h2 h3)).symm
   ·try rw [h3]
    try simp only [qA] at h3
    refine Qu (Qh (Qd (kp4 Z Z Z Z) (QR fun K hK => Qb Z (Q8 Z Z (by first | exact Qr (by omega) (by omega) | rfl) (Qb Z (hK _ ?_))))))
    refine Ql (i + 1) ?_ ?_ ?_
    ·exact Q6 (l := [0, 4, 5, 7]) (lH := [4, 5]) (kp4 rfl rfl rfl rfl) (Qg rfl (Qg rfl Qp)) rfl rfl rfl
    ·exact ⟨by omega, Qiw (by omega) hI.2 (QrN (by first | exact .inl h2 | exact .inr h3))⟩
    ·first | omega | (simp only; omega) | (dsimp only; omega)
  ·try rw [h2]
   try simp only [qA] at h2
   refine Qs Z (Qs Z (Qs Z (Qs Z (Qs Z (Qs Z (Qs Z (Qs Z (Qj Z Z (hK _ _ (Qa (kp5 Z Z Z Z Z) ?_))))))))))
   refine Zs Z (Qu (Qh (Qd (kp4 Z Z Z Z) (QR fun K hK => Qb Z (Q8 Z Z (by first | exact Qr (by omega) (by omega) | rfl) (Qb Z (hK _ ?_)))))))
   refine Ql (i + 1) ?_ ?_ ?_
   ·exact Q6 (l := [0, 4, 5, 7]) (lH := [4, 5]) (kp4 rfl rfl rfl rfl) (Qg rfl (Qg rfl Qp)) rfl rfl rfl
   ·exact ⟨by omega, Qiw (by omega) hI.2 (QrN (by first | exact .inl h2 | exact .inr h3))⟩
   ·first | omega | (simp only; omega) | (dsimp only; omega)
 ·try rw [h1]
  try simp only [qA] at h1
  refine Ze (QJ (Qy (QI (Qd (ZE) (Qe fun K hK => Qb Z (hK _ _ (Qa (kp1 Z) ?_)))))))
  refine Qt (Qn Z ?_)
  first
   | exact (Qpo (i := i) (by omega) hI.2).symm
   | exact (QjK (i := i) (by omega) (QrO h2 h3)).symm
end Go.Proofs
namespace Go.Proofs
open Go Go.Abs M3 M25
theorem XB {s : List (Cu × Cu) × List (Cu × Cu)} (h1s : Sm s.1) (h2s : Sm s.2) : Ok Tryz.prog 83 [Qgk s] (.bool (Qdo s)) := by
 refine Ok.ofT Z6 Tryz.func83 QuB (QuS Z) ?_
 show TW _ _ tf83.body _ _
 have hn := h1s.1
 refine Qe fun K hK => ZI Z Z Z (Qb Z (hK _ _ (Qa (kp1 Z) ?_)))
 refine QG ?_ -- 0
 refine Qe fun K hK => Qi Z Z (QC Z Z Z (QA (Yo h1s) Z Z (.inr Z) (ZW Z (Qb Z ?_))))
 refine Qz (g := 8) Z (fun h1 => ?_) (fun h1 => ?_)
 ·try rw [h1]
  try simp only [qA] at h1
  refine Qs Z (Qs Z (Qs Z (Qs Z (Qj Z Z (hK _ _ (Qa (kp2 Z Z) ?_))))))
  refine Zt Z (Qe fun K hK => Qb Z (hK _ _ (Qa (kp1 Z) ?_)))
  refine Qt (Qk (Qn Z ?_))
  first
   | exact (Qd6 (i := i) h1 h2 (by omega) hI.2).symm
   | exact (QaA (i := i) (by omega) (.inl h4)).symm
   | exact (QaA (i := i) (by omega) (.inr h5)).symm
   | exact (Qa9 (.inl h1)).symm
   | exact (Qa9 (.inr h2)).symm
 ·try rw [h1]
  try simp only [qA] at h1
  refine Qf Z (Qi Z Z (Qf Z (QC Z Z Z (Qf Z (QA (Yo h2s) Z Z (.inr Z) (Qf Z (ZW Z (Qj Z Z (hK _ _ (Qa (kp2 Z Z) ?_))))))))))
  refine Qw Z (fun h2 => ?_) (fun h2 => ?_)
  ·try rw [h2]
   try simp only [qA] at h2
   refine Qe fun K hK => Qb Z (hK _ _ (Qa (kp1 Z) ?_))
   refine Qt (Qk (Qn Z ?_))
   first
    | exact (Qd6 (i := i) h1 h2 (by omega) hI.2).symm
    | exact (QaA (i := i) (by omega) (.inl h4)).symm
    | exact (QaA (i := i) (by omega) (.inr h5)).symm
    | exact (Qa9 (.inl h1)).symm
    | exact (Qa9 (.inr h2)).symm
  ·try rw [h2]
   try simp only [qA] at h2
   refine Qu (Qd (kp1 Z) ?_)
   refine QG ?_ -- 1
   refine Qe fun K hK => Qb Z (hK _ _ (Qa (kp2 Z Z) ?_))
   refine QH ?_
   refine ZH (ι := Nat) (fun i => ⟨[(1, .ref 1 0 0), (3, .int .i64 i)], [(1, ⟨[[Zk s.1, Zk s.2]], 2, 66, true⟩)]⟩) (fun i => i <= s.1.length /\ (s.1.take i).all (fun x => Xv x.1 && Xv x.2) = true) (fun i => s.1.length - i) 0 ?_ ?_ ?_
   ·exact Q6 (l := [1, 3]) (lH := [1]) (kp2 rfl rfl) (Qg rfl Qp) rfl rfl rfl
   ·exact ⟨Qu4 _, by simp⟩
   intro i hI
   try dsimp only
   refine QG ?_ -- 2
   refine Qe fun K hK => Qb Z (Qi Z Z (QC Z Z Z (Q4 Z Z (Yk Z Z (hK _ _ (Qa (kp3 Z Z Z) ?_))))))
   refine Qw Z (fun h3 => ?_) (fun h3 => ?_)
   ·try rw [h3]
    try simp only [qA] at h3
    refine Qu (Qd (kp2 Z Z) ?_)
    refine QG ?_ -- 3
    refine QH (Qe fun K hK => Qi Z Z (QC Z Z Z (Qb Z (QP Z Z Z (by omega) (Zj (by omega)) Z (ZA Z Z (QD (cs := [_, _, _, _, _, _, _]) Z Z Z Z (QA (Qac) Z Z (.inr Z) (ZW Z (Qb Z ?_)))))))))
    refine Qz (g := 29) Z (fun h4 => ?_) (fun h4 => ?_)
    ·try rw [h4]
     try simp only [qA] at h4
     refine Qs Z (Qs Z (Qs Z (Qs Z (Qs Z (Qs Z (Qs Z (Qs Z (Qj Z Z (hK _ _ (Qa (kp3 Z Z Z) ?_))))))))))
     refine Zt Z (Qe fun K hK => Qb Z (hK _ _ (Qa (kp1 Z) ?_)))
     refine Qt (Qv (Qk (Q2 (Qv (Qk (Qn Z ?_))))))
     first
      | exact (Qd6 (i := i) h1 h2 (by omega) hI.2).symm
      | exact (QaA (i := i) (by omega) (.inl h4)).symm
      | exact (QaA (i := i) (by omega) (.inr h5)).symm
      | exact (Qa9 (.inl h1)).symm
      | exact (Qa9 (.inr h2)).symm
    ·try rw [h4]
     try simp only [qA] at h4
     refine Qf Z (Qi Z Z (Qf Z (QC Z Z Z (Qf Z (Qb Z (Qf Z (QP Z Z Z (by omega) (Zj (by omega)) Z (Qf Z (ZA Z Z (Qf Z (QD (cs := [_, _, _, _, _, _, _]) Z Z Z Z ?_)))))))))))
     refine Qf Z (QA (Qac) Z Z (.inr Z) (Qf Z (ZW Z (Qj Z Z (hK _ _ (Qa (kp3 Z Z Z) ?_))))))
     refine Qw Z (fun h5 => ?_) (fun h5 => ?_)
     ·try rw [h5]
      try simp only [qA] at h5
      refine Qe fun K hK => Qb Z (hK _ _ (Qa (kp1 Z) ?_))
      refine Qt (Qv (Qk (Q2 (Qv (Qk (Qn Z ?_))))))
      first
       | exact (Qd6 (i := i) h1 h2 (by omega) hI.2).symm
       | exact (QaA (i := i) (by omega) (.inl h4)).symm
       | exact (QaA (i := i) (by omega) (.inr h5)).symm
       | exact (Qa9 (.inl h1)).symm
       | exact (Qa9 (.inr h2)).symm
     ·try rw [h5]
      try simp only [qA] at h5
      refine Qu (Qh (Qd (kp2 Z Z) (QR fun K hK => Qb Z (Q8 Z Z (by first | exact Qr (by omega) (by omega) | rfl) (Qb Z (hK _ ?_))))))
      refine Ql (i + 1) ?_ ?_ ?_
      ·exact Q6 (l := [1, 3]) (lH := [1]) (kp2 rfl rfl) (Qg rfl Qp) rfl rfl rfl
      ·exact ⟨by omega, Zg (by omega) hI.2 (by rw [show Xv s.1[i].1 = true from h4, show Xv s.1[i].2 = true from h5]; rfl)⟩
      ·first | omega | (simp only; omega) | (dsimp only; omega)
   ·try rw [h3]
    try simp only [qA] at h3
    refine Ze (QJ (Qy (QI (Qd (ZE) (Qe fun K hK => Qb Z (hK _ _ (Qa (kp1 Z) ?_)))))))
    refine Qt (Qn Z ?_)
    first
     | exact (Qd6 (i := i) h1 h2 (by omega) hI.2).symm
     | exact (QaA (i := i) (by omega) (.inl h4)).symm
     | exact (QaA (i := i) (by omega) (.inr h5)).symm
     | exact (Qa9 (.inl h1)).symm
     | exact (Qa9 (.inr h2)).symm
end Go.Proofs
namespace Go.Proofs
open Go Go.Abs M3 M25
theorem QaO {l : List Cu} {c : Cu} (hl : l.length <= 3000000) (hs : ∀ x ∈ l, Cu.sm x) (hc : Cu.sm c) : Ok Tryz.prog 140 [Qhw l, .agg (dCu c)] (Qhw (Qco l c)) := by
 refine Ok.ofT Z6 Tryz.func140 Qtr (QuS Z) ?_
 show TW _ _ tf140.body _ _
 refine Qe fun K hK => ZI Z Z Z (Qb Z (hK _ _ (Qa (kp2 Z Z) ?_)))
 refine Qe fun K hK => Qb Z (hK _ _ (Qa (kp3 Z Z Z) ?_))
 refine QG ?_ -- 0
 refine QH ?_
 refine ZH (ι := Nat) (fun k => ⟨[(0, Qhw l), (3, .ref 3 0 0), (5, .int .i64 k)], [(3, ⟨[dCu c], 7, 113, true⟩)]⟩) (fun k => k <= l.length /\ Qco l c = l.take k ++ Qco (l.drop k) c) (fun k => l.length - k) 0 ?_ ?_ ?_
 ·exact Q6 (l := [0, 3, 5]) (lH := [3]) (kp3 rfl rfl rfl) (Qg rfl Qp) rfl rfl rfl
 ·exact ⟨Qu4 _, by simp⟩
 intro k hI
 try dsimp only
 refine QG ?_ -- 1
 refine Qe fun K hK => Qb Z (Qb Z (Q4 Z Z (Yk Z Z (Qb Z ?_))))
 refine Qz (g := 10) Z (fun h1 => ?_) (fun h1 => ?_)
 ·try rw [h1]
  try simp only [qA] at h1
  refine Qf Z (Qb Z (Qf Z (Qb Z (Qf Z (QP Z Z Z (by omega) (Zj (by omega)) Z (Qf Z (QQ (ds0 := [2, 1, 0]) (cs := [_, _, _, _, _, _, _]) Z Z Z Z Z Z (Qf Z (QQ (ds0 := [2, 1, 0]) (cs := [_, _, _, _, _, _, _]) Z Z Z Z Z Z (Qf Z (Zc (ds0 := [1, 0]) (Zz (hs _ (QuX (by omega))).1 (hs _ (QuX (by omega))).2 hc.1 hc.2) Z Z (.inr Z) Z Z ?_)))))))))))
  refine Qf Z (Yk Z Z (Qj Z Z (hK _ _ (Qa (kp4 Z Z Z Z) ?_))))
  refine Qw Z (fun h2 => ?_) (fun h2 => ?_)
  ·try rw [h2]
   try simp only [qA] at h2
   refine Qu (Qd (kp3 Z Z Z) (QH (QR fun K hK => Qb Z (Q8 Z Z (by first | exact Qr (by omega) (by omega) | rfl) (Qb Z (hK _ ?_))))))
   refine Qh ?_
   refine Ql (k + 1) ?_ ?_ ?_
   ·exact Q6 (l := [0, 3, 5]) (lH := [3]) (kp3 rfl rfl rfl) (Qg rfl Qp) rfl rfl rfl
   ·exact ⟨by omega, Qna (by omega) h2 hI.2⟩
   ·first | omega | (simp only; omega) | (dsimp only; omega)
  ·try rw [h2]
   try simp only [qA] at h2
   refine Ze (QJ (Qy (QI (Qd (kp3 Z Z Z) ?_))))
   refine QG ?_ -- 2
   refine Qe fun K hK => Qb Z (Qb Z (Q4 Z Z (Yk Z Z (Qb Z ?_))))
   refine Qz (g := 25) Z (fun h3 => ?_) (fun h3 => ?_)
   ·try rw [h3]
    try simp only [qA] at h3
    refine Qf Z (Qb Z (Qf Z (Qb Z (Qf Z (QP Z Z Z (by omega) (Zj (by omega)) Z (Qf Z (QQ (ds0 := [2, 1, 0]) (cs := [_, _, _, _, _, _, _]) Z Z Z Z Z Z (Qf Z (QQ (ds0 := [2, 1, 0]) (cs := [_, _, _, _, _, _, _]) Z Z Z Z Z Z (Qf Z (Zc (ds0 := [1, 0]) (Zz (hs _ (QuX (by omega))).1 (hs _ (QuX (by omega))).2 hc.1 hc.2) Z Z (.inr Z) Z Z ?_)))))))))))
    refine Qf Z (Xb Z Z (Qj Z Z (hK _ _ (Qa (kp4 Z Z Z Z) ?_))))
    refine Qw Z (fun h4 => ?_) (fun h4 => ?_)
    ·try rw [h4]
     try simp only [qA] at h4
     refine Qe fun K hK => Qb Z (Qb Z (hK _ _ (Qa (kp1 Z) ?_)))
     refine Qt (Qk (Z5 Z ?_))
     rw [Qm9 (k := k) (by omega) (by assumption) hI.2]; rfl
    ·try rw [h4]
     try simp only [qA] at h4
     refine Qu (Qd (kp3 Z Z Z) (Qe fun K hK => Qb Z (Qb Z (Qhk Z Z Z Z (by omega) (by omega) (by simp; omega) Qjp Z (QjD (ds0 := [5, 1, 0]) Z Z (fun _ h => ⟨Qo7, h⟩) Z (.inl Z) (by simp) (by simp; omega) (by simp; omega) Z Z (QQ (ds0 := [6, 5, 1, 0]) (cs := [_, _, _, _, _, _, _]) Z Z Z Z Z Z (QM Z Z (Qen (ds0 := [1, 0]) Z Z (by simp [D.ids, D.sid]) ⟨_, rfl, rfl, rfl, rfl, rfl⟩ Z Z (by simp) Z Z (by simp; omega) (by simp; omega) Z Z (Qb Z (Qb Z ?_))))))))))
     refine Qhk Z Z Z Z (by omega) (by simp; omega) (by simp) Qjp Z (Qen (ds0 := [0]) Z Z (by simp [D.ids, D.sid]) ⟨rfl, Qo7, rfl⟩ Z Z (by simp) Z Z (by simp; omega) (by simp; omega) Z Z (Qb Z (hK _ _ (Qa (kp1 Z) ?_))))
     refine Qt (Z5 Z ?_)
     rw [Qk5 (k := k) (by first | exact .inl (by omega) | exact .inr ⟨by omega, by assumption, by assumption⟩) hI.2]; simp [Xy, D.fz, D.fzS, Qdc, lk, D.can, D.canS, Qhw, D.sid, (show ∀ a b : Nat, a + 1 + b = a + (b + 1) from fun a b => by omega), Qu8 (show (l.map dCu).length <= l.length by simp)] <;> rfl
   ·try rw [h3]
    try simp only [qA] at h3
    exact absurd h1 h3
 ·try rw [h1]
  try simp only [qA] at h1
  refine Qs Z (Qs Z (Qs Z (Qs Z (Qs Z (Qs Z (Qs Z (Qj Z Z (hK _ _ (Qa (kp4 Z Z Z Z) ?_)))))))))
  refine Zs Z (Ze (QJ (Qy (QI (Qd (kp3 Z Z Z) ?_)))))
  refine QG ?_ -- 2
  refine Qe fun K hK => Qb Z (Qb Z (Q4 Z Z (Yk Z Z (Qb Z ?_))))
  refine Qz (g := 25) Z (fun h5 => ?_) (fun h5 => ?_)
  ·try rw [h5]
   try simp only [qA] at h5
   exact absurd h5 h1
  ·try rw [h5]
   try simp only [qA] at h5
   refine Qs Z (Qs Z (Qs Z (Qs Z (Qs Z (Qs Z (Qs Z (Qj Z Z (hK _ _ (Qa (kp4 Z Z Z Z) ?_)))))))))
   refine Zs Z (Qu (Qd (kp3 Z Z Z) (Qe fun K hK => Qb Z (Qb Z (Qhk Z Z Z Z (by omega) (by omega) (by simp; omega) Qjp Z (QjD (ds0 := [5, 1, 0]) Z Z (fun _ h => ⟨Qo7, h⟩) Z (.inl Z) (by simp) (by simp; omega) (by simp; omega) Z Z (QQ (ds0 := [6, 5, 1, 0]) (cs := [_, _, _, _, _, _, _]) Z Z Z Z Z Z (QM Z Z (Qen (ds0 := [1, 0]) Z Z (by simp [D.ids, D.sid]) ⟨_, rfl, rfl, rfl, rfl, rfl⟩ Z Z (by simp) Z Z (by simp; omega) (by simp; omega) Z Z (Qb Z ?_))))))))))
   refine Qb Z (Qhk Z Z Z Z (by omega) (by simp; omega) (by simp) Qjp Z (Qen (ds0 := [0]) Z Z (by simp [D.ids, D.sid]) ⟨rfl, Qo7, rfl⟩ Z Z (by simp) Z Z (by simp; omega) (by simp; omega) Z Z (Qb Z (hK _ _ (Qa (kp1 Z) ?_)))))
   refine Qt (Z5 Z ?_)
   rw [Qk5 (k := k) (by first | exact .inl (by omega) | exact .inr ⟨by omega, by assumption, by assumption⟩) hI.2]; simp [Xy, D.fz, D.fzS, Qdc, lk, D.can, D.canS, Qhw, D.sid, (show ∀ a b : Nat, a + 1 + b = a + (b + 1) from fun a b => by omega), Qu8 (show (l.map dCu).length <= l.length by simp)] <;> rfl
theorem Qau {l : List (Cu × Cu)} (hl : Sm l) : Ok Tryz.prog 126 [Zk l] (Qhw (Y5 l)) := by
 refine Ok.ofT Z6 Tryz.func126 Qtf (QuS Z) ?_
 show TW _ _ tf126.body _ _
 have hn := hl.1
 refine Qe fun K hK => Qb Z (hK _ _ (Qa (kp1 Z) ?_))
 refine Qe fun K hK => QA (Xe) Z Z (.inl Z) (QA (Xp) Z Z (.inl Z) (QM Z Z (Qb Z (hK _ _ (Qa (kp2 Z Z) ?_)))))
 refine QG ?_ -- 0
 refine Qe fun K hK => Qb Z (hK _ _ (Qa (kp3 Z Z Z) ?_))
 refine QH ?_
 refine ZH (ι := Nat) (fun i => ⟨[(0, Zk l), (3, Qhw (Y5 (l.take i))), (4, .int .i64 i)], []⟩) (fun i => i <= l.length) (fun i => l.length - i) 0 ?_ ?_ ?_
 ·exact le_trans (Qd1 7 _ (by decide)) (Q6 (l := [0, 3, 4]) (lH := []) (kp3 rfl rfl rfl) Qp rfl rfl rfl)
 ·exact Qu4 _
 intro i hI
 try dsimp only
 refine QG ?_ -- 1
 refine Qe fun K hK => Qb Z (Qb Z (Q4 Z Z (Yk Z Z (hK _ _ (Qa (kp4 Z Z Z Z) ?_)))))
 refine Qw Z (fun h1 => ?_) (fun h1 => ?_)
 ·try rw [h1]
  try simp only [qA] at h1
  refine Qu (Qd (kp3 Z Z Z) ?_)
  refine QG ?_ -- 2
  refine QH (QR fun K hK => Qb Z (Qb Z (Qb Z (QP Z Z Z (by omega) (Zj (by omega)) Z (ZA Z Z (QQ (ds0 := [7, 1, 0]) (cs := [_, _, _, _, _, _, _]) Z Z Z Z Z Z (Zc (ds0 := [1, 0]) (QaO (Qvb (Qe8 hl i).1 (by omega)) (Qe8 hl i).2 (hl.2 _ (QuX (by omega))).1) Z Z (.inl Z) Z Z (Qb Z (Qb Z (QP Z Z Z (by omega) (Zj (by omega)) Z ?_))))))))))
  refine ZA Z Z (QQ (ds0 := [1, 0]) (cs := [_, _, _, _, _, _, _]) Z Z Z Z Z Z (Zc (ds0 := [0]) (QaO (Qvb (Qe9 _ _) (by have := (Qe8 hl i).1; omega)) (QhU (Qe8 hl i).2 (hl.2 _ (QuX (by omega))).1) (hl.2 _ (QuX (by omega))).2) Z Z (.inl Z) Z Z (Qb Z (hK _ ?_))))
  refine Qh (Qd (kp3 Z Z Z) (QR fun K hK => Qb Z (Q8 Z Z (by first | exact Qr (by omega) (by omega) | rfl) (Qb Z (hK _ ?_)))))
  refine Ql (i + 1) ?_ ?_ ?_
  ·exact Q6 (l := [0, 3, 4]) (lH := []) (kp3 rfl rfl rfl) Qp (by rw [QoD (by omega)]; rfl) rfl rfl
  ·omega
  ·first | omega | (simp only; omega) | (dsimp only; omega)
 ·try rw [h1]
  try simp only [qA] at h1
  refine Ze (QJ (Qy (QI (Qd (kp1 Z) (Qe fun K hK => Qb Z (Qb Z (hK _ _ (Qa (kp1 Z) ?_))))))))
  refine Qt (Z5 Z ?_)
  rw [Qu8 (show l.length <= i by omega)]; rfl
end Go.Proofs
namespace Go.Proofs
open Go Go.Abs M3 M25
theorem Qav {l : List (Cu × Cu)} {x y : Cu} (hn : l.length <= 3000000) (hl : ∀ s ∈ l, Cu.sm s.1 /\ Cu.sm s.2) (hx : Cu.sm x) (hy : Cu.sm y) : OkH Tryz.prog 128 [.osl 500000 l.length, .agg (dCu x), .agg (dCu y)] [(500000, ⟨l.map QeY, 14, 116, true⟩)] (.osl 500000 (Qcn l x y).length) [(500000, ⟨(Qcn l x y).map QeY, 14, 116, true⟩)] := by
 refine OkH.mv Z6 Tryz.func128 Qth (QuS Z) Z ?_
 show TW _ _ tf128.body _ _
 refine Qe fun K hK => ZI Z Z Z (ZI Z Z Z (Qb Z (hK _ _ (Qa (kp3 Z Z Z) ?_))))
 refine QG ?_ -- 0
 refine Qe fun K hK => Qb Z (Q4 Z Z (QdB Z Z (by first | exact Qr (by omega) (by omega) | rfl) (Qb Z (hK _ _ (Qa (kp4 Z Z Z Z) ?_)))))
 refine Qe fun K hK => Qb Z (Qhj Z Z (Qb Z ?_))
 refine Qz (g := 13) Z (fun h1 => ?_) (fun h1 => ?_)
 ·try rw [h1]
  try simp only [qA] at h1
  refine Qf Z (Qb Z (Qf Z (Qb Z (Qf Z (QdA (ds0 := [5, 4, 2, 1, 0]) Z Z Z (by simp) (by omega) (by omega) Z Z Z (Qf Z (Qi Z Z (Qf Z (QQ (ds0 := [2, 1, 0]) (cs := [_, _, _, _, _, _, _]) Z (Yp Z (Ye (by omega) (by omega))) Z Z Z Z (Qf Z (QQ (ds0 := [2, 1, 0]) (cs := [_, _, _, _, _, _, _]) Z Z Z Z Z Z ?_)))))))))))
  refine Qf Z (Zc (ds0 := [1, 0]) (Zz (hl _ (QuX (by omega))).2.1 (hl _ (QuX (by omega))).2.2 hx.1 hx.2) Z Z (.inr Z) Z Z (Qf Z (Xb Z Z (Qj Z Z (hK _ _ (Qa (kp5 Z Z Z Z Z) ?_))))))
  refine Qw Z (fun h2 => ?_) (fun h2 => ?_)
  ·try rw [h2]
   try simp only [qA] at h2
   refine Qe fun K hK => Qb Z (Qb Z (QD (cs := [_, _, _, _, _, _, _]) Z Z Z Z (QaJ Z Z Z (by simp) (by omega) (by omega) Z (Qi Z Z (Q0 Z Z (Ye (by omega) (by omega)) Z Z Z Z Z (hK _ _ (Qa (kp1 Z) ?_)))))))
   refine Qe fun K hK => Qb Z (Qb Z (hK _ _ (Qa (kp1 Z) ?_)))
   refine Qt (Qk ?_)
   refine QaB Z ?_ (Qkl ?_)
   ·rw [Qi6 (i := ((l.length : Int) - 1).toNat) (by omega) h2]; simp [QnW, D.fz, D.fzS, QgD, D.can, D.canS]
   ·rw [Qi6 (i := ((l.length : Int) - 1).toNat) (by omega) h2]; simp [lk, List.map_set, QeY, dCu, setRow, D.sid]
  ·try rw [h2]
   try simp only [qA] at h2
   refine Qu (Qd (kp3 Z Z Z) (Qe fun K hK => Qb Z (QD (cs := [_, _, _, _, _, _, _]) Z Z Z Z (QD (cs := [_, _, _, _, _, _, _]) Z Z Z Z (QX Z Z (QM Z Z (X8 Z Z (fun _ h => XK Z Z Z h) Z (by simp) Z Z Z (by simp; omega) (by simp; omega) (Qb Z (hK _ _ (Qa (kp1 Z) ?_))))))))))
   refine Qt ?_
   refine QaB Z ?_ (Qkl ?_)
   ·rw [Qd4 (.inr ⟨((l.length : Int) - 1).toNat, by omega, h2⟩)]; simp [QnW, D.fz, D.fzS, QgD, D.can, D.canS]
   ·rw [Qd4 (.inr ⟨((l.length : Int) - 1).toNat, by omega, h2⟩)]; simp [lk, QeY, dCu, D.sid]
 ·try rw [h1]
  try simp only [qA] at h1
  refine Qs Z (Qs Z (Qs Z (Qs Z (Qs Z (Qs Z (Qs Z (Qs Z (Qj Z Z (hK _ _ (Qa (kp5 Z Z Z Z Z) ?_))))))))))
  refine Zs Z (Qu (Qd (kp3 Z Z Z) (Qe fun K hK => Qb Z (QD (cs := [_, _, _, _, _, _, _]) Z Z Z Z (QD (cs := [_, _, _, _, _, _, _]) Z Z Z Z (QX Z Z (QM Z Z (X8 Z Z (fun _ h => XK Z Z Z h) Z (by simp) Z Z Z (by simp; omega) (by simp; omega) (Qb Z (hK _ _ (Qa (kp1 Z) ?_)))))))))))
  refine Qt ?_
  have h0 : l = [] := List.eq_nil_of_length_eq_zero (by omega)
  refine QaB Z ?_ (Qkl ?_)
  ·rw [Qd4 (.inl h0)]; simp [QnW, D.fz, D.fzS, QgD, D.can, D.canS]
  ·rw [Qd4 (.inl h0)]; simp [lk, QeY, dCu, D.sid]
end Go.Proofs
namespace Go.Proofs
open Go Go.Abs M3 M25
theorem Qdi {l : List (Cu × Cu)} (hl : Sm l) : Ok Tryz.prog 125 [Zk l] (.tup [Zk (Qj7 l), .bool (l.all Qda)]) := by
  refine Ok.ofT Z6 Tryz.func125 Qte (QuS Z) ?_
  show TW _ _ tf125.body _ _
  have hn := hl.1
  have hc1 := Qcl l
  refine Qe fun K hK => Qb Z (Qb Z (hK _ _ (Qa (kp1 Z) ?_)))
  refine QG ?_ -- 0
  refine Qe fun K hK => Qb Z (hK _ _ (Qa (kp2 Z Z) ?_))
  refine QH ?_
  refine ZH (ι := Nat) (fun i => ⟨[(0, Zk l), (4, .int .i64 i)], []⟩) (fun i => i <= l.length /\ (l.take i).all Qda = true) (fun i => l.length - i) 0 ?_ ?_ ?_
  · exact Q1 (kp2 rfl rfl)
  · exact ⟨Qu4 _, by simp⟩
  intro i hI
  try dsimp only
  refine QG ?_ -- 1
  refine Qe fun K hK => Qb Z (Qb Z (Q4 Z Z (Yk Z Z (hK _ _ (Qa (kp3 Z Z Z) ?_)))))
  refine Qw Z (fun h1 => ?_) (fun h1 => ?_)
  · try rw [h1]
    try simp only [qA] at h1
    refine Qu (Qd (kp2 Z Z) ?_)
    refine QG ?_ -- 2
    refine QH (Qe fun K hK => Qb Z (Qb Z (QP Z Z Z (by omega) (Zj (by omega)) Z (QD (cs := [_, _, _, _, _, _, _, _, _, _, _, _, _, _]) Z Z Z Z (QA (XJ (hl.at (i := i) (by omega)).1.1 (hl.at (i := i) (by omega)).1.2 (hl.at (i := i) (by omega)).2.1 (hl.at (i := i) (by omega)).2.2) Z Z (.inr Z) (ZW Z (hK _ _ (Qa (kp3 Z Z Z) ?_))))))))
    refine Qw Z (fun h2 => ?_) (fun h2 => ?_)
    · try rw [h2]
      try simp only [qA] at h2
      refine Qe fun K hK => Qb Z (Qb Z (hK _ _ (Qa (kp2 Z Z) ?_)))
      refine Qt (Qv (Qk (Q2 (Qv (Qk ?_)))))
      first
        | exact ZS rfl rfl ⟨by rw [Qj7, if_neg (by rw [Ys (i := i) (by omega) (by assumption)]; simp)]; rfl, by rw [Ys (i := i) (by omega) (by assumption)]; rfl⟩
        | (have ha : l.all Qda = true := Xo (by omega) hI.2
           exact ZS rfl rfl ⟨by rw [Qj7, if_pos ha, hI2.done (by omega)]; simp [Xy, D.fz, D.fzS, Qdc, lk, D.can, D.canS, Zk], by rw [ha]; rfl⟩)
    · try rw [h2]
      try simp only [qA] at h2
      refine Qu (Qh (Qd (kp2 Z Z) (QR fun K hK => Qb Z (Q8 Z Z (by first | exact Qr (by omega) (by omega) | rfl) (Qb Z (hK _ ?_))))))
      refine Ql (i + 1) ?_ ?_ ?_
      · exact Q1 (kp2 rfl rfl)
      · exact ⟨by omega, Zg (by omega) hI.2 (by assumption)⟩
      · first | omega | (simp only; omega) | (dsimp only; omega)
  · try rw [h1]
    try simp only [qA] at h1
    refine Ze (QJ (Qy (QI (Qd (kp1 Z) (Qe fun K hK => Qb Z (hK _ _ (Qa (kp2 Z Z) ?_)))))))
    refine Qe fun K hK => Qb Z (QA (Qau hl) Z Z (.inl Z) (Qb Z (hK _ _ (Qa (kp3 Z Z Z) ?_))))
    refine QG ?_ -- 3
    refine Qe fun K hK => Qb Z (hK _ _ (Qa (kp4 Z Z Z Z) ?_))
    refine QH ?_
    refine ZH (ι := Nat × List (Cu × Cu)) (fun ⟨i, out⟩ => ⟨[(0, Zk l), (5, .osl 5 out.length), (6, Qhw (Y5 l)), (7, .int .i64 i)], [(5, ⟨out.map QeY, 14, 116, true⟩)]⟩) (fun ⟨i, out⟩ => i <= (Y5 l).length /\ FillI (mIn l) (Y5 l) i out) (fun ⟨i, out⟩ => (Y5 l).length - i) (0, []) ?_ ?_ ?_
    · exact le_trans (YG 5 5 14 116 rfl rfl) (Q6 (l := [0, 5, 6, 7]) (lH := [5]) (kp4 rfl rfl rfl rfl) (Qg rfl Qp) rfl rfl rfl)
    · exact ⟨Qu4 _, FillI.zero⟩
    intro ⟨i, out⟩ hI
    obtain ⟨hI1, hI2⟩ := hI
    have hI3 := hI2.1
    try dsimp only
    refine QG ?_ -- 4
    refine Qe fun K hK => Qb Z (Q8 Z Z (by first | exact Qr (by omega) (by omega) | rfl) (Qb Z (Q4 Z Z (Yk Z Z (hK _ _ (Qa (kp5 Z Z Z Z Z) ?_))))))
    refine Qw Z (fun h3 => ?_) (fun h3 => ?_)
    · try rw [h3]
      try simp only [qA] at h3
      refine Qu (Qd (kp4 Z Z Z Z) ?_)
      refine QG ?_ -- 5
      refine QH (Qe fun K hK => Qb Z (Qb Z (Qb Z (QP Z Z Z (by omega) (Zj (by omega)) Z (QQ (ds0 := [0]) (cs := [_, _, _, _, _, _, _]) Z Z Z Z Z Z (Qb Z (Qb Z (Q8 Z Z (by first | exact Qr (by omega) (by omega) | rfl) (QP Z Z Z (by omega) (QkS (by omega)) Z (QQ (ds0 := [0]) (cs := [_, _, _, _, _, _, _]) Z Z Z Z Z Z ?_))))))))))
      refine Zc (ds0 := []) (Qbg hl (YI hl _ (QuX (by omega))) (YI hl _ (QuX (by omega)))) Z Z (.inr Z) Z Z (hK _ _ (Qa (kp5 Z Z Z Z Z) ?_))
      refine Qw Z (fun h4 => ?_) (fun h4 => ?_)
      · try rw [h4]
        try simp only [qA] at h4
        refine QR fun K hK => Qb rfl (Qb rfl (Qb rfl (QP rfl rfl rfl (by omega) (Zj (by omega)) rfl (QQ (ds0 := [1, 0]) (cs := [_, _, _, _, _, _, _]) rfl rfl rfl rfl rfl rfl (Qb rfl (Qb rfl (Q8 rfl rfl (by first | exact Qr (by omega) (by omega) | rfl) (QP rfl rfl rfl (by omega) (QkS (by omega)) rfl (QQ (ds0 := [1, 0]) (cs := [_, _, _, _, _, _, _]) rfl rfl rfl rfl rfl rfl (Qkw (ds0 := [0]) (Qps (k := 5) rfl rfl rfl (by decide) rfl (by decide) (by simp [D.ids, D.sid, dCu]) ⟨.osl 5 out.length, by simp, by simp [D.ids, D.sid]⟩ rfl rfl (Qav (by omega) hI2.2.1 (YI hl _ (QuX (by omega))) (YI hl _ (QuX (by omega))))) (fun _ h => by cases h) rfl rfl ?_))))))))))
        refine Qb Z (hK _ ?_)
        refine Qh (Qd (kp4 Z Z Z Z) (QR fun K hK => Qb Z (Q8 Z Z (by first | exact Qr (by omega) (by omega) | rfl) (Qb Z (hK _ ?_)))))
        refine Ql (i + 1, Qcn out (Y5 l)[i] (Y5 l)[i + 1]) ?_ ?_ ?_
        · exact le_trans (Qm3 (l := [0, 6, 7]) (t := 50) (u := 5) 5 (kp3 rfl rfl rfl) rfl rfl rfl rfl) (Q6 (l := [0, 5, 6, 7]) (lH := [5]) (kp4 rfl rfl rfl rfl) (Qg rfl Qp) rfl rfl rfl)
        · exact ⟨by omega, hI2.take (YI hl) (by omega) (by assumption)⟩
        · show (Y5 l).length - (i + 1) < (Y5 l).length - i; omega
      · try rw [h4]
        try simp only [qA] at h4
        refine Qu (Qh (Qd (kp4 Z Z Z Z) (QR fun K hK => Qb Z (Q8 Z Z (by first | exact Qr (by omega) (by omega) | rfl) (Qb Z (hK _ ?_))))))
        refine Ql (i + 1, out) ?_ ?_ ?_
        · exact Q6 (l := [0, 5, 6, 7]) (lH := [5]) (kp4 rfl rfl rfl rfl) (Qg rfl Qp) rfl rfl rfl
        · exact ⟨by omega, hI2.skip (by omega) (by assumption)⟩
        · show (Y5 l).length - (i + 1) < (Y5 l).length - i; omega
    · try rw [h3]
      try simp only [qA] at h3
      refine Ze (QJ (Qy (QI (Qd (kp1 Z) (Qe fun K hK => Qb Z (Qb Z (Qb Z (hK _ _ (Qa (kp2 Z Z) ?_)))))))))
      refine Qt ?_
      first
        | exact ZS rfl rfl ⟨by rw [Qj7, if_neg (by rw [Ys (i := i) (by omega) (by assumption)]; simp)]; rfl, by rw [Ys (i := i) (by omega) (by assumption)]; rfl⟩
        | (have ha : l.all Qda = true := Xo (by omega) hI.2
           exact ZS rfl rfl ⟨by rw [Qj7, if_pos ha, hI2.done (by omega)]; simp [Xy, D.fz, D.fzS, Qdc, lk, D.can, D.canS, Zk], by rw [ha]; rfl⟩)
end Go.Proofs
namespace Go.Proofs
open Go Go.Abs M3 M25
theorem Qbf {a b : List (Cu × Cu)} (ha : Sm a) (hb : Sm b) (hab : a.length + b.length <= 1000000) : Ok Tryz.prog 110 [Zk a, Zk b] (Zk (QpC a b)) := by
 refine Ok.ofT Z6 Tryz.func110 Qs2 (QuS Z) ?_
 show TW _ _ tf110.body _ _
 refine Qe fun K hK => Qb Z (hK _ _ (Qa (kp2 Z Z) ?_))
 refine QG ?_ -- 0
 refine Qe fun K hK => Qb Z (QA (Yo ha) Z Z (.inr Z) (ZW Z (Qb Z ?_)))
 refine Qz (g := 10) Z (fun h1 => ?_) (fun h1 => ?_)
 ·try rw [h1]
  try simp only [qB] at h1
  refine Qs Z (Qs Z (Qs Z (Qj Z Z (hK _ _ (Qa (kp3 Z Z Z) ?_)))))
  refine Zt Z (Qe fun K hK => Qb Z (hK _ _ (Qa (kp1 Z) ?_)))
  refine Qt (Qk (Z5 Z ?_))
  rw [QpC, if_neg (by simp [h1])]; rfl
 ·try rw [h1]
  try simp only [qB] at h1
  refine Qf Z (Qb Z (Qf Z (QA (Yo hb) Z Z (.inr Z) (Qf Z (ZW Z (Qj Z Z (hK _ _ (Qa (kp3 Z Z Z) ?_))))))))
  refine Qw Z (fun h2 => ?_) (fun h2 => ?_)
  ·try rw [h2]
   try simp only [qB] at h2
   refine Qe fun K hK => Qb Z (hK _ _ (Qa (kp1 Z) ?_))
   refine Qt (Qk (Z5 Z ?_))
   rw [QpC, if_neg (by simp [h1, h2])]; rfl
  ·try rw [h2]
   try simp only [qB] at h2
   refine Qu (Qd (kp2 Z Z) (Qe fun K hK => Qb Z (Qpl Z Z (fun _ h => QpO QpI h) Z (.inl Z) (by simp) (by simp; omega) (by simp; omega) (Qb Z (X8 Z Z (fun _ h => QpO QpI h) Z (by simp) Z Z Z (by simp; omega) (by simp; omega) ?_)))))
   apply Qp0 [17] (by simp)
   ·simp [St.freezeL, St.freeze, rem, D.fz, D.fzS, Box.fz, lk, D.scrub]; exact ⟨rfl, rfl⟩
   ·exact Qdi (ha.app hb hab)
   ·rfl
   ·simp [Xy, D.fz, D.fzS, Qdc, D.can, D.canS, Zk]
   ·exact .inl rfl
   refine Qb Z (Q5 Z Z (Q5 Z Z (Qb Z (Qb Z (hK _ _ (Qa (kp1 Z) ?_))))))
   refine Qe fun K hK => Qb Z (Qb Z (hK _ _ (Qa (kp1 Z) ?_)))
   refine Qt (Z5 Z ?_)
   rw [QpC, if_pos ⟨h1, h2⟩]; rfl
theorem QaN {a : List (Cu × Cu)} (ha : Sm a) : Ok Tryz.prog 111 [Zk a] (Zk (Qj8 a)) := by
 refine Ok.ofT Z6 Tryz.func111 Qs3 (QuS Z) ?_
 show TW _ _ tf111.body _ _
 have hn := ha.1
 have hc1 := Qcl a
 refine Qe fun K hK => Qb Z (hK _ _ (Qa (kp1 Z) ?_))
 refine QG ?_ -- 0
 refine Qe fun K hK => Qb Z (QA (Yo ha) Z Z (.inr Z) (ZW Z (hK _ _ (Qa (kp2 Z Z) ?_))))
 refine Qw Z (fun h1 => ?_) (fun h1 => ?_)
 ·try rw [h1]
  try simp only [qA] at h1
  refine Qe fun K hK => Qb Z (hK _ _ (Qa (kp1 Z) ?_))
  refine Qt (Qk (Z5 Z ?_))
  rw [Qj8, if_neg (by simp [h1])]; rfl
 ·try rw [h1]
  try simp only [qA] at h1
  refine Qu (Qd (kp1 Z) (Qe fun K hK => Qb Z (hK _ _ (Qa (kp2 Z Z) ?_))))
  refine Qe fun K hK => Qb Z (QA (Qau ha) Z Z (.inl Z) (Qb Z (hK _ _ (Qa (kp3 Z Z Z) ?_))))
  refine QG ?_ -- 1
  refine Qe fun K hK => Qb Z (hK _ _ (Qa (kp4 Z Z Z Z) ?_))
  refine QH ?_
  refine ZH (ι := Nat × List (Cu × Cu)) (fun ⟨i, out⟩ => ⟨[(0, Zk a), (3, .osl 3 out.length), (4, Qhw (Y5 a)), (5, .int .i64 i)], [(3, ⟨out.map QeY, 14, 116, true⟩)]⟩) (fun ⟨i, out⟩ => i <= (Y5 a).length /\ FillI (fun x y => !mIn a x y) (Y5 a) i out) (fun ⟨i, out⟩ => (Y5 a).length - i) (0, []) ?_ ?_ ?_
  ·exact le_trans (YG 3 3 14 116 rfl rfl) (Q6 (l := [0, 3, 4, 5]) (lH := [3]) (kp4 rfl rfl rfl rfl) (Qg rfl Qp) rfl rfl rfl)
  ·exact ⟨Qu4 _, FillI.zero⟩
  intro ⟨i, out⟩ hI
  obtain ⟨hI1, hI2⟩ := hI
  have hI3 := hI2.1
  try dsimp only
  refine QG ?_ -- 2
  refine Qe fun K hK => Qb Z (Q8 Z Z (by first | exact Qr (by omega) (by omega) | rfl) (Qb Z (Q4 Z Z (Yk Z Z (hK _ _ (Qa (kp5 Z Z Z Z Z) ?_))))))
  refine Qw Z (fun h2 => ?_) (fun h2 => ?_)
  ·try rw [h2]
   try simp only [qA] at h2
   refine Qu (Qd (kp4 Z Z Z Z) ?_)
   refine QG ?_ -- 3
   refine QH (Qe fun K hK => Qb Z (Qb Z (Qb Z (QP Z Z Z (by omega) (Zj (by omega)) Z (QQ (ds0 := [1, 0]) (cs := [_, _, _, _, _, _, _]) Z Z Z Z Z Z (Qb Z (Qb Z (Q8 Z Z (by first | exact Qr (by omega) (by omega) | rfl) (QP Z Z Z (by omega) (QkS (by omega)) Z (QQ (ds0 := [1, 0]) (cs := [_, _, _, _, _, _, _]) Z Z Z Z Z Z ?_))))))))))
   refine Zc (ds0 := [0]) (Qbg ha (YI ha _ (QuX (by omega))) (YI ha _ (QuX (by omega)))) Z Z (.inr Z) Z Z (ZW Z (hK _ _ (Qa (kp5 Z Z Z Z Z) ?_)))
   refine Qw Z (fun h3 => ?_) (fun h3 => ?_)
   ·try rw [h3]
    try simp only [qA] at h3
    refine QR fun K hK => Qb rfl (Qb rfl (Qb rfl (QP rfl rfl rfl (by omega) (Zj (by omega)) rfl (QQ (ds0 := [1, 0]) (cs := [_, _, _, _, _, _, _]) rfl rfl rfl rfl rfl rfl (Qb rfl (Qb rfl (Q8 rfl rfl (by first | exact Qr (by omega) (by omega) | rfl) (QP rfl rfl rfl (by omega) (QkS (by omega)) rfl (QQ (ds0 := [1, 0]) (cs := [_, _, _, _, _, _, _]) rfl rfl rfl rfl rfl rfl (Qkw (ds0 := [0]) (Qps (k := 3) rfl rfl rfl (by decide) rfl (by decide) (by simp [D.ids, D.sid, dCu]) ⟨.osl 3 out.length, by simp, by simp [D.ids, D.sid]⟩ rfl rfl (Qav (by omega) hI2.2.1 (YI ha _ (QuX (by omega))) (YI ha _ (QuX (by omega))))) (fun _ h => by cases h) rfl rfl ?_))))))))))
    refine Qb Z (hK _ ?_)
    refine Qh (Qd (kp4 Z Z Z Z) (QR fun K hK => Qb Z (Q8 Z Z (by first | exact Qr (by omega) (by omega) | rfl) (Qb Z (hK _ ?_)))))
    refine Ql (i + 1, Qcn out (Y5 a)[i] (Y5 a)[i + 1]) ?_ ?_ ?_
    ·exact le_trans (Qm3 (l := [0, 4, 5]) (t := 40) (u := 3) 3 (kp3 rfl rfl rfl) rfl rfl rfl rfl) (Q6 (l := [0, 3, 4, 5]) (lH := [3]) (kp4 rfl rfl rfl rfl) (Qg rfl Qp) rfl rfl rfl)
    ·exact ⟨by omega, hI2.take (YI ha) (by omega) (by simp; assumption)⟩
    ·show (Y5 a).length - (i + 1) < (Y5 a).length - i; omega
   ·try rw [h3]
    try simp only [qA] at h3
    refine Qu (Qh (Qd (kp4 Z Z Z Z) (QR fun K hK => Qb Z (Q8 Z Z (by first | exact Qr (by omega) (by omega) | rfl) (Qb Z (hK _ ?_))))))
    refine Ql (i + 1, out) ?_ ?_ ?_
    ·exact Q6 (l := [0, 3, 4, 5]) (lH := [3]) (kp4 rfl rfl rfl rfl) (Qg rfl Qp) rfl rfl rfl
    ·exact ⟨by omega, hI2.skip (by omega) (by simp; assumption)⟩
    ·show (Y5 a).length - (i + 1) < (Y5 a).length - i; omega
  ·try rw [h2]
   try simp only [qA] at h2
   refine Ze (QJ (Qy (QI (Qd (kp1 Z) (Qe fun K hK => Qb Z (Qb Z (hK _ _ (Qa (kp1 Z) ?_))))))))
   refine Qt (Z5 Z ?_)
   rw [Qj8, if_pos h1, hI2.done (by omega)]; simp [Xy, D.fz, D.fzS, Qdc, lk, D.can, D.canS, Zk]
end Go.Proofs
namespace Go.Proofs
open Go Go.Abs M3 M25
theorem Qeo {a b : Qfn} (h1a : Sm a.1) (h2a : Sm a.2) (h1b : Sm b.1) (h2b : Sm b.2) (hl1 : a.1.length + b.1.length <= 1000000) (hl2 : a.2.length + b.2.length <= 1000000) : Ok Tryz.prog 93 [Qgk a, Qgk b] (Qgk (QpD a b)) := by
 refine Ok.ofT Z6 Tryz.func93 QuK (QuS Z) ?_
 show TW _ _ tf93.body _ _
 refine Qe fun K hK => ZI Z Z Z (ZI Z Z Z (ZF Z (hK _ _ (Qa (kp3 Z Z Z) ?_))))
 refine QG ?_ -- 0
 refine Qe fun K hK => QD (cs := [_, _]) Z Z Z Z (QA (XB h1a h2a) Z Z (.inr Z) (ZW Z (Qb Z ?_)))
 refine Qz (g := 8) Z (fun h1 => ?_) (fun h1 => ?_)
 ·try rw [h1]
  try simp only [qB] at h1
  refine Qs Z (Qs Z (Qs Z (Qj Z Z (hK _ _ (Qa (kp4 Z Z Z Z) ?_)))))
  refine Zt Z (Qe fun K hK => QA (Yh) Z Z (.inl Z) (Q0 Z Z Z Z Z Z Z Z (hK _ _ (Qa (kp1 Z) ?_))))
  refine Qt (Qk (Post.eq (ZL (ds := [.sl _, .sl _]) (cs := [_, _]) Z Z Z Z Z) ?_))
  rw [QpD, if_neg (by simp [h1])]; rfl
 ·try rw [h1]
  try simp only [qB] at h1
  refine Qf Z (QD (cs := [_, _]) Z Z Z Z (Qf Z (QA (XB h1b h2b) Z Z (.inr Z) (Qf Z (ZW Z (Qj Z Z (hK _ _ (Qa (kp4 Z Z Z Z) ?_))))))))
  refine Qw Z (fun h2 => ?_) (fun h2 => ?_)
  ·try rw [h2]
   try simp only [qB] at h2
   refine Qe fun K hK => QA (Yh) Z Z (.inl Z) (Q0 Z Z Z Z Z Z Z Z (hK _ _ (Qa (kp1 Z) ?_)))
   refine Qt (Qk (Post.eq (ZL (ds := [.sl _, .sl _]) (cs := [_, _]) Z Z Z Z Z) ?_))
   rw [QpD, if_neg (by simp [h1, h2])]; rfl
  ·try rw [h2]
   try simp only [qB] at h2
   refine Qu (Qd (kp3 Z Z Z) (Qe fun K hK => Qi Z Z (Zi (ds0 := [7, 1, 0]) Z Z Z Z Z (Qi Z Z (Zi (ds0 := [7, 1, 0]) Z Z Z Z Z (Zc (ds0 := [1, 0]) (Qbf h1a h1b hl1) Z Z (.inl Z) Z Z (Qi Z Z (Zi (ds0 := [2, 1, 0]) Z Z Z Z Z (Qi Z Z (Zi (ds0 := [2, 1, 0]) Z Z Z Z Z ?_))))))))))
   refine Zc (ds0 := [1, 0]) (Qbf h2a h2b hl2) Z Z (.inl Z) Z Z (QX Z Z (Xk (ds0 := []) Z Z Z Z Z Z Z Z Z Z (hK _ _ (Qa (kp1 Z) ?_))))
   refine Qt (Post.eq (ZL (ds := [.sl _, .sl _]) (cs := [_, _]) Z Z Z Z Z) ?_)
   rw [QpD, if_pos ⟨h1, h2⟩]; rfl
theorem QdL {a : Qfn} (h1a : Sm a.1) (h2a : Sm a.2) : Ok Tryz.prog 94 [Qgk a] (Qgk (QhT a)) := by
 refine Ok.ofT Z6 Tryz.func94 QuL (QuS Z) ?_
 show TW _ _ tf94.body _ _
 refine Qe fun K hK => ZI Z Z Z (ZF Z (hK _ _ (Qa (kp2 Z Z) ?_)))
 refine QG ?_ -- 0
 refine Qe fun K hK => QD (cs := [_, _]) Z Z Z Z (QA (XB h1a h2a) Z Z (.inr Z) (ZW Z (hK _ _ (Qa (kp3 Z Z Z) ?_))))
 refine Qw Z (fun h1 => ?_) (fun h1 => ?_)
 ·try rw [h1]
  try simp only [qB] at h1
  refine Qe fun K hK => QA (Yh) Z Z (.inl Z) (Q0 Z Z Z Z Z Z Z Z (hK _ _ (Qa (kp1 Z) ?_)))
  refine Qt (Qk (Post.eq (ZL (ds := [.sl _, .sl _]) (cs := [_, _]) Z Z Z Z Z) ?_))
  rw [QhT, if_neg (by simp [h1])]; rfl
 ·try rw [h1]
  try simp only [qB] at h1
  refine Qu (Qd (kp2 Z Z) (Qe fun K hK => Qi Z Z (Zi (ds0 := [5, 1, 0]) Z Z Z Z Z (Zc (ds0 := [1, 0]) (QaN h1a) Z Z (.inl Z) Z Z (Qi Z Z (Zi (ds0 := [2, 1, 0]) Z Z Z Z Z (Zc (ds0 := [1, 0]) (QaN h2a) Z Z (.inl Z) Z Z (QX Z Z (Xk (ds0 := []) Z Z Z Z Z Z Z Z Z Z (hK _ _ (Qa (kp1 Z) ?_)))))))))))
  refine Qt (Post.eq (ZL (ds := [.sl _, .sl _]) (cs := [_, _]) Z Z Z Z Z) ?_)
  rw [QhT, if_pos h1]; rfl
end Go.Proofs
namespace Go.Proofs
open Go Go.Abs M3 M25
theorem Xc {v n : Int} (hn : n <= 9223372036854775807) (hv : I64 v) : Ok Tryz.prog 13 [.int .i64 v, .int .i64 n] (.int .i64 (mPl v n)) := by
 refine Ok.ofT Z6 Tryz.func13 QtV (QuS Z) ?_
 show TW _ _ tf13.body _ _
 refine Qe fun K hK => Qb Z (hK _ _ (Qa (kp2 Z Z) ?_))
 refine QG ?_ -- 0
 refine Qe fun K hK => Qb Z (Yk Z Z (hK _ _ (Qa (kp3 Z Z Z) ?_)))
 refine Qw Z (fun h1 => ?_) (fun h1 => ?_)
 ·try rw [h1]
  try simp only [qB] at h1
  refine Qe fun K hK => Qb Z (hK _ _ (Qa (kp1 Z) ?_))
  refine Qt (Qk (Qx Z ?_))
  rw [mPl, if_pos h1]
 ·try rw [h1]
  try simp only [qB] at h1
  refine Qu (Qd (kp2 Z Z) (Qe fun K hK => Qb Z (Qb Z (QjG Z Z (by omega) (Qb Z (hK _ _ (Qa (kp2 Z Z) ?_)))))))
  refine QG ?_ -- 1
  refine Qe fun K hK => Qb Z (Yk Z Z (hK _ _ (Qa (kp3 Z Z Z) ?_)))
  refine Qw Z (fun h2 => ?_) (fun h2 => ?_)
  ·try rw [h2]
   try simp only [qB] at h2
   refine Qe fun K hK => Qb Z (Qb Z (Q8 Z Z (Qr (by have := Int.lt_tmod_of_pos v (show 0 < n by omega); omega) (by have := Int.tmod_lt_of_pos v (show 0 < n by omega); omega)) (Qb Z (hK _ _ (Qa (kp1 Z) ?_)))))
   refine Qt (Qk (Qx Z ?_))
   rw [mPl, if_neg h1, QfY, if_pos h2]
  ·try rw [h2]
   try simp only [qB] at h2
   refine Qu (Qd (kp1 Z) (Qe fun K hK => Qb Z (Qb Z (hK _ _ (Qa (kp1 Z) ?_)))))
   refine Qt (Qx Z ?_)
   rw [mPl, if_neg h1, QfY, if_neg h2]
theorem Qbe {l : List Int} {i : Int} : Ok Tryz.prog 36 [QZ l, .int .i64 i] (.int .i64 (Qbk l i)) := by
 refine Ok.ofT Z6 Tryz.func36 Qt6 (QuS Z) ?_
 show TW _ _ tf36.body _ _
 refine Qe fun K hK => Qb Z (hK _ _ (Qa (kp2 Z Z) ?_))
 refine QG ?_ -- 0
 refine Qe fun K hK => Qb Z (Yk Z Z (Qb Z ?_))
 refine Qz (g := 7) Z (fun h1 => ?_) (fun h1 => ?_)
 ·try rw [h1]
  try simp only [qA] at h1
  refine Qs Z (Qs Z (Qs Z (Qs Z (Qj Z Z (hK _ _ (Qa (kp3 Z Z Z) ?_))))))
  refine Zt Z (Qe fun K hK => Qb Z (QjG Z Z (by omega) (Qb Z (hK _ _ (Qa (kp1 Z) ?_)))))
  refine Qt (Qk (Qx Z ?_))
  rw [Qbk, if_pos (by omega)]
 ·try rw [h1]
  try simp only [qA] at h1
  refine Qf Z (Qb Z (Qf Z (Qb Z (Qf Z (Q4 Z Z (Qf Z (Qhj Z Z (Qj Z Z (hK _ _ (Qa (kp3 Z Z Z) ?_))))))))))
  refine Qw Z (fun h2 => ?_) (fun h2 => ?_)
  ·try rw [h2]
   try simp only [qA] at h2
   refine Qe fun K hK => Qb Z (QjG Z Z (by omega) (Qb Z (hK _ _ (Qa (kp1 Z) ?_))))
   refine Qt (Qk (Qx Z ?_))
   rw [Qbk, if_pos (by omega)]
  ·try rw [h2]
   try simp only [qA] at h2
   refine Qu (Qd (kp2 Z Z) (Qe fun K hK => Qb Z (Qb Z (QP Z Z Z (by omega) (Ye (by omega) (by omega)) Z (QC Z Z Z (Qb Z (hK _ _ (Qa (kp1 Z) ?_))))))))
   refine Qt (Qx Z ?_)
   exact (Qm7 (by omega) (by omega)).symm
theorem XX {k : Nat} {L : List Int} {I n : Int} (hk : 1000000 <= k) (hL : ∀ x ∈ L, I64 x) (hn : n <= 9223372036854775807) (et : Nat) : OkH Tryz.prog 33 [.ref k 0 0, .int .i64 n] [(k, gB L I et)] (.int .i64 (nx L I n)) ((k, gB L (nxI I) et) :: [(k, gB L I et)]) := by
 refine OkH.lent hk Z6 Tryz.func33 Qt4 (QuS Z) Z ?_
 show TW _ _ tf33.body _ _
 refine Qe fun K hK => Qb Z (hK _ _ (Qa (kp2 Z Z) ?_))
 refine Qe fun K hK => Qb Z (Yn Z Z (Qi Z Qe7 (QC Z (Yp Qex Z) Z (Q8 Z Z Z (Yn Z Z (Qi Z Qe7 (Q0 Z Qex Z Z Z Z Z Z (hK _ _ (Qa (kp2 Z Z) ?_)))))))))
 refine Qe fun K hK => Qb Z (Yn Z Z (Qi Z Qe7 (Zi (ds0 := [3, 1, 0]) Z (Yp Qex Z) Z Z Z (Qb Z (Yn Z Z (Qi Z Qe7 (Zi (ds0 := [4, 3, 1, 0]) Z (Yp Qex Z) Z Z Z (QdB Z Z Z (Zc (ds0 := [1, 0]) (Qbe) Z Z (.inr Z) Z Z (Qb Z ?_))))))))))
 refine Zc (ds0 := [0]) (Xc hn (Qk2 hL (Qgi _))) Z Z (.inr Z) Z Z (Qb Z (hK _ _ (Qa (kp1 Z) ?_)))
 refine Qt ?_
 exact QaB rfl rfl (QqV Qex)
end Go.Proofs
namespace Go.Proofs
open Go Go.Abs M3 M25
end Go.Proofs
namespace Go.Proofs
open Go Go.Abs M3 M25
theorem Xz  : Ok Tryz.prog 59 [] (.sl (versions.map dVr)) := by
 refine Ok.ofT Z6 Tryz.func59 Quj (QuS Z) ?_
 show TW _ _ tf59.body _ _
 refine Qe fun K hK => Qb Z (hK _ _ (Qa (ZE) ?_))
 refine Qe fun K hK => QX Z Z (QX Z Z (QX Z Z (QX Z Z (QM Z Z (Qb Z (hK _ _ (Qa (kp1 Z) ?_)))))))
 refine Qt (Z5 Z ?_)
 rfl
end Go.Proofs
namespace M25
open Go Go.Abs M3
structure WantT where
 u : Int
 s : Qfn
structure CandT where
 v : Vr
 sh : Int
 ns : List (List WantT)
 bs : List WantT
structure QjH where
 n : List UInt8
 f : List UInt8
 cs : List CandT
abbrev QF := List QjH
def Qbi (x : WantT) : List D := [.int .i64 x.u, Zk x.s.1, Zk x.s.2]
def Q7 (l : List WantT) : D := .sl (l.map Qbi)
def QU (l : List (List WantT)) : D := .sl (l.map fun r => [Q7 r])
def QsH (c : CandT) : List D := [.int .i64 c.v.a, .int .i64 c.v.b, .int .i64 c.v.c, .str c.v.p, .str c.v.q, .int .i64 c.sh, QU c.ns, Q7 c.bs]
def Qms (l : List CandT) : D := .sl (l.map QsH)
def Xf (u : QjH) : List D := [.str u.n, .str u.f, Qms u.cs]
def XC (w : QF) : D := .agg [.sl (w.map Xf)]
structure TermT where
 u : Int
 m : Int
 deriving DecidableEq
structure Qbv where
 u : Int
 m : Int
 l : Int
 c : Int
 deriving DecidableEq
structure RowT where
 k : Int
 u : Int
 a : Int
 b : Int
 t : List TermT
def X4 (t : TermT) : List D := [.int .i64 t.u, .int .i64 t.m]
def ZC (l : List TermT) : D := .sl (l.map X4)
abbrev Qc3 (a b : Int) : Int := Qcg .and .i64 a b
abbrev bor (a b : Int) : Int := Qcg .or .i64 a b
abbrev QgI (a b : Int) : Int := Qcg .andNot .i64 a b
def uAt (w : QF) (u : Int) : Option QjH := if u < 0 then none else w[u.toNat]?
theorem Qgg {w : QF} {u : Int} (h0 : 0 <= u) (h : u < w.length) : uAt w u = some (w[u.toNat]'(by omega)) := by
 rw [uAt, if_neg (by omega), List.getElem?_eq_getElem (by omega)]
theorem Qh9 {w : QF} {u : Int} (h : u < 0 \/ (w.length : Int) <= u) : uAt w u = none := by
 unfold uAt
 split
 ·rfl
 ·rw [List.getElem?_eq_none]; omega
def Qa7 (w : QF) (u : Int) : Int := match uAt w u with
 | none => 0
 | some x => 2 ^ (min x.cs.length 16 + 1) - 1
theorem QhQ {w : QF} {u : Int} (h0 : 0 <= u) (h : u < w.length) : Qa7 w u = 2 ^ (min (w[u.toNat]'(by omega)).cs.length 16 + 1) - 1 := by
 rw [Qa7, Qgg h0 h]
theorem Qi5 {w : QF} {u : Int} (h : u < 0 \/ (w.length : Int) <= u) : Qa7 w u = 0 := by rw [Qa7, Qh9 h]
def Qgj (v : Vr) : Prop := v.p.length <= 1000000 /\ v.q.length <= 1000000
structure WSm (w : QF) : Prop where
 len : w.length <= 48
 cs : ∀ u ∈ w, u.cs.length <= 16
 vs : ∀ u ∈ w, ∀ c ∈ u.cs, Qgj c.v
 ns : ∀ u ∈ w, ∀ c ∈ u.cs, c.ns.length <= 1000 /\ c.bs.length <= 1000
 nl : ∀ u ∈ w, ∀ c ∈ u.cs, ∀ r ∈ c.ns, r.length <= 1000
 nw : ∀ u ∈ w, ∀ c ∈ u.cs, ∀ r ∈ c.ns, ∀ x ∈ r, Sm x.s.1 /\ Sm x.s.2
 bw : ∀ u ∈ w, ∀ c ∈ u.cs, ∀ x ∈ c.bs, Sm x.s.1 /\ Sm x.s.2
def Qrd (s : Qfn) (v : Vr) : Bool := QlN s v.a v.b v.c v.p v.q
def Qd7 (s : Qfn) (l : List CandT) : Nat -> Int
 | 0 => 0
 | n + 1 => Qd7 s l n + match l[n]? with
  | some c => if Qrd s c.v = true then 2 ^ (n + 1) else 0
  | none => 0
theorem Qk9 (s : Qfn) (l : List CandT) : ∀ n, 0 <= Qd7 s l n /\ Qd7 s l n <= 2 ^ (n + 1) - 2
 | 0 => by simp [Qd7]
 | n + 1 => by
  obtain ⟨h1, h2⟩ := Qk9 s l n
  have h3 : (2 : Int) ^ (n + 1 + 1) = 2 ^ (n + 1) * 2 := Int.pow_succ ..
  have h4 : (0 : Int) < 2 ^ (n + 1) := Int.pow_pos (by omega)
  rw [Qd7, h3]
  generalize (2 : Int) ^ (n + 1) = z at *
  split
  ·split <;> omega
  ·omega
theorem Qne {s : Qfn} {l : List CandT} {i : Nat} (h : i < l.length) (hp : Qrd s l[i].v = true) : Qd7 s l (i + 1) = Qd7 s l i + 2 ^ (i + 1) := by
 rw [Qd7, List.getElem?_eq_getElem h]; simp only [hp, if_true]
theorem QoN {s : Qfn} {l : List CandT} {i : Nat} (h : i < l.length) (hp : Qrd s l[i].v = false) : Qd7 s l (i + 1) = Qd7 s l i := by
 rw [Qd7, List.getElem?_eq_getElem h]; simp only [hp, Qu0, if_false, Int.add_zero]
def QoG (w : QF) (x : WantT) : Int := match uAt w x.u with
 | none => 0
 | some un => Qd7 x.s un.cs (min un.cs.length 16)
theorem Qqz {w : QF} {x : WantT} (h0 : 0 <= x.u) (h : x.u < w.length) : QoG w x = Qd7 x.s (w[x.u.toNat]'(by omega)).cs (min (w[x.u.toNat]'(by omega)).cs.length 16) := by
 rw [QoG, Qgg h0 h]
theorem QoH {w : QF} {x : WantT} (h : x.u < 0 \/ (w.length : Int) <= x.u) : QoG w x = 0 := by rw [QoG, Qh9 h]
theorem QsQ {n : Nat} (h : n <= 17) : 1 <= (2 : Int) ^ n /\ (2 : Int) ^ n <= 131072 := by
 have h1 : (2 : Nat) ^ n <= 2 ^ 17 := Nat.pow_le_pow_right (by omega) h
 have h2 : 1 <= (2 : Nat) ^ n := Nat.one_le_two_pow
 have h3 : ((2 ^ n : Nat) : Int) = (2 : Int) ^ n := by simp
 rw [<- h3]
 have h4 : (2 : Nat) ^ 17 = 131072 := by decide
 omega
def Qbl (w : QF) (c : List Int) (u : Int) : Int := match uAt w u with
 | none => 0
 | some x => if (c.length : Int) <= u then 0 else if c.getD u.toNat 0 < -1 \/ ((min x.cs.length 16 : Nat) : Int) <= c.getD u.toNat 0 then 0 else 2 ^ (c.getD u.toNat 0 + 1).toNat
def YE (m : Int) : Nat -> List Int
 | 0 => []
 | n + 1 => YE m n ++ if Qc3 m (2 ^ n) = 0 then [] else [(n : Int) - 1]
def XM (m : Int) : List Int := YE m 17
def inW (w : QF) (u : Int) : Bool := decide (0 <= u) && decide (u < w.length)
/-! ### Trails -/
def Qgy (w : QF) (l : List Qbv) (u : Int) : Int := l.foldl (fun a s => if s.u = u /\ inW w u = true then s.m else a) (Qa7 w u)
def QrV (l : List Qbv) : Int := match l.getLast? with
 | none => 0
 | some s => s.l
def QoE (l : List Qbv) (u : Int) : Bool := l.any fun s => decide (s.u = u) && decide (s.c = -1)
def QsO (w : QF) (l : List Qbv) (inc : List TermT) : Bool := inc.all fun t => decide (Qjc (Qgy w l t.u) t.m = 2)
def QhX (have_ : Int -> Int) : List TermT -> Int -> Int
 | [], at_ => at_
 | t :: r, at_ => if Qjc (have_ t.u) t.m = 0 then -1 else if Qjc (have_ t.u) t.m = 1 then (if 0 <= at_ then -1 else QhX have_ r t.u) else QhX have_ r at_
def QrW (w : QF) (l : List Qbv) (inc : List TermT) : Int := QhX (Qgy w l) inc (-1)
def Qll (w : QF) (l : List Qbv) : Nat -> List (List TermT) -> Int × Int
 | _, [] => (-1, -1)
 | i, x :: r => if QsO w l x = true then (i, -1) else if 0 <= QrW w l x then (i, QrW w l x) else Qll w l (i + 1) r
def QsN (w : QF) (db : List (List TermT)) (l : List Qbv) : Int × Int := Qll w l 0 db
end M25
namespace M25
open Go Go.Abs M3
section
variable {fr : List (Nat × D)} {H : List (Nat × Box)} {t u : Nat}
theorem Qn9 {k n : Nat} {b : Box} {d : D} (hb : lk H k = some b) (hp : b.pr = true) (hn : n = b.rows.length) (hd : .sl b.rows = d) : Xy ⟨fr, H⟩ (.osl k n) = d := by
 unfold Xy; rw [QsL (S := Qdc) rfl hb hp hn]; exact hd
theorem Qfg {e : AExit} {k n : Nat} {b : Box} {d : D} (h : lk fr t = some (.osl k n)) (hb : lk H k = some b) (hp : b.pr = true) (hn : n = b.rows.length) (hd : .sl b.rows = d) (he : e = .ret \/ e = .normal := by first | exact .inl rfl | exact .inr rfl) : Post [.tmp t] d e ⟨fr, H⟩ :=
 Z5 h (Qn9 hb hp hn hd) he
end
theorem QnU {n : Nat} (h : n <= 62) : IntKind.i64.wrap ((2 : Int) ^ n - 1) = 2 ^ n - 1 := by
 have := Qns h; exact Qr (by omega) (by omega)
theorem Qap {w : QF} {c : List Int} {u : Int} (h : (u < 0 \/ (w.length : Int) <= u) \/ (c.length : Int) <= u) : Qbl w c u = 0 := by
 unfold Qbl
 split
 ·rfl
 ·rename_i x hx
  rcases h with h | h
  ·rw [Qh9 h] at hx; cases hx
  ·rw [if_pos h]
theorem Qao {w : QF} {c : List Int} {u : Int} (h0 : 0 <= u) (h1 : u < w.length) (h2 : u < c.length) (h : c[u.toNat]'(by omega) < -1 \/ min (((w[u.toNat]'(by omega)).cs.length : Nat) : Int) 16 <= c[u.toNat]'(by omega)) : Qbl w c u = 0 := by
 rw [Qbl, Qgg h0 h1]
 simp only []
 rw [if_neg (by omega), List.getD_eq_getElem?_getD, List.getElem?_eq_getElem (by omega)]
 simp only [Option.getD_some]
 rw [if_pos]
 rcases h with h | h
 ·exact .inl h
 ·right; omega
theorem Qbm {w : QF} {c : List Int} {u : Int} (h0 : 0 <= u) (h1 : u < w.length) (h2 : u < c.length) (h : ¬ c[u.toNat]'(by omega) < -1) (h' : ¬ min (((w[u.toNat]'(by omega)).cs.length : Nat) : Int) 16 <= c[u.toNat]'(by omega)) : Qbl w c u = 2 ^ (c[u.toNat]'(by omega) + 1).toNat := by
 rw [Qbl, Qgg h0 h1]
 simp only []
 rw [if_neg (by omega), List.getD_eq_getElem?_getD, List.getElem?_eq_getElem (by omega)]
 simp only [Option.getD_some]
 rw [if_neg]
 omega
theorem QkI {m : Int} {n : Nat} (h : ¬ Qc3 m (2 ^ n) = 0) : YE m (n + 1) = YE m n ++ [(n : Int) - 1] := by rw [YE, if_neg h]
theorem Qmy {m : Int} {n : Nat} (h : Qc3 m (2 ^ n) = 0) : YE m (n + 1) = YE m n := by rw [YE, if_pos h, List.append_nil]
theorem QrP {w : QF} {u : Int} (h0 : 0 <= u) (h : u < w.length) : inW w u = true := by simp [inW, h0, h]
theorem QmX {w : QF} {u : Int} (h : u < 0 \/ (w.length : Int) <= u) : inW w u = false := by
 simp only [inW, Qu5, decide_eq_false_iff_not]; omega
theorem QfM {w : QF} {u : Int} : inW w u = true ↔ 0 <= u /\ u < w.length := by simp [inW]
theorem QnP {x y : TermT} : Qbd [0, 0] (X4 x) (X4 y) = some (decide (x = y)) := by
 obtain ⟨a, b⟩ := x
 obtain ⟨c, d⟩ := y
 simp only [X4, Qbd, if_true, Option.map_some, Bool.and_true, QuV]
 rw [Bool.eq_iff_iff]
 simp only [QuW, decide_eq_true_eq, TermT.mk.injEq]
theorem Qlu {e : Int} (h1 : 0 <= e) (h2 : e <= 18446744073709551615) : IntKind.u64.wrap e = e := by
 unfold IntKind.wrap
 simp only [IntKind.bits, IntKind.signed, Bool.false_and, Qu0, if_false]
 omega
end M25
namespace Go.Proofs
open Go Go.Abs M3 M25
end Go.Proofs
namespace M25
open Go Go.Abs M3
theorem WSm.csLen {w : QF} (hw : WSm w) {u : Nat} (hu : u < w.length) : w[u].cs.length <= 16 := hw.cs _ (QuX _)
end M25
namespace M25
open Go Go.Abs M3
/-! ### Bits of numbers -/
theorem Qie (e : Int) : IntKind.i64.wrap e = (BitVec.ofInt 64 e).toInt := by
 have hb : (BitVec.ofInt 64 e).toInt = if e % 18446744073709551616 < 9223372036854775808 then e % 18446744073709551616 else e % 18446744073709551616 - 18446744073709551616 := by
  rw [BitVec.toInt_ofInt]; rfl
 rw [hb]
 unfold IntKind.wrap
 simp only [IntKind.bits, IntKind.signed, Bool.true_and]
 split
 ·rename_i h
  have := of_decide_eq_true h
  split <;> omega
 ·rename_i h
  have : ¬ (e % 2 ^ 64 >= 2 ^ (64 - 1)) := fun hh => h (decide_eq_true hh)
  split <;> omega
theorem Qdr (b : BitVec 64) : BitVec.ofInt 64 (b.toNat : Int) = b := by
 rw [BitVec.ofInt_natCast, BitVec.ofNat_toNat, BitVec.setWidth_eq]
theorem QrE (x y : Int) : BitVec.ofInt 64 (Qc3 x y) = BitVec.ofInt 64 x &&& BitVec.ofInt 64 y := by
 show BitVec.ofInt 64 (IntKind.i64.wrap ((BitVec.ofInt 64 x &&& BitVec.ofInt 64 y).toNat : Int)) = _
 rw [Qie, BitVec.ofInt_toInt, Qdr]
theorem QsE (x y : Int) : BitVec.ofInt 64 (bor x y) = BitVec.ofInt 64 x ||| BitVec.ofInt 64 y := by
 show BitVec.ofInt 64 (IntKind.i64.wrap ((BitVec.ofInt 64 x ||| BitVec.ofInt 64 y).toNat : Int)) = _
 rw [Qie, BitVec.ofInt_toInt, Qdr]
theorem QrF (x y : Int) : BitVec.ofInt 64 (QgI x y) = BitVec.ofInt 64 x &&& ~~~ BitVec.ofInt 64 y := by
 show BitVec.ofInt 64 (IntKind.i64.wrap ((BitVec.ofInt 64 x &&& ~~~ BitVec.ofInt 64 y).toNat : Int)) = _
 rw [Qie, BitVec.ofInt_toInt, Qdr]
theorem Qot {x : Int} (h : I64 x) : IntKind.i64.wrap x = x := Qr h.1 h.2
theorem Qpr {x : Int} (h : I64 x) : (BitVec.ofInt 64 x).toInt = x := by rw [<- Qie, Qot h]
theorem Qqr (x y : Int) : I64 (Qc3 x y) := Qgi _
theorem QrL (x y : Int) : I64 (bor x y) := Qgi _
def tb (x : Int) (i : Nat) : Bool := (BitVec.ofInt 64 x).getLsbD i
theorem Qsd (x y : Int) (i : Nat) : tb (Qc3 x y) i = (tb x i && tb y i) := by rw [tb, QrE, BitVec.getLsbD_and]; rfl
theorem QsU (x y : Int) (i : Nat) : tb (bor x y) i = (tb x i || tb y i) := by rw [tb, QsE, BitVec.getLsbD_or]; rfl
theorem QpQ (x y : Int) {i : Nat} : tb (QgI x y) i = (tb x i && !tb y i) := by
 rw [tb, QrF, BitVec.getLsbD_and, BitVec.getLsbD_not]
 by_cases h : i < 64
 ·simp [h, tb]
 ·simp [tb, BitVec.getLsbD_of_ge _ i (by omega : 64 <= i)]
theorem QnM (x : Int) {i : Nat} (h : 64 <= i) : tb x i = false := BitVec.getLsbD_of_ge _ i h
theorem QpP {x y : Int} (hx : I64 x) (hy : I64 y) (h : ∀ i, tb x i = tb y i) : x = y := by
 rw [<- Qpr hx, <- Qpr hy]
 congr 1
 exact BitVec.eq_of_getLsbD_eq fun i _ => h i
theorem QnN (i : Nat) : tb 0 i = false := by
 show (BitVec.ofInt 64 0).getLsbD i = false
 rw [show BitVec.ofInt 64 0 = 0#64 from rfl, BitVec.getLsbD_zero]
theorem Qj0 {x : Int} (hx : I64 x) : x = 0 ↔ ∀ i, tb x i = false := by
 constructor
 ·rintro rfl i; exact QnN i
 ·intro h; exact QpP hx ⟨by omega, by omega⟩ fun i => by rw [h i, QnN]
theorem Qlp (n : Nat) {i : Nat} (h : i < 64) : tb (n : Int) i = n.testBit i := by
 rw [tb, BitVec.ofInt_natCast, BitVec.getLsbD_ofNat]; simp [h]
theorem Qhc {k : Nat} (hk : k < 64) (i : Nat) : tb ((2 : Int) ^ k) i = decide (i = k) := by
 have e : ((2 ^ k : Nat) : Int) = (2 : Int) ^ k := by simp
 by_cases h : i < 64
 ·rw [<- e, Qlp _ h, Nat.testBit_two_pow]
  exact decide_eq_decide.2 eq_comm
 ·rw [QnM _ (by omega)]; exact (decide_eq_false (by omega)).symm
theorem Qn7 {x m : Int} : Qc3 x m = 0 ↔ ∀ i, tb x i = true -> tb m i = false := by
 rw [Qj0 (Qqr x m)]
 refine forall_congr' fun i => ?_
 rw [Qsd]; cases tb x i <;> cases tb m i <;> simp
def Lo (x : Int) : Prop := 0 <= x /\ x < 131072
theorem Qhq {x : Int} {k : Nat} (hk : k < 64) : Qc3 x (2 ^ k) = 0 ↔ tb x k = false := by
 rw [Qn7]
 constructor
 ·intro h
  cases hx : tb x k
  ·rfl
  ·have := h k hx; rw [Qhc hk] at this; simp at this
 ·intro h i hi
  rw [Qhc hk]
  by_cases e : i = k
  ·subst e; rw [h] at hi; cases hi
  ·exact decide_eq_false e
end M25
namespace M25
open Go Go.Abs M3
/-! ### Trails: the loops' laws -/
theorem QmL {w : QF} {u : Int} : Qa7 w u = 0 ↔ inW w u = false := by
 constructor
 ·intro h
  cases hw : inW w u
  ·rfl
  ·rw [QfM] at hw
   rw [QhQ hw.1 hw.2] at h
   have h2 : 2 <= (2 : Int) ^ (min (w[u.toNat]'(by omega)).cs.length 16 + 1) := by
    rw [Int.pow_succ]
    have := QsQ (n := min (w[u.toNat]'(by omega)).cs.length 16) (by omega)
    omega
   omega
 ·intro h
  refine Qi5 (Classical.byContradiction fun hn => ?_)
  rw [QrP (by omega) (by omega)] at h; cases h
def Qro (w : QF) (l : List Qbv) : Prop := ∀ s ∈ l, Lo s.m
end M25
namespace M25
open Go Go.Abs M3
def QlX : List QjH -> Int -> Int
 | [], n => n
 | u :: r, n => if n < 1000000 then QlX r (n * ((u.cs.length : Int) + 1)) else n
def X6 (w : QF) : Int := QlX w 1
theorem QsT {w : QF} {i : Nat} {n : Int} (h : i < w.length) (hn : n < 1000000) : QlX (w.drop i) n = QlX (w.drop (i + 1)) (n * ((w[i].cs.length : Int) + 1)) := by
 rw [Qu9 h, QlX, if_pos hn]
theorem Qsc {w : QF} {i : Nat} {n : Int} (h : w.length <= i) : QlX (w.drop i) n = n := by rw [Qvd h, QlX]
theorem Qsb {w : QF} {i : Nat} {n : Int} (hn : ¬ n < 1000000) : QlX (w.drop i) n = n := by
 cases h : w.drop i with
 | nil => rfl
 | cons u r => rw [QlX, if_neg hn]
theorem Qpg {n : Int} {k : Nat} (h0 : 1 <= n) (h1 : n < 1000000) (hk : k <= 16) : 1 <= n * ((k : Int) + 1) /\ n * ((k : Int) + 1) <= 17000000 := by
 obtain ⟨m, rfl⟩ := Int.eq_ofNat_of_zero_le (show 0 <= n by omega)
 have h2 : m * (k + 1) <= 1000000 * 17 := Nat.mul_le_mul (by omega) (by omega)
 have h3 : 1 * 1 <= m * (k + 1) := Nat.mul_le_mul (by omega) (by omega)
 have e : (m : Int) * ((k : Int) + 1) = ((m * (k + 1) : Nat) : Int) := by simp
 rw [e]; omega
def chN (w : QF) (n : Int) : Nat -> Int
 | 0 => n
 | i + 1 => match w[i]? with
  | some u => (chN w n i).tdiv ((u.cs.length : Int) + 1)
  | none => chN w n i
def chL (w : QF) (n : Int) : Nat -> List Int
 | 0 => []
 | i + 1 => match w[i]? with
  | some u => chL w n i ++ [(chN w n i).tmod ((u.cs.length : Int) + 1) - 1]
  | none => chL w n i
def Ym (w : QF) (n : Int) : List Int := chL w n w.length
theorem QrH {w : QF} {n : Int} {i : Nat} (h : i < w.length) : chN w n (i + 1) = (chN w n i).tdiv ((w[i].cs.length : Int) + 1) := by rw [chN, List.getElem?_eq_getElem h]
theorem Qmn {w : QF} {n : Int} {i : Nat} (h : i < w.length) : chL w n (i + 1) = chL w n i ++ [(chN w n i).tmod ((w[i].cs.length : Int) + 1) - 1] := by rw [chL, List.getElem?_eq_getElem h]
theorem QnO {a : Int} {k : Nat} (h0 : 0 <= a) : 0 <= a.tdiv ((k : Int) + 1) /\ a.tdiv ((k : Int) + 1) <= a := by
 obtain ⟨m, rfl⟩ := Int.eq_ofNat_of_zero_le h0
 have : ((m : Int)).tdiv ((k : Int) + 1) = ((m / (k + 1) : Nat) : Int) := by
  rw [show (k : Int) + 1 = ((k + 1 : Nat) : Int) by simp, Int.ofNat_tdiv]
 rw [this]
 have := Nat.div_le_self m (k + 1)
 exact ⟨Int.natCast_nonneg _, Int.ofNat_le.2 this⟩
theorem Qmo {w : QF} {n : Int} (h0 : 0 <= n) : ∀ i, 0 <= chN w n i /\ chN w n i <= n
 | 0 => ⟨h0, Int.le_refl _⟩
 | i + 1 => by
  obtain ⟨h1, h2⟩ := Qmo (w := w) h0 i
  rw [chN]
  split
  ·rename_i u _
   have := QnO (k := u.cs.length) h1
   omega
  ·exact ⟨h1, h2⟩
theorem Qml (w : QF) (n : Int) : ∀ i, (chL w n i).length <= i
 | 0 => Nat.le_refl _
 | i + 1 => by
  have := Qml w n i
  rw [chL]; split <;> simp <;> omega
theorem Qq5 {a : Int} {k : Nat} (hk : k <= 16) : IntKind.i64.wrap (a.tmod ((k : Int) + 1) - 1) = a.tmod ((k : Int) + 1) - 1 := by
 have h1 := Int.lt_tmod_of_pos a (show (0 : Int) < (k : Int) + 1 by omega)
 have h2 := Int.tmod_lt_of_pos a (show (0 : Int) < (k : Int) + 1 by omega)
 exact Qr (by omega) (by omega)
theorem Qq4 {a : Int} {k : Nat} (h0 : 0 <= a) (h1 : a <= 9223372036854775807) : IntKind.i64.wrap (a.tdiv ((k : Int) + 1)) = a.tdiv ((k : Int) + 1) := by
 have := QnO (k := k) h0
 exact Qr (by omega) (by omega)
theorem Qem {v : Int} (h : (v + 1).toNat <= 61) : IntKind.i64.wrap ((1 : Int) * 2 ^ min (v + 1).toNat IntKind.i64.bits) = 2 ^ (v + 1).toNat := by
 rw [show min (v + 1).toNat IntKind.i64.bits = (v + 1).toNat from by simp only [IntKind.bits]; omega, Int.one_mul]
 have := Qns (i := (v + 1).toNat) (by omega)
 exact Qr (by omega) (by omega)
end M25
namespace Go.Proofs
open Go Go.Abs M3 M25
theorem Qdd {w : QF} (hw : WSm w) : Ok Tryz.prog 14 [XC w] (.int .i64 (X6 w)) := by
 refine Ok.ofT Z6 Tryz.func14 QtW (QuS Z) ?_
 show TW _ _ tf14.body _ _
 have hn := hw.len
 refine Qe fun K hK => ZI Z Z Z (Qb Z (hK _ _ (Qa (kp1 Z) ?_)))
 refine Qe fun K hK => Qb Z (hK _ _ (Qa (kp2 Z Z) ?_))
 refine QG ?_ -- 0
 refine Qe fun K hK => Qb Z (hK _ _ (Qa (kp3 Z Z Z) ?_))
 refine QH ?_
 refine ZH (ι := Nat × Int) (fun ⟨i, n⟩ => ⟨[(1, .ref 1 0 0), (3, .int .i64 n), (4, .int .i64 i)], [(1, ⟨[[.sl ((w).map Xf)]], 1, 26, true⟩)]⟩) (fun ⟨i, n⟩ => i <= w.length /\ 1 <= n /\ X6 w = QlX (w.drop i) n) (fun ⟨i, n⟩ => w.length - i) (0, 1) ?_ ?_ ?_
 ·exact Q6 (l := [1, 3, 4]) (lH := [1]) (kp3 rfl rfl rfl) (Qg rfl Qp) rfl rfl rfl
 ·exact ⟨Qu4 _, Int.le_refl _, rfl⟩
 intro ⟨i, n⟩ hI
 obtain ⟨hI1, hI2, hI3⟩ := hI
 try dsimp only at hI1 hI2 hI3
 try dsimp only
 refine QG ?_ -- 1
 refine Qe fun K hK => Qb Z (Qi Z Z (QC Z Z Z ?_))
 first | refine Q4 rfl Za ?_ | refine Q4 rfl rfl ?_
 refine Yk Z Z (Qb Z ?_)
 refine Qz (g := 10) Z (fun h1 => ?_) (fun h1 => ?_)
 ·try rw [h1]
  try simp only [qA] at h1
  refine Qf Z (Qb Z (Qf Z (Yk Z Z (Qj Z Z (hK _ _ (Qa (kp4 Z Z Z Z) ?_))))))
  refine Qw Z (fun h2 => ?_) (fun h2 => ?_)
  ·try rw [h2]
   try simp only [qA] at h2
   refine Qu (Qd (kp3 Z Z Z) ?_)
   refine QG ?_ -- 2
   refine QH (QR fun K hK => Qb Z (Qi Z Z (QC Z Z Z (Qb Z (QP Z Z Z (by omega) (Zj (by omega)) Z (ZA Z Z (QC Z Z Z ?_)))))))
   first | refine Q4 rfl Za ?_ | refine Q4 rfl rfl ?_
   refine Q8 Z Z (Qr (by have := hw.csLen (show i < w.length by omega); omega) (by have := hw.csLen (show i < w.length by omega); omega)) (Ql6 Z Z (Qr (by have := Qpg hI2 h2 (hw.csLen (show i < w.length by omega)); omega) (by have := Qpg hI2 h2 (hw.csLen (show i < w.length by omega)); omega)) (Qb Z (hK _ ?_)))
   refine Qh (Qd (kp3 Z Z Z) (QR fun K hK => Qb Z (Q8 Z Z (by first | exact Qr (by omega) (by omega) | rfl) (Qb Z (hK _ ?_)))))
   refine Ql (i + 1, n * (((w[i]'(by omega)).cs.length : Int) + 1)) ?_ ?_ ?_
   ·exact Q6 (l := [1, 3, 4]) (lH := [1]) (kp3 rfl rfl rfl) (Qg rfl Qp) rfl rfl rfl
   ·exact ⟨by omega, (Qpg hI2 h2 (hw.csLen (by omega))).1, by rw [hI3, QsT (by omega) h2]⟩
   ·show w.length - (i + 1) < w.length - i; omega
  ·try rw [h2]
   try simp only [qA] at h2
   refine Ze (QJ (Qy (QI (Qd (kp1 Z) (Qe fun K hK => Qb Z (Qb Z (hK _ _ (Qa (kp1 Z) ?_))))))))
   refine Qt (Qx Z ?_)
   rw [hI3, Qsb (by omega)]
 ·try rw [h1]
  try simp only [qA] at h1
  refine Qs Z (Qs Z (Qj Z Z (hK _ _ (Qa (kp4 Z Z Z Z) ?_))))
  refine Zs Z (Ze (QJ (Qy (QI (Qd (kp1 Z) (Qe fun K hK => Qb Z (Qb Z (hK _ _ (Qa (kp1 Z) ?_)))))))))
  refine Qt (Qx Z ?_)
  rw [hI3, Qsc (by omega)]
theorem Qb9 {w : QF} (hw : WSm w) {n : Int} (h0n : 0 <= n) (h1n : n <= 9223372036854775807) : Ok Tryz.prog 12 [XC w, .int .i64 n] (QZ (Ym w n)) := by
 refine Ok.ofT Z6 Tryz.func12 QtU (QuS Z) ?_
 show TW _ _ tf12.body _ _
 have hn := hw.len
 refine Qe fun K hK => ZI Z Z Z (Qb Z (hK _ _ (Qa (kp2 Z Z) ?_)))
 refine Qe fun K hK => Qb Z (hK _ _ (Qa (kp3 Z Z Z) ?_))
 refine QG ?_ -- 0
 refine Qe fun K hK => Qb Z (hK _ _ (Qa (kp4 Z Z Z Z) ?_))
 refine QH ?_
 refine ZH (ι := Nat) (fun i => ⟨[(1, .int .i64 (chN w n i)), (2, .ref 2 0 0), (5, .osl 5 (chL w n i).length), (6, .int .i64 i)], [(2, ⟨[[.sl ((w).map Xf)]], 1, 26, true⟩), (5, ⟨(chL w n i).map (fun x => [.int .i64 x]), 1, 3, true⟩)]⟩) (fun i => i <= w.length) (fun i => w.length - i) 0 ?_ ?_ ?_
 ·exact le_trans (YG 5 5 1 3 rfl rfl) (Q6 (l := [1, 2, 5, 6]) (lH := [2, 5]) (kp4 rfl rfl rfl rfl) (Qg rfl (Qg rfl Qp)) rfl rfl rfl)
 ·exact Qu4 _
 intro i hI
 have hlen := Qml w n i
 have hbd := Qmo (w := w) h0n i
 try dsimp only
 refine QG ?_ -- 1
 refine Qe fun K hK => Qb Z (Qi Z Z (QC Z Z Z ?_))
 first | refine Q4 rfl Za ?_ | refine Q4 rfl rfl ?_
 refine Yk Z Z (hK _ _ (Qa (kp5 Z Z Z Z Z) ?_))
 refine Qw Z (fun h1 => ?_) (fun h1 => ?_)
 ·try rw [h1]
  try simp only [qA] at h1
  refine Qu (Qd (kp4 Z Z Z Z) ?_)
  refine QG ?_ -- 2
  refine QH (Qe fun K hK => Qi Z Z (QC Z Z Z (Qb Z (QP Z Z Z (by omega) (Zj (by omega)) Z (ZA Z Z (QC Z Z Z ?_))))))
  first | refine Q4 rfl Za ?_ | refine Q4 rfl rfl ?_
  refine Q8 Z Z (Qr (by omega) (by have := hw.csLen (show i < w.length by omega); omega)) (Qb Z (hK _ _ (Qa (kp5 Z Z Z Z Z) ?_)))
  refine Qe fun K hK => Qb Z (Qb Z (Qb Z (QjG Z Z (by omega) (QdB Z Z (Qq5 (hw.csLen (by omega))) (QM Z Z (X8 Z Z (fun _ h => XK Z Z Z h) Z (by simp) Z Z Z (by simp; omega) (by simp; omega) (Qb Z (hK _ _ (Qa (kp5 Z Z Z Z Z) ?_)))))))))
  refine QR fun K hK => Qb Z (Qb Z (Qsx Z Z (by omega) (Qq4 hbd.1 (by omega)) (Qb Z (hK _ ?_))))
  refine Qh (Qd (kp4 Z Z Z Z) (QR fun K hK => Qb Z (Q8 Z Z (by first | exact Qr (by omega) (by omega) | rfl) (Qb Z (hK _ ?_)))))
  refine Ql (i + 1) ?_ ?_ ?_
  ·exact Q6 (l := [1, 2, 5, 6]) (lH := [2, 5]) (kp4 rfl rfl rfl rfl) (Qg rfl (Qg rfl Qp)) (by rw [Qmn (by omega), QrH (by omega), List.length_append]; rfl) (by rw [Qmn (by omega), List.map_append]; rfl) rfl
  ·omega
  ·first | omega | (simp only; omega) | (dsimp only; omega)
 ·try rw [h1]
  try simp only [qA] at h1
  refine Ze (QJ (Qy (QI (Qd (kp1 Z) (Qe fun K hK => Qb Z (Qb Z (hK _ _ (Qa (kp1 Z) ?_))))))))
  refine Qt ?_
  exact Qfg rfl rfl rfl (by simp) (by rw [Ym, show w.length = i by omega]; rfl)
theorem QcD {v : Int} (h0 : -1 <= v) (h1v : v <= 60) : Ok Tryz.prog 71 [.int .i64 v] (.int .i64 (2 ^ (v + 1).toNat)) := by
 refine Ok.ofT Z6 Tryz.func71 Quu (QuS Z) ?_
 show TW _ _ tf71.body _ _
 refine Qe fun K hK => Qb Z (hK _ _ (Qa (kp1 Z) ?_))
 refine Qe fun K hK => Qb Z (Q8 Z Z (by first | exact Qr (by omega) (by omega) | rfl) (Qn3 Z Z (by omega) (Qem (by omega)) (Qb Z (hK _ _ (Qa (kp1 Z) ?_)))))
 refine Qt (Qx Z ?_)
 rfl
theorem QgK {w : QF} (hw : WSm w) {u : Int} : Ok Tryz.prog 70 [XC w, .int .i64 u] (.bool (inW w u)) := by
 refine Ok.ofT Z6 Tryz.func70 Qut (QuS Z) ?_
 show TW _ _ tf70.body _ _
 refine Qe fun K hK => ZI Z Z Z (Qb Z (hK _ _ (Qa (kp2 Z Z) ?_)))
 refine Qe fun K hK => Qb Z (Qhj Z Z (Qb Z ?_))
 refine Qz (g := 7) Z (fun h1 => ?_) (fun h1 => ?_)
 ·try rw [h1]
  try simp only [qA] at h1
  refine Qf Z (Qb Z (Qf Z (Qi Z Z (Qf Z (QC Z Z Z (Qf Z ?_))))))
  first | refine Q4 rfl Za ?_ | refine Q4 rfl rfl ?_
  refine Qf Z (Yk Z Z (Qj Z Z (Qb Z (hK _ _ (Qa (kp1 Z) ?_)))))
  refine Qt (Qn Z ?_)
  first | rfl | (rw [QmX (by omega)]; done) | (rw [inW, decide_eq_true h1, Bool.true_and])
 ·try rw [h1]
  try simp only [qA] at h1
  refine Qs Z (Qs Z (Qs Z (Qs Z (Qs Z (Qj Z Z (Qb Z (hK _ _ (Qa (kp1 Z) ?_))))))))
  refine Qt (Qn Z ?_)
  first | rfl | (rw [QmX (by omega)]; done) | (rw [inW, decide_eq_true h1, Bool.true_and])
theorem Qfw {w : QF} (hw : WSm w) {u : Int} : Ok Tryz.prog 41 [XC w, .int .i64 u] (.int .i64 (Qa7 w u)) := by
 refine Ok.ofT Z6 Tryz.func41 Qua (QuS Z) ?_
 show TW _ _ tf41.body _ _
 refine Qe fun K hK => ZI Z Z Z (Qb Z (hK _ _ (Qa (kp2 Z Z) ?_)))
 refine QG ?_ -- 0
 refine Qe fun K hK => QD (cs := [_]) Z Z Z Z (Qb Z (QA (QgK hw) Z Z (.inr Z) (ZW Z (hK _ _ (Qa (kp3 Z Z Z) ?_)))))
 refine Qw Z (fun h1 => ?_) (fun h1 => ?_)
 ·try rw [h1]
  try simp only [qA] at h1
  try have h1b := QfM.1 h1
  refine Qe fun K hK => Qb Z (hK _ _ (Qa (kp1 Z) ?_))
  refine Qt (Qk (Qx Z ?_))
  rw [QmL.2 h1]
 ·try rw [h1]
  try simp only [qA] at h1
  try have h1b := QfM.1 h1
  refine Qu (Qd (kp2 Z Z) (Qe fun K hK => Qi Z Z (QC Z Z Z (Qb Z (QP Z Z Z (by omega) (Ye (by omega) (by omega)) Z (ZA Z Z (QC Z Z Z ?_)))))))
  first | refine Q4 rfl Za ?_ | refine Q4 rfl rfl ?_
  refine QA (QcD (by omega) (by have := hw.cs _ (QuX (show u.toNat < w.length by omega)); omega)) Z Z (.inr Z) (QdB Z Z (QnU (by have := hw.cs _ (QuX (show u.toNat < w.length by omega)); omega)) (Qb Z (hK _ _ (Qa (kp1 Z) ?_))))
  refine Qt (Qx Z ?_)
  rw [QhQ h1b.1 h1b.2, show min (w[u.toNat]'(by omega)).cs.length 16 = (w[u.toNat]'(by omega)).cs.length from Nat.min_eq_left (hw.cs _ (QuX _)), Qsh]
end Go.Proofs
namespace M25
open Go Go.Abs M3
/-! ### prop: what is left of each unit, scans -/
structure Qrm (w : QF) (db : List (List TermT)) (l : List Qbv) (a : Nat) (k : Nat) : Prop where
  ha : a < db.length
  hk : k < db[a].length
  eq : QsN w db l = ((a : Int), db[a][k].u)
  one : Qjc (Qgy w l db[a][k].u) db[a][k].m = 1
  two : ∀ j, ∀ hj : j < db[a].length, j ≠ k -> Qjc (Qgy w l db[a][j].u) db[a][j].m = 2
def QtM (w : QF) (l : List Qbv) (t : TermT) (c : Int) : Qbv := ⟨t.u, QgI (Qgy w l t.u) t.m, QrV l, c⟩
end M25
namespace M25
open Go Go.Abs M3
/-! ### Sets that are made: moderate sizes -/
theorem Qos (l : List (Cu × Cu)) (x y : Cu) : (Qcn l x y).length <= l.length + 1 := Qi7 l x y
theorem QhA (f : Cu -> Cu -> Bool) : ∀ (c : List Cu) (out : List (Cu × Cu)), (∀ x ∈ c, Cu.sm x) -> (∀ s ∈ out, Cu.sm s.1 /\ Cu.sm s.2) -> (Qcm f c out).length <= out.length + c.length /\ ∀ s ∈ Qcm f c out, Cu.sm s.1 /\ Cu.sm s.2
 | [], out, _, h => ⟨by simp [Qcm], by simpa [Qcm] using h⟩
 | [x], out, _, h => ⟨by simp [Qcm], by simpa [Qcm] using h⟩
 | x :: y :: r, out, hc, h => by
  rw [Qcm]
  have hxy := Qos out x y
  split
  ·obtain ⟨h1, h2⟩ := QhA f (y :: r) (Qcn out x y) (fun z hz => hc z (by simp at hz ⊢; exact .inr hz)) (Qk4 h (hc x (by simp)) (hc y (by simp)))
   exact ⟨by simp only [List.length_cons] at h1 ⊢; omega, h2⟩
  ·obtain ⟨h1, h2⟩ := QhA f (y :: r) out (fun z hz => hc z (by simp at hz ⊢; exact .inr hz)) h
   exact ⟨by simp only [List.length_cons] at h1 ⊢; omega, h2⟩
def SmN (n : Nat) (l : List (Cu × Cu)) : Prop := l.length <= n /\ ∀ s ∈ l, Cu.sm s.1 /\ Cu.sm s.2
theorem SmN.sm {n : Nat} {l : List (Cu × Cu)} (h : SmN n l) (hn : n <= 1000000) : Sm l := ⟨Qvb h.1 hn, h.2⟩
theorem SmN.up {n m : Nat} {l : List (Cu × Cu)} (h : SmN n l) (hn : n <= m) : SmN m l := ⟨Qvb h.1 hn, h.2⟩
theorem SmN.nil (n : Nat) : SmN n [] := ⟨Qu4 _, by simp⟩
theorem QpG {a b : List (Cu × Cu)} {n m : Nat} (ha : SmN n a) (hb : SmN m b) (h : n + m <= 1000000) : SmN (2 + 2 * (n + m)) (QpC a b) := by
 unfold QpC
 split
 ·have hab : Sm (a ++ b) := (ha.sm (by omega)).app (hb.sm (by omega)) (by have := ha.1; have := hb.1; omega)
  unfold Qj7
  split
  ·obtain ⟨h1, h2⟩ := QhA (mIn (a ++ b)) (Y5 (a ++ b)) [] (YI hab) (by simp)
   have := Qcl (a ++ b)
   have := ha.1
   have := hb.1
   exact ⟨by simp only [List.length_nil, List.length_append] at *; omega, h2⟩
  ·exact SmN.nil _
 ·exact SmN.nil _
theorem Qnf {a : List (Cu × Cu)} {n : Nat} (ha : SmN n a) (h : n <= 1000000) : SmN (2 + 2 * n) (Qj8 a) := by
 unfold Qj8
 split
 ·obtain ⟨h1, h2⟩ := QhA (fun x y => !mIn a x y) (Y5 a) [] (YI (ha.sm h)) (by simp)
  have := Qcl a
  have := ha.1
  exact ⟨by simp only [List.length_nil] at *; omega, h2⟩
 ·exact SmN.nil _
def QlB (n : Nat) (s : Qfn) : Prop := SmN n s.1 /\ SmN n s.2
theorem Qr2 {a b : Qfn} {n m : Nat} (ha : QlB n a) (hb : QlB m b) (h : n + m <= 1000000) : QlB (2 + 2 * (n + m)) (QpD a b) := by
 unfold QpD
 split
 ·exact ⟨QpG ha.1 hb.1 h, QpG ha.2 hb.2 h⟩
 ·exact ⟨SmN.nil _, SmN.nil _⟩
theorem Qng {a : Qfn} {n : Nat} (ha : QlB n a) (h : n <= 1000000) : QlB (2 + 2 * n) (QhT a) := by
 unfold QhT
 split
 ·exact ⟨Qnf ha.1 h, Qnf ha.2 h⟩
 ·exact ⟨SmN.nil _, SmN.nil _⟩
theorem QcT (e a b c : Int) (f : Bool) : Cu.sm ⟨e, a, b, c, [], [], f⟩ := ⟨Qu4 _, Qu4 _⟩
theorem QcJ {a b c : Int} {p q : List UInt8} (hp : p.length <= 1000000) : QlB 1 (Xs a b c p q) := by
 unfold Xs
 split
 ·exact ⟨SmN.nil _, SmN.nil _⟩
 ·split
  ·refine ⟨SmN.nil _, ⟨Nat.le_refl _, fun s hs => ?_⟩⟩
   simp only [Qu1] at hs; subst hs
   exact ⟨⟨hp, Qu4 _⟩, ⟨hp, Qu4 _⟩⟩
  ·refine ⟨⟨Nat.le_refl _, fun s hs => ?_⟩, SmN.nil _⟩
   simp only [Qu1] at hs; subst hs
   constructor
   ·unfold QfX; split
    ·exact QcT ..
    ·exact QcT ..
   ·unfold Qd3; split
    ·exact QcT ..
    ·exact QcT ..
def Qgo : Qfn := ([(Qc5, Qgw)], [(Qc5, Qgw)])
theorem Qkz : QlB 1 Qgo := by
 have h : SmN 1 [(Qc5, Qgw)] := ⟨Nat.le_refl _, fun s hs => by simp only [Qu1] at hs; subst hs; exact ⟨QcT .., QcT ..⟩⟩
 exact ⟨h, h⟩
def bnd (i : Nat) : Nat := 4 * 2 ^ i
theorem Qpq {i : Nat} (h : i <= 16) : bnd i <= 262144 := by
 have : 2 ^ i <= 2 ^ 16 := Nat.pow_le_pow_right (by omega) h
 have e : (2 : Nat) ^ 16 = 65536 := by decide
 unfold bnd; omega
theorem Qr8 {s : Qfn} {i : Nat} (h : QlB (bnd i - 4) s) {a b c : Int} {p q : List UInt8} (hp : p.length <= 1000000) (hi : i <= 16) : QlB (bnd (i + 1) - 4) (QpD s (Xs a b c p q)) := by
 have h1 := Qpq hi
 have h4 : 4 <= bnd i := by unfold bnd; have := Nat.one_le_two_pow (n := i); omega
 have := Qr2 h (QcJ (a := a) (b := b) (c := c) (q := q) hp) (by omega)
 have e : bnd (i + 1) = 2 * bnd i := by unfold bnd; rw [Nat.pow_succ]; omega
 exact ⟨this.1.up (by omega), this.2.up (by omega)⟩
theorem Qpb {s : Qfn} {i : Nat} (h : QlB (bnd i - 4) s) : QlB (bnd (i + 1) - 4) s := by
 have e : bnd (i + 1) = 2 * bnd i := by unfold bnd; rw [Nat.pow_succ]; omega
 exact ⟨h.1.up (by omega), h.2.up (by omega)⟩
def SetOk (s : Qfn) : Prop := QlB 600000 s
theorem SetOk.sm {s : Qfn} (h : SetOk s) : Sm s.1 /\ Sm s.2 := ⟨h.1.sm (by omega), h.2.sm (by omega)⟩
structure CR where
 v : Vr
 x : D
 y : D
 z : D
def dCR (r : CR) : List D := [.int .i64 r.v.a, .int .i64 r.v.b, .int .i64 r.v.c, .str r.v.p, .str r.v.q, r.x, r.y, r.z]
def CR.ren (r : CR) : CR := ⟨r.v, r.x.renS upN, r.y.renS upN, r.z.renS upN⟩
theorem Qmr (l : List CR) : (l.map dCR).map (fun r => r.map (D.renS upN)) = (l.map CR.ren).map dCR := by
 rw [List.map_map, List.map_map]; rfl
structure UR where
 n : List UInt8
 f : List UInt8
 k : Nat
 cs : List CR
def dUR (u : UR) : List D := [.str u.n, .str u.f, .osl u.k u.cs.length]
def UR.ren (u : UR) : UR := ⟨u.n, u.f, upN u.k, u.cs.map CR.ren⟩
theorem Qql (l : List UR) : (l.map dUR).map (fun r => r.map (D.renS upN)) = (l.map UR.ren).map dUR := by
 rw [List.map_map, List.map_map]
 refine List.map_congr_left fun u _ => ?_
 simp [dUR, UR.ren, D.renS]
structure Fam (H : List (Nat × Box)) (kg ku eu ec : Nat) (us : List UR) : Prop where
 ne : ku ≠ kg
 u : ∃ pr, lk H ku = some ⟨us.map dUR, 3, eu, pr⟩
 c : ∀ y ∈ us, y.k ≠ kg /\ ∃ pr, lk H y.k = some ⟨y.cs.map dCR, 8, ec, pr⟩
 v : ∀ y ∈ us, y.cs.length <= 16 /\ ∀ z ∈ y.cs, Qgj z.v
theorem Fam.up {H : List (Nat × Box)} {kg ku eu ec : Nat} {us : List UR} (h : Fam H kg ku eu ec us) : Fam (upH H) (upN kg) (upN ku) eu ec (us.map UR.ren) := by
 obtain ⟨h1, ⟨pu, h2⟩, h3, h4⟩ := h
 refine ⟨fun e => h1 (Qia e), ⟨pu, ?_⟩, fun y hy => ?_, fun y hy => ?_⟩
 ·rw [QaU, h2, Option.map_some, Box.ren, Qql]
 ·obtain ⟨u, hu, rfl⟩ := Qu6.1 hy
  obtain ⟨q1, pr, q2⟩ := h3 u hu
  refine ⟨fun e => q1 (Qia e), pr, ?_⟩
  show lk (upH H) (upN u.k) = _
  rw [QaU, q2, Option.map_some, Box.ren, Qmr]; rfl
 ·obtain ⟨u, hu, rfl⟩ := Qu6.1 hy
  obtain ⟨q1, q2⟩ := h4 u hu
  refine ⟨by simpa [UR.ren] using q1, fun z hz => ?_⟩
  obtain ⟨z0, hz0, rfl⟩ := Qu6.1 hz
  exact q2 z0 hz0
theorem Fam.cons {H : List (Nat × Box)} {kg ku eu ec : Nat} {us : List UR} (h : Fam H kg ku eu ec us) {b : Box} : Fam ((kg, b) :: H) kg ku eu ec us := by
 obtain ⟨h1, ⟨pu, h2⟩, h3, h4⟩ := h
 exact ⟨h1, ⟨pu, Qo (Ne.symm h1) h2⟩, fun y hy => let ⟨q1, pr, q2⟩ := h3 y hy; ⟨q1, pr, Qo (Ne.symm q1) q2⟩, h4⟩
def WantIn (n : Nat) (x : WantT) : Prop := 1 <= x.u /\ x.u < n /\ SetOk x.s
def Qir (n : Nat) (r : List WantT) : Prop := r.length <= 2 /\ ∀ x ∈ r, WantIn n x
def Qfl (n : Nat) (m : Int) (ns : List (List WantT)) : Prop := (ns.length : Int) <= m /\ ∀ r ∈ ns, Qir n r
theorem QqP {n : Nat} {x : WantT} (h : WantIn n x) : Qir n [x] := ⟨by simp, by intro y hy; simp only [Qu1] at hy; subst hy; exact h⟩
theorem QqQ {n : Nat} {x y : WantT} (h : WantIn n x) (h' : WantIn n y) : Qir n [x, y] := ⟨by simp, by
 intro z hz
 simp only [QuU, QuT, or_false] at hz
 rcases hz with rfl | rfl
 ·exact h
 ·exact h'⟩
theorem QnC {n : Nat} {ns : List (List WantT)} {r : List WantT} (h : ∀ r ∈ ns, Qir n r) (hr : Qir n r) : ∀ x ∈ ns ++ [r], Qir n x := fun x hx => by
 rcases Qu3.1 hx with hx | hx
 ·exact h x hx
 ·simp only [Qu1] at hx; subst hx; exact hr
end M25
namespace M25
open Go Go.Abs M3
/-! ### The boxes of a world under way -/
def fbx (ec : Nat) (us : List UR) : List (Nat × Box) := us.map fun u => (u.k, ⟨u.cs.map dCR, 8, ec, true⟩)
def Yl (us : List UR) : Prop := ∀ j, ∀ h : j < us.length, us[j].k = 500001 + j
theorem Qi0 {us : List UR} {u : UR} (h : Yl us) (hu : u.k = 500001 + us.length) : Yl (us ++ [u]) := fun j hj => by
 rw [List.length_append, List.length_singleton] at hj
 by_cases e : j < us.length
 ·rw [List.getElem_append_left e]; exact h j e
 ·have : j = us.length := by omega
  subst this
  rw [List.getElem_append_right (Nat.le_refl _)]; simpa using hu
theorem QfE (ec : Nat) (us : List UR) : Qn0 (fbx ec us) := fun p hp => by
 obtain ⟨u, _, rfl⟩ := Qu6.1 hp; rfl
theorem Qg0 {ec : Nat} : ∀ {us : List UR} {k : Nat} {b : Box}, lk (fbx ec us) k = some b -> ∃ u ∈ us, k = u.k /\ b = ⟨u.cs.map dCR, 8, ec, true⟩
 | [], _, _, h => by cases h
 | u :: us, k, b, h => by
  simp only [fbx, List.map_cons] at h
  rw [Qm] at h
  split at h
  ·rename_i e; cases h; exact ⟨u, by simp, e.symm, rfl⟩
  ·obtain ⟨v, hv, q⟩ := Qg0 (us := us) h
   exact ⟨v, by simp [hv], q⟩
theorem QbG {us : List UR} (h : Yl us) {u : UR} (hu : u ∈ us) : 500001 <= u.k /\ u.k < 500001 + us.length := by
 obtain ⟨j, hj, rfl⟩ := Qve hu
 have := h j hj
 omega
theorem Qhy {ec : Nat} {us : List UR} (h : Yl us) : QtF 500001 (fbx ec us) := fun k b hk => by
 obtain ⟨u, hu, rfl, _⟩ := Qg0 hk
 exact (QbG h hu).1
theorem Y3 {ec : Nat} {us : List UR} (h : Yl us) {k : Nat} (hk : k < 500001 \/ 500001 + us.length <= k) : lk (fbx ec us) k = none := by
 cases hh : lk (fbx ec us) k with
 | none => rfl
 | some b =>
  obtain ⟨u, hu, rfl, _⟩ := Qg0 hh
  have := QbG h hu
  omega
theorem QmE {ec : Nat} : ∀ {us : List UR} {n : Nat}, (∀ j, ∀ h : j < us.length, us[j].k = n + j) -> ∀ j, ∀ h : j < us.length, lk (fbx ec us) (n + j) = some ⟨us[j].cs.map dCR, 8, ec, true⟩
 | [], _, _, j, hj => by simp at hj
 | u :: us, n, hk, 0, _ => by
  have := hk 0 (by simp)
  simp only [List.getElem_cons_zero, Nat.add_zero] at this
  simp only [fbx, List.map_cons, Nat.add_zero]
  rw [Qm, if_pos this]; rfl
 | u :: us, n, hk, j + 1, hj => by
  have h0 := hk 0 (by simp)
  simp only [List.getElem_cons_zero, Nat.add_zero] at h0
  simp only [fbx, List.map_cons]
  rw [Qm, if_neg (by omega)]
  have := QmE (ec := ec) (us := us) (n := n + 1) (fun i hi => by
   have := hk (i + 1) (by simpa using hi)
   simp only [List.getElem_cons_succ] at this
   omega) j (by simpa using hj)
  rw [show n + 1 + j = n + (j + 1) by omega] at this
  simp only [List.getElem_cons_succ]
  exact this
theorem QmD {ec : Nat} {us : List UR} (h : Yl us) {j : Nat} (hj : j < us.length) : lk (fbx ec us) (500001 + j) = some ⟨us[j].cs.map dCR, 8, ec, true⟩ := QmE h j hj
theorem QkL (ec : Nat) (us : List UR) (u : UR) : fbx ec (us ++ [u]) = fbx ec us ++ [(u.k, ⟨u.cs.map dCR, 8, ec, true⟩)] := by simp [fbx]
theorem Qol {ec : Nat} {us : List UR} (h : Yl us) {kg : Nat} {x y : Box} {u : UR} (hu : u.k = 500001 + us.length) (hkg : u.k ≠ kg) (k : Nat) :
  lk ((u.k, ⟨u.cs.map dCR, 8, ec, true⟩) :: (500000, x) :: (kg, y) :: fbx ec us) k = lk ((500000, x) :: (kg, y) :: fbx ec (us ++ [u])) k := by
 rw [QkL]
 by_cases e : u.k = k
 ·subst e
  rw [QB, Qm, if_neg (by omega), Qm, if_neg (Ne.symm hkg), Y4 (Y3 h (.inr (by omega))), QB]
 ·rw [Qm, if_neg e, Qm, Qm, Qm, Qm]
  split
  ·rfl
  ·split
   ·rfl
   ·rw [Z0]
    cases h2 : lk (fbx ec us) k with
    | some v => rfl
    | none => rw [Qm, if_neg e]; rfl
def zr (v : Vr) (sh : Int) : CR := ⟨v, .int .i64 sh, .fsl [], .fsl []⟩
def Qrk (u : UR) : Prop := u.cs.length <= 4 /\ ∀ z ∈ u.cs, ∃ v sh, z = zr v sh /\ Qgj v
theorem Qpw {u : UR} : (dUR u).flatMap D.sid = [u.k] := by simp [dUR, D.sid]
theorem QbS {us : List UR} {e et : Nat} {k : Nat} (h : k ∈ (Box.ids ⟨us.map dUR, e, et, false⟩)) : ∃ u ∈ us, k = u.k := by
 simp only [Box.ids, Qu0, if_false, QuZ, Qu6] at h
 obtain ⟨r, ⟨u, hu, rfl⟩, hk⟩ := h
 have : k ∈ (dUR u).flatMap D.sid := QuZ.2 hk
 rw [Qpw] at this
 exact ⟨u, hu, by simpa using this⟩
theorem Qq2 {us : List UR} (h : Yl us) : ∀ r ∈ us.map dUR, ∀ d ∈ r, 500000 ∉ d.sid := fun r hr d hd hk => by
 obtain ⟨u, hu, rfl⟩ := Qu6.1 hr
 have : 500000 ∈ (dUR u).flatMap D.sid := QuZ.2 ⟨d, hd, hk⟩
 rw [Qpw] at this
 have h2 := QbG h hu
 simp only [Qu1] at this
 omega
theorem Qhm {B F : List (Nat × Box)} {j : Nat} (h : (lk F j).isSome = true) : (lk (B ++ F) j).isSome = true := by
 rw [Z0]; split
 ·rfl
 ·exact h
theorem QdU {ec : Nat} {us : List UR} (h : Yl us) {u : UR} (hu : u ∈ us) : (lk (fbx ec us) u.k).isSome = true := by
 obtain ⟨j, hj, rfl⟩ := Qve hu
 rw [h j hj, QmD h hj]; rfl
theorem Qhz {ec : Nat} {us : List UR} {u : UR} (h : Yl us) (hu : u.k = 500001 + us.length) : lk (fbx ec (us ++ [u])) (500001 + us.length) = some ⟨u.cs.map dCR, 8, ec, true⟩ := by
 rw [QkL, Y4 (Y3 h (.inr (Nat.le_refl _))), <- hu, QB]
section
variable {l : List Nat} {fr fr1 fr' : List (Nat × D)} {B : List (Nat × Box)} {kg eg eu ec : Nat} {L : List Int} {J : Int} {us : List UR}
theorem QtI (hf : Zn l fr = fr1) (ef : fr1 = fr') (hK : Yl us) (hu : lk B 500000 = some ⟨us.map dUR, 3, eu, false⟩) (hg : lk B kg = some (gB L J eg)) (hB : ∀ p ∈ B, 500001 <= p.1 -> p.1 = kg) (hkg : kg ≠ 500000)
  (hfr : ∀ p ∈ fr', ∀ k ∈ p.2.ids, k = 500000 \/ k = kg \/ ∃ u ∈ us, k = u.k) : St.le ⟨fr, B ++ fbx ec us⟩ ⟨fr', [(500000, ⟨us.map dUR, 3, eu, false⟩), (kg, gB L J eg)] ++ fbx ec us⟩ := by
 have s0 : ∀ k, (k = 500000 \/ k = kg \/ ∃ u ∈ us, k = u.k) -> (lk ([(500000, (⟨us.map dUR, 3, eu, false⟩ : Box)), (kg, gB L J eg)] ++ fbx ec us) k).isSome = true := fun k hk => by
  rcases hk with rfl | rfl | ⟨u, hu, rfl⟩
  ·exact QY
  ·exact QV QY
  ·exact Qhm (QdU hK hu)
 refine Qj6 (N := 500001) hf ef (fun p hp => ?_) rfl (fun p hp j hj => s0 j ?_) (fun p hp h => ?_) (Qhy hK) (QfE ec us) (fun p hp k hk => s0 k (hfr p hp k hk))
 ·simp only [QuU, QuT, or_false] at hp
  rcases hp with rfl | rfl
  ·exact hu
  ·exact hg
 ·simp only [QuU, QuT, or_false] at hp
  rcases hp with rfl | rfl
  ·exact .inr (.inr (QbS hj))
  ·simp [Box.ids, gB] at hj
 ·rw [hB p hp h]; exact QV QY
theorem Qri {cs : List CR} (hf : Zn l fr = fr1) (ef : fr1 = fr') (hK : Yl us) (hc : lk B (500001 + us.length) = some ⟨cs.map dCR, 8, ec, true⟩) (hu : lk B 500000 = some ⟨us.map dUR, 3, eu, false⟩) (hg : lk B kg = some (gB L J eg)) (hB : ∀ p ∈ B, 500001 <= p.1 -> p.1 = kg \/ p.1 = 500001 + us.length)
  (hfr : ∀ p ∈ fr', ∀ k ∈ p.2.ids, k = 500000 \/ k = kg \/ k = 500001 + us.length \/ ∃ u ∈ us, k = u.k) : St.le ⟨fr, B ++ fbx ec us⟩ ⟨fr', [(500001 + us.length, ⟨cs.map dCR, 8, ec, true⟩), (500000, ⟨us.map dUR, 3, eu, false⟩), (kg, gB L J eg)] ++ fbx ec us⟩ := by
 have s0 : ∀ k, (k = 500000 \/ k = kg \/ k = 500001 + us.length \/ ∃ u ∈ us, k = u.k) -> (lk ([(500001 + us.length, (⟨cs.map dCR, 8, ec, true⟩ : Box)), (500000, (⟨us.map dUR, 3, eu, false⟩ : Box)), (kg, gB L J eg)] ++ fbx ec us) k).isSome = true := fun k hk => by
  rcases hk with rfl | rfl | rfl | ⟨u, hu, rfl⟩
  ·exact QV QY
  ·exact QV (QV QY)
  ·exact QY
  ·exact Qhm (QdU hK hu)
 refine Qj6 (N := 500001) hf ef (fun p hp => ?_) rfl (fun p hp j hj => s0 j ?_) (fun p hp h => ?_) (Qhy hK) (QfE ec us) (fun p hp k hk => s0 k (hfr p hp k hk))
 ·simp only [QuU, QuT, or_false] at hp
  rcases hp with rfl | rfl | rfl
  ·exact hc
  ·exact hu
  ·exact hg
 ·simp only [QuU, QuT, or_false] at hp
  rcases hp with rfl | rfl | rfl
  ·simp [Box.ids] at hj
  ·exact .inr (.inr (.inr (QbS hj)))
  ·simp [Box.ids, gB] at hj
 ·rcases hB p hp h with e | e
  ·rw [e]; exact QV (QV QY)
  ·rw [e]; exact QY
theorem Qsg {u : UR} (hf : Zn l fr = fr1) (ef : fr1 = fr') (hK : Yl us) (huk : u.k = 500001 + us.length) (hc : lk B (500001 + us.length) = some ⟨u.cs.map dCR, 8, ec, true⟩) (hu : lk B 500000 = some ⟨(us ++ [u]).map dUR, 3, eu, false⟩) (hg : lk B kg = some (gB L J eg)) (hB : ∀ p ∈ B, 500001 <= p.1 -> p.1 = kg \/ p.1 = 500001 + us.length) (hkg : 1000000 <= kg) (hlen : us.length <= 100)
  (hfr : ∀ p ∈ fr', ∀ k ∈ p.2.ids, k = 500000 \/ k = kg \/ ∃ v ∈ us ++ [u], k = v.k) : St.le ⟨fr, B ++ fbx ec us⟩ ⟨fr', [(500000, ⟨(us ++ [u]).map dUR, 3, eu, false⟩), (kg, gB L J eg)] ++ fbx ec (us ++ [u])⟩ := by
 have hK1 := Qi0 hK huk
 have mv := fun k => Qol (ec := ec) hK (kg := kg) (x := ⟨(us ++ [u]).map dUR, 3, eu, false⟩) (y := gB L J eg) huk (by omega) k
 have s0 : ∀ k, (k = 500000 \/ k = kg \/ ∃ v ∈ us ++ [u], k = v.k) -> (lk ([(u.k, (⟨u.cs.map dCR, 8, ec, true⟩ : Box)), (500000, (⟨(us ++ [u]).map dUR, 3, eu, false⟩ : Box)), (kg, gB L J eg)] ++ fbx ec us) k).isSome = true := fun k hk => by
  show (lk ((u.k, _) :: (500000, _) :: (kg, _) :: fbx ec us) k).isSome = true
  rw [mv]
  rcases hk with rfl | rfl | ⟨v, hv, rfl⟩
  ·exact QY
  ·exact QV QY
  ·exact QV (QV (QdU hK1 hv))
 refine le_trans (Qj6 (N := 500001) (A' := [(u.k, ⟨u.cs.map dCR, 8, ec, true⟩), (500000, ⟨(us ++ [u]).map dUR, 3, eu, false⟩), (kg, gB L J eg)]) hf ef (fun p hp => ?_) rfl (fun p hp j hj => s0 j ?_) (fun p hp h => ?_) (Qhy hK) (QfE ec us) (fun p hp k hk => s0 k (hfr p hp k hk))) (Qj5 ⟨fun _ => rfl, mv⟩)
 ·simp only [QuU, QuT, or_false] at hp
  rcases hp with rfl | rfl | rfl
  ·rw [huk]; exact hc
  ·exact hu
  ·exact hg
 ·simp only [QuU, QuT, or_false] at hp
  rcases hp with rfl | rfl | rfl
  ·simp [Box.ids] at hj
  ·exact .inr (.inr (QbS hj))
  ·simp [Box.ids, gB] at hj
 ·rcases hB p hp h with e | e
  ·rw [e]; exact QV (QV QY)
  ·rw [e, <- huk]; exact QY
end
def u0 (v : Vr) : UR := ⟨[], [], 500001, [zr v (-1)]⟩
def v0 : Vr := ⟨0, 0, 0, [], []⟩
theorem Qpf {kg a b : Nat} (h : 1000000 <= kg) (ha : a < 1000000) (hb : b < 1000000) : QaH a b kg = kg := by
 unfold QaH; rw [if_neg (by omega), if_neg (by omega)]
theorem Qm5 {l : List Nat} {fr fr1 fr' : List (Nat × D)} {kg eg eu ec : Nat} {L : List Int} {I : Int} (hkg : 1000000 <= kg) (hf : Zn l fr = fr1) (ef : fr1.map (fun p => (p.1, (p.2.ren (QaH 18 500000)).ren (QaH 16 500001))) = fr') :
  St.le ⟨fr, [(18, ⟨[[.str [], .str [], .osl 16 1]], 3, eu, false⟩), (16, ⟨[dCR (zr v0 (-1))], 8, ec, true⟩), (kg, gB L I eg)]⟩ ⟨fr', [(500000, ⟨[u0 v0].map dUR, 3, eu, false⟩), (kg, gB L I eg)] ++ fbx ec [u0 v0]⟩ := by
 subst hf ef
 have k1 := Qpf (a := 18) (b := 500000) hkg (by decide) (by decide)
 have k2 := Qpf (a := 16) (b := 500001) hkg (by decide) (by decide)
 refine le_trans (Qcj l fr _) (le_trans (QhO 18 500000 (by decide) (by decide) _) (le_trans (QhO 16 500001 (by decide) (by decide) _) ?_))
 have hH : ∀ k, lk ([(500000, (⟨[u0 v0].map dUR, 3, eu, false⟩ : Box)), (kg, gB L I eg)] ++ fbx ec [u0 v0]) k = lk (Qcy (QaH 16 500001) (Qcy (QaH 18 500000) [(18, ⟨[[.str [], .str [], .osl 16 1]], 3, eu, false⟩), (16, ⟨[dCR (zr v0 (-1))], 8, ec, true⟩), (kg, gB L I eg)])) k := fun k => by
  have e : Qcy (QaH 16 500001) (Qcy (QaH 18 500000) [(18, (⟨[[.str [], .str [], .osl 16 1]], 3, eu, false⟩ : Box)), (16, ⟨[dCR (zr v0 (-1))], 8, ec, true⟩), (kg, gB L I eg)]) = [(500000, ⟨[u0 v0].map dUR, 3, eu, false⟩), (500001, ⟨[dCR (zr v0 (-1))], 8, ec, true⟩), (kg, gB L I eg)] := by
   simp only [Qcy, List.map_cons, List.map_nil, k1, k2]; rfl
  rw [e]
  show lk ((500000, _) :: (kg, _) :: (500001, _) :: []) k = _
  rw [Qm, Qm, Qm, Qm, Qm, Qm]
  by_cases h1 : 500000 = k
  ·rw [if_pos h1, if_pos h1]
  ·rw [if_neg h1, if_neg h1]
   by_cases h2 : kg = k
   ·rw [if_pos h2, if_neg (by omega), if_pos h2]
   ·rw [if_neg h2, if_neg h2]; rfl
 refine QbH (by simp only [St.ren, List.map_map]; rfl) fun k => (hH k).symm
def names5 : List (List UInt8) := [[97, 110, 116], [98, 101, 101], [99, 111, 119], [100, 111, 103], [101, 108, 107]]
theorem Zb : names5.length = 5 := rfl
theorem Qq3 : versions.length = 4 := rfl
theorem Qsi {i : Nat} (h : i < versions.length) : Qgj versions[i] := by
 have := Qkq _ (QuX h)
 exact ⟨Qvb this.1 (by omega), Qvb this.2 (by omega)⟩
structure UnitsIn (us : List UR) : Prop where
 keys : Yl us
 fresh : ∀ u ∈ us, Qrk u
 first : ∃ z rest, us = ⟨[], [], 500001, [z]⟩ :: rest
theorem UnitsIn.zero : UnitsIn [u0 v0] := by
 refine ⟨fun j hj => ?_, fun u hu => ?_, ⟨zr v0 (-1), [], rfl⟩⟩
 ·have : j = 0 := by simp at hj; exact hj
  subst this; rfl
 ·simp only [Qu1] at hu; subst hu
  refine ⟨by simp [u0], fun z hz => ?_⟩
  simp only [u0, Qu1] at hz; subst hz
  exact ⟨v0, -1, rfl, ⟨Qu4 _, Qu4 _⟩⟩
theorem UnitsIn.snoc {us : List UR} (h : UnitsIn us) {n f : List UInt8} {cs : List CR} (hc : cs.length <= 4) (hz : ∀ z ∈ cs, ∃ v sh, z = zr v sh /\ Qgj v) : UnitsIn (us ++ [⟨n, f, 500001 + us.length, cs⟩]) := by
 obtain ⟨h1, h2, z, rest, h3⟩ := h
 refine ⟨Qi0 h1 rfl, fun u hu => ?_, z, rest ++ [⟨n, f, 500001 + us.length, cs⟩], by rw [h3]; rfl⟩
 rcases Qu3.1 hu with hu | hu
 ·exact h2 u hu
 ·simp only [Qu1] at hu; subst hu; exact ⟨hc, hz⟩
def CsIn (n : Nat) (cs : List CR) : Prop := cs.length <= n /\ ∀ z ∈ cs, ∃ v sh, z = zr v sh /\ Qgj v
theorem CsIn.nil (n : Nat) : CsIn n [] := ⟨Qu4 _, by simp⟩
theorem CsIn.keep {n : Nat} {cs : List CR} (h : CsIn n cs) : CsIn (n + 1) cs := ⟨Nat.le_succ_of_le h.1, h.2⟩
theorem CsIn.snoc {n : Nat} {cs : List CR} (h : CsIn n cs) {v : Vr} (hv : Qgj v) {sh : Int} : CsIn (n + 1) (cs ++ [zr v sh]) := by
 refine ⟨by simp; exact h.1, fun z hz => ?_⟩
 rcases Qu3.1 hz with hz | hz
 ·exact h.2 z hz
 ·simp only [Qu1] at hz; subst hz; exact ⟨v, sh, rfl, hv⟩
theorem CsIn.at {n : Nat} {cs : List CR} (h : CsIn n cs) {i : Nat} (hi : i < cs.length) : Qgj cs[i].v := by
 obtain ⟨v, sh, e, hv⟩ := h.2 _ (QuX hi)
 rw [e]; exact hv
theorem Qk1 {α : Type} {k : Nat} {v v' : α} {l : List (Nat × α)} (h : v = v') : lk ((k, v) :: l) k = some v' := by rw [QB, h]
theorem Qjt {us : List UR} {e et : Nat} (h : Yl us) : Box.scrub (500001 + us.length) ⟨us.map dUR, e, et, false⟩ = ⟨us.map dUR, e, et, false⟩ := Qjs fun hk => by
 obtain ⟨u, hu, e⟩ := QbS hk
 have := QbG h hu
 omega
theorem Qlr {us : List UR} (h : Yl us) {n f : List UInt8} {k m : Nat} (hk : k ≠ 500000) : ∀ r ∈ us.map dUR ++ [[D.str n, D.str f, D.osl k m]], ∀ d ∈ r, 500000 ∉ d.sid := fun r hr d hd => by
 rcases Qu3.1 hr with hr | hr
 ·exact Qq2 h r hr d hd
 ·simp only [Qu1] at hr; subst hr
  simp only [QuU, QuT, or_false] at hd
  rcases hd with rfl | rfl | rfl <;> simp [D.sid]
  exact Ne.symm hk
theorem Qq1 {us : List UR} {u : UR} : (us ++ [u]).map dUR = us.map dUR ++ [dUR u] := by simp
theorem Qqk {cs : List CR} {z : CR} : (cs ++ [z]).map dCR = cs.map dCR ++ [dCR z] := by simp
theorem Qbu {us : List UR} (h : Yl us) {kg eu ec : Nat} {g1 g2 g3 : Box} (hkg : 1000000 <= kg) (h1 : g1.pr = true) (h2 : g2.pr = true) (hlen : us.length <= 100) :
  (∀ k, 1000000 <= k -> (lk [(kg, g1)] k).isSome = true -> (lk (((500000, (⟨us.map dUR, 3, eu, false⟩ : Box)) :: fbx ec us) ++ [(kg, g2), (kg, g1)]) k).isSome = true) /\
  (∀ k b, lk (((500000, (⟨us.map dUR, 3, eu, false⟩ : Box)) :: fbx ec us) ++ [(kg, g2), (kg, g1)]) k = some b -> 500000 <= k /\ ∀ j ∈ b.ids, (lk (((500000, (⟨us.map dUR, 3, eu, false⟩ : Box)) :: fbx ec us) ++ [(kg, g2), (kg, g1)]) j).isSome = true) /\
  (∀ k b, lk (((500000, (⟨us.map dUR, 3, eu, false⟩ : Box)) :: fbx ec us) ++ [(kg, g2), (kg, g1)]) k = some b -> lk ((kg, g2) :: (500000, ⟨us.map dUR, 3, eu, false⟩) :: (kg, g3) :: fbx ec us) k = some b) := by
 have cs : ∀ k b, lk (((500000, (⟨us.map dUR, 3, eu, false⟩ : Box)) :: fbx ec us) ++ [(kg, g2), (kg, g1)]) k = some b -> (k = 500000 /\ b = ⟨us.map dUR, 3, eu, false⟩) \/ (∃ u ∈ us, k = u.k /\ b = ⟨u.cs.map dCR, 8, ec, true⟩) \/ (k = kg /\ b = g2) := fun k b hk => by
  rw [List.cons_append, Qm] at hk
  split at hk
  ·rename_i e; cases hk; exact .inl ⟨e.symm, rfl⟩
  ·rw [Z0] at hk
   cases hh : lk (fbx ec us) k with
   | some v =>
    rw [hh] at hk; cases hk
    exact .inr (.inl (Qg0 hh))
   | none =>
    rw [hh] at hk
    simp only at hk
    rw [Qm] at hk
    split at hk
    ·rename_i e; cases hk; exact .inr (.inr ⟨e.symm, rfl⟩)
    ·rename_i e
     rw [Qm, if_neg e] at hk; cases hk
 refine ⟨fun k _ hk => ?_, fun k b hk => ?_, fun k b hk => ?_⟩
 ·obtain ⟨b, hb⟩ := QuY.1 hk
  obtain ⟨rfl, _⟩ := Qae hb
  exact Qhm QY
 ·rcases cs k b hk with ⟨rfl, rfl⟩ | ⟨u, hu, rfl, rfl⟩ | ⟨rfl, rfl⟩
  ·refine ⟨Nat.le_refl _, fun j hj => ?_⟩
   obtain ⟨u, hu, rfl⟩ := QbS hj
   rw [List.cons_append]
   refine QV ?_
   obtain ⟨b, hb⟩ := QuY.1 (QdU (ec := ec) h hu)
   rw [Yz hb]; rfl
  ·have := QbG h hu
   exact ⟨by omega, fun j hj => by simp [Box.ids] at hj⟩
  ·exact ⟨by omega, fun j hj => by rw [Qam h2] at hj; cases hj⟩
 ·rcases cs k b hk with ⟨rfl, rfl⟩ | ⟨u, hu, rfl, rfl⟩ | ⟨rfl, rfl⟩
  ·exact Qo (by omega) QB
  ·have hm := QbG h hu
   obtain ⟨j, hj, rfl⟩ := Qve hu
   refine Qo (by omega) (Qo (by omega) (Qo (by omega) ?_))
   rw [h j hj]; exact QmD h hj
  ·exact QB
end M25
namespace M25
open Go Go.Abs M3
/-! ### A world under way: one candidate after the other is filled -/
def PureC (z : CR) : Prop := z.x.sid = [] /\ z.y.sid = [] /\ z.z.sid = []
theorem PureC.all {z : CR} (h : PureC z) : ∀ d ∈ dCR z, d.sid = [] := fun d hd => by
 simp only [dCR, QuU, QuT, or_false] at hd
 rcases hd with rfl | rfl | rfl | rfl | rfl | rfl | rfl | rfl
 ·rfl
 ·rfl
 ·rfl
 ·rfl
 ·rfl
 ·exact h.1
 ·exact h.2.1
 ·exact h.2.2
def QeF (u : UR) (k : Nat) (z : CR) : UR := { u with cs := u.cs.set k z }
def QcS (us : List UR) (i k : Nat) (z : CR) : List UR := us.modify i fun u => QeF u k z
theorem Zx (us : List UR) (i k : Nat) (z : CR) : (QcS us i k z).length = us.length := List.length_modify ..
theorem Qln (us : List UR) (i k : Nat) (z : CR) : (QcS us i k z).map dUR = us.map dUR := by
 refine List.ext_getElem (by simp [QcS]) fun j h1 h2 => ?_
 simp only [List.getElem_map, QcS, List.getElem_modify]
 split <;> simp [dUR, QeF]
theorem Qba {us : List UR} {i k : Nat} {z : CR} {j : Nat} (h : j < us.length) : (QcS us i k z)[j]'(by rw [Zx]; exact h) = if i = j then QeF us[j] k z else us[j] := by
 simp only [QcS, List.getElem_modify]
theorem Qeh {us : List UR} {i k : Nat} {z : CR} (h : Yl us) : Yl (QcS us i k z) := fun j hj => by
 rw [Zx] at hj
 rw [Qba hj]
 split
 ·exact h j hj
 ·exact h j hj
def wA (us : List UR) (eu ec eg : Nat) (L : List Int) (J : Int) (b4 : Box) : List (Nat × Box) := [(500000, ⟨us.map dUR, 3, eu, false⟩), (12, gB L J eg), (4, b4)] ++ fbx ec us
theorem QbT {us : List UR} {eu ec eg : Nat} {L : List Int} {J : Int} {b4 : Box} (h : Yl us) {k : Nat} {b : Box} (hk : lk (wA us eu ec eg L J b4) k = some b) : (k = 500000 /\ b = ⟨us.map dUR, 3, eu, false⟩) \/ (k = 12 /\ b = gB L J eg) \/ (k = 4 /\ b = b4) \/ ∃ j, ∃ hj : j < us.length, k = 500001 + j /\ b = ⟨us[j].cs.map dCR, 8, ec, true⟩ := by
 unfold wA at hk
 rcases QfT hk with hk | ⟨_, hk⟩
 ·simp only [QuU, QuT, or_false, Prod.mk.injEq] at hk
  rcases hk with h | h | h
  ·exact .inl h
  ·exact .inr (.inl h)
  ·exact .inr (.inr (.inl h))
 ·obtain ⟨u, hu, e1, e2⟩ := Qg0 hk
  obtain ⟨j, hj, rfl⟩ := Qve hu
  exact .inr (.inr (.inr ⟨j, hj, e1.trans (h j hj), e2⟩))
section
variable {us : List UR} {eu ec eg : Nat} {L : List Int} {J : Int} {b4 : Box}
theorem Qfi : lk (wA us eu ec eg L J b4) 500000 = some ⟨us.map dUR, 3, eu, false⟩ := rfl
theorem QeU : lk (wA us eu ec eg L J b4) 12 = some (gB L J eg) := rfl
theorem Qgn : lk (wA us eu ec eg L J b4) 4 = some b4 := rfl
theorem Qdy (h : Yl us) {j : Nat} (hj : j < us.length) : lk (wA us eu ec eg L J b4) (500001 + j) = some ⟨us[j].cs.map dCR, 8, ec, true⟩ := by
 show lk ((500000, _) :: (12, _) :: (4, _) :: fbx ec us) _ = _
 rw [Qm, if_neg (by omega), Qm, if_neg (by omega), Qm, if_neg (by omega)]
 exact QmD h hj
theorem Z8 (h : Yl us) {k : Nat} (h1 : k ≠ 500000) (h2 : k ≠ 12) (h3 : k ≠ 4) (h4 : k < 500001 \/ 500001 + us.length <= k) : lk (wA us eu ec eg L J b4) k = none := by
 show lk ((500000, _) :: (12, _) :: (4, _) :: fbx ec us) _ = _
 rw [Qm, if_neg (Ne.symm h1), Qm, if_neg (Ne.symm h2), Qm, if_neg (Ne.symm h3)]
 exact Y3 h h4
theorem Qkr (h : Yl us) {k : Nat} (hk : k = 500000 \/ k = 12 \/ k = 4 \/ ∃ u ∈ us, k = u.k) : (lk (wA us eu ec eg L J b4) k).isSome = true := by
 rcases hk with rfl | rfl | rfl | ⟨u, hu, rfl⟩
 ·rfl
 ·rfl
 ·rfl
 ·obtain ⟨j, hj, rfl⟩ := Qve hu
  rw [h j hj, Qdy h hj]; rfl
theorem QaD (h : Yl us) (h4 : b4.pr = true) : Closed (wA us eu ec eg L J b4) := fun k b hk j hj => by
 rcases QbT h hk with ⟨rfl, rfl⟩ | ⟨rfl, rfl⟩ | ⟨rfl, rfl⟩ | ⟨i, hi, rfl, rfl⟩
 ·exact Qkr h (.inr (.inr (.inr (QbS hj))))
 ·simp [Box.ids, gB] at hj
 ·rw [Qam h4] at hj; cases hj
 ·simp [Box.ids] at hj
theorem Qey {α : Type} : ∀ {l : List α} {k : Nat} {a x : α}, x ∈ l.set k a -> x = a \/ x ∈ l
 | [], k, a, x, h => by simp at h
 | b :: l, 0, a, x, h => by
  simp only [List.set_cons_zero, QuU] at h ⊢
  rcases h with h | h
  ·exact .inl h
  ·exact .inr (.inr h)
 | b :: l, k + 1, a, x, h => by
  simp only [List.set_cons_succ, QuU] at h ⊢
  rcases h with h | h
  ·exact .inr (.inl h)
  ·rcases Qey h with h | h
   ·exact .inl h
   ·exact .inr (.inr h)
theorem QfO {l : List Nat} {fr fr1 fr' : List (Nat × D)} {H : List (Nat × Box)} {i k : Nat} {row : List D} {p : Bool} (kk : Nat) (z' : CR) (hf : Zn l fr = fr1) (ef : fr1 = fr') (hK : Yl us) (hi : i < us.length) (hk : k < us[i].cs.length)
  (hKi : lk H (500001 + i) = some ⟨(us[i].cs.map dCR).set k row, 8, ec, p⟩) (hp : p = true -> row.map (D.fzS H (· == kk)) = row) (hrow : (row.map (D.fzS H (· == kk))).map D.canS = dCR z') (hoth : ∀ z ∈ us[i].cs, PureC z) (hz : PureC z')
  (hF : ∀ j, ∀ hj : j < us.length, j ≠ i -> lk H (500001 + j) = some ⟨us[j].cs.map dCR, 8, ec, true⟩) (hu : lk H 500000 = some ⟨us.map dUR, 3, eu, false⟩) (hg : lk H 12 = some (gB L J eg)) (h4 : lk H 4 = some b4) (hb4 : b4.pr = true) (hkk : kk < 500000 /\ kk ≠ 12 /\ kk ≠ 4) (hsm : ∀ j, 1000000 <= j -> lk H j = none) (hlen : us.length <= 100)
  (hfr : ∀ p ∈ fr', ∀ j ∈ p.2.ids, j = 500000 \/ j = 12 \/ j = 4 \/ ∃ u ∈ us, j = u.k) : St.le ⟨fr, H⟩ ⟨fr', wA (QcS us i k z') eu ec eg L J b4⟩ := by
 subst hf ef
 have nokk : ∀ j, (j = 500000 \/ j = 12 \/ j = 4 \/ ∃ u ∈ us, j = u.k) -> j ≠ kk := fun j hj e => by
  subst e
  rcases hj with rfl | rfl | rfl | ⟨u, hu, rfl⟩
  ·omega
  ·exact hkk.2.1 rfl
  ·exact hkk.2.2 rfl
  ·have := (QbG hK hu).1; omega
 have eqkk : ∀ j, j ≠ kk -> (j == kk) = false := fun j hj => by simp [hj]
 have some1 : ∀ b j, (j = 500000 \/ j = 12 \/ j = 4 \/ ∃ u ∈ us, j = u.k) -> (lk ((500001 + i, b) :: wA us eu ec eg L J b4) j).isSome = true := fun b j hj => QV (Qkr hK hj)
 have rowsz : ∀ r ∈ us[i].cs.map dCR, r.map (D.fzS H (· == kk)) = r := fun r hr => by
  obtain ⟨z, hzm, rfl⟩ := Qu6.1 hr
  exact Yt fun d hd => Qes fun j hj => by rw [(hoth z hzm).all d hd] at hj; cases hj
 have mapz : ((us[i].cs.map dCR).set k row).map (fun r => r.map (D.fzS H (· == kk))) = (us[i].cs.map dCR).set k (row.map (D.fzS H (· == kk))) := by
  refine List.ext_getElem (by simp) fun j h1 h2 => ?_
  simp only [List.getElem_map, List.getElem_set]
  split
  ·rfl
  ·exact rowsz _ (List.mem_map_of_mem (QuX _))
 refine le_trans (Qcj l fr H) (le_trans (Qpz kk (H' := (500001 + i, ⟨(us[i].cs.map dCR).set k (row.map (D.fzS H (· == kk))), 8, ec, p⟩) :: wA us eu ec eg L J b4) (by omega) (fr' := Zn l fr) (fun t d h => ⟨d, h, QiS fun j hj => eqkk j (nokk j (hfr (t, d) (Z2 h) j hj))⟩) (fun j b h => ?_) (fun t d h j hj => some1 _ j (hfr (t, d) (Z2 h) j hj)) (fun j b h j2 hj2 => ?_) fun j hj hs => ?_) ?_)
 ·rw [Qm] at h
  split at h
  ·rename_i e; cases h; subst e
   refine ⟨by omega, _, hKi, ?_⟩
   cases p with
   | true => rw [hp rfl]; rfl
   | false => show Box.mk _ _ _ _ = _; rw [mapz]
  ·rename_i e
   rcases QbT hK h with ⟨rfl, rfl⟩ | ⟨rfl, rfl⟩ | ⟨rfl, rfl⟩ | ⟨i2, hi2, rfl, rfl⟩
   ·refine ⟨by omega, _, hu, XW (.inr fun j hj => eqkk j (nokk j (.inr (.inr (.inr (QbS hj))))))⟩
   ·exact ⟨Ne.symm hkk.2.1, _, hg, rfl⟩
   ·exact ⟨Ne.symm hkk.2.2, _, h4, XW (.inl hb4)⟩
   ·exact ⟨by omega, _, hF i2 hi2 (fun e2 => e (by omega)), rfl⟩
 ·rw [Qm] at h
  split at h
  ·cases h
   cases hpp : p with
   | true => rw [Qam hpp] at hj2; cases hj2
   | false =>
   simp only [Box.ids, hpp, Qu0, if_false, QuZ] at hj2
   obtain ⟨r, hr, d, hd, hj3⟩ := hj2
   rcases Qey hr with rfl | hr
   ·have : (d.canS).sid = [] := hz.all _ (by rw [<- hrow]; exact List.mem_map_of_mem hd)
    rw [QcG] at this
    rw [this] at hj3; cases hj3
   ·obtain ⟨z, hzm, rfl⟩ := Qu6.1 hr
    rw [(hoth z hzm).all d hd] at hj3; cases hj3
  ·exact QV (QaD hK hb4 j b h j2 hj2)
 ·rw [hsm j hj] at hs; cases hs
 ·refine le_trans (Qoz k QB) (le_trans (Qj4 QB (fun e => ?_) (fun r hr d hd => ?_)) (QbH rfl fun j => ?_))
  ·have := congrArg List.length e
   simp only [List.length_modify, List.length_set, List.length_map, List.length_nil] at this
   omega
  ·rcases Qbn hr with h | ⟨y, hy, rfl⟩
   ·rcases Qey h with rfl | h
    ·have : (d.canS).sid = [] := hz.all _ (by rw [<- hrow]; exact List.mem_map_of_mem hd)
     rwa [QcG] at this
    ·obtain ⟨z, hzm, rfl⟩ := Qu6.1 h
     exact (hoth z hzm).all d hd
   ·obtain ⟨d0, hd0, rfl⟩ := Qu6.1 hd
    rw [QcG]
    rcases Qey hy with rfl | h
    ·have : (d0.canS).sid = [] := hz.all _ (by rw [<- hrow]; exact List.mem_map_of_mem hd0)
     rwa [QcG] at this
    ·obtain ⟨z, hzm, rfl⟩ := Qu6.1 h
     exact (hoth z hzm).all d0 hd0
  ·have erows : ((us[i].cs.map dCR).set k (row.map (D.fzS H (· == kk)))).modify k (fun r => r.map D.canS) = ((us[i].cs.set k z').map dCR) := by
    refine List.ext_getElem (by simp) fun m h1 h2 => ?_
    simp only [List.getElem_modify, List.getElem_set, List.getElem_map]
    by_cases e : k = m
    ·subst e
     simp only [if_true]
     exact hrow
    ·simp only [if_neg e]
   have hK' := Qeh (i := i) (k := k) (z := z') hK
   by_cases e : 500001 + i = j
   ·subst e
    rw [QB, Qdy hK' (by rw [Zx]; exact hi)]
    simp only [Qba hi, if_true, erows]; rfl
   ·rw [Qm, if_neg e, Qm, if_neg e, Qm, if_neg e]
    cases h : lk (wA us eu ec eg L J b4) j with
    | none =>
     cases h' : lk (wA (QcS us i k z') eu ec eg L J b4) j with
     | none => rfl
     | some b =>
      have : (lk (wA us eu ec eg L J b4) j).isSome = true := by
       rcases QbT hK' h' with ⟨rfl, _⟩ | ⟨rfl, _⟩ | ⟨rfl, _⟩ | ⟨m, hm, rfl, _⟩
       ·rfl
       ·rfl
       ·rfl
       ·rw [Zx] at hm; rw [Qdy hK hm]; rfl
      rw [h] at this; cases this
    | some b =>
     rcases QbT hK h with ⟨rfl, rfl⟩ | ⟨rfl, rfl⟩ | ⟨rfl, rfl⟩ | ⟨m, hm, rfl, rfl⟩
     ·rw [Qfi, Qln]
     ·rfl
     ·rfl
     ·rw [Qdy hK' (by rw [Zx]; exact hm)]
      simp only [Qba hm, if_neg (show ¬ i = m by omega)]
end
theorem Qd0 : ∀ {H : List (Nat × Box)} {j : Nat}, j ∈ H.map Prod.fst -> (lk H j).isSome = true
 | [], _, h => by cases h
 | (k, b) :: H, j, h => by
  by_cases e : k = j
  ·subst e; exact QY
  ·refine QV (Qd0 ?_)
   simp only [List.map_cons, QuU] at h
   exact h.resolve_left (Ne.symm e)
theorem Qpi {us : List UR} (h : Yl us) {i : Nat} (hi : i < us.length) : (us.map dUR)[((i : Nat) : Int).toNat]? = some [.str us[i].n, .str us[i].f, .osl (500001 + i) us[i].cs.length] := by
 rw [Int.toNat_natCast, List.getElem?_map, List.getElem?_eq_getElem hi, Option.map_some, dUR, h i hi]
theorem QsG {cs : List CR} {k : Nat} (hk : k < cs.length) : (cs.map dCR)[((k : Nat) : Int).toNat]? = some (dCR cs[k]) := by
 rw [Int.toNat_natCast, List.getElem?_map, List.getElem?_eq_getElem hk]; rfl
theorem Qkn {us : List UR} {eu ec eg : Nat} {L : List Int} {J : Int} {b4 g1 : Box} (h : Yl us) (k : Nat) : lk (((500000, (⟨us.map dUR, 3, eu, false⟩ : Box)) :: fbx ec us) ++ ([(12, gB L J eg)] ++ [(12, g1), (4, b4)])) k = lk (wA us eu ec eg L J b4) k := by
 show lk ((500000, _) :: (fbx ec us ++ [(12, gB L J eg), (12, g1), (4, b4)])) k = lk ((500000, _) :: (12, _) :: (4, _) :: fbx ec us) k
 rw [Qm, Qm]
 split
 ·rfl
 ·rw [Z0]
  cases hh : lk (fbx ec us) k with
  | some v =>
   have := Qhy h k v hh
   simp only
   rw [Qm, if_neg (by omega), Qm, if_neg (by omega), hh]
  | none =>
   simp only [Qm, hh]
   by_cases e : 12 = k
   ·rw [if_pos e, if_pos e]
   ·rw [if_neg e, if_neg e, if_neg e]; rfl
theorem Qlt {us : List UR} {eu ec eg : Nat} {L : List Int} {J : Int} {b4 : Box} (h : Yl us) (hv : ∀ y ∈ us, y.cs.length <= 16 /\ ∀ z ∈ y.cs, Qgj z.v) : Fam (wA us eu ec eg L J b4) 12 500000 eu ec us := by
 refine ⟨by decide, ⟨false, rfl⟩, fun y hy => ?_, hv⟩
 obtain ⟨j, hj, rfl⟩ := Qve hy
 refine ⟨by rw [h j hj]; omega, true, by rw [h j hj]; exact Qdy h hj⟩
/-! ### Filled candidates -/
def Qp5 (n : Nat) (x : WantT) : Prop := 0 <= x.u /\ x.u < n /\ SetOk x.s
theorem WantIn.w {n : Nat} {x : WantT} (h : WantIn n x) : Qp5 n x := ⟨by have := h.1; omega, h.2.1, h.2.2⟩
structure QaI (n : Nat) (c : CandT) : Prop where
 v : Qgj c.v
 nl : c.ns.length <= 10
 nr : ∀ r ∈ c.ns, r.length <= 2 /\ ∀ x ∈ r, Qp5 n x
 bl : c.bs.length <= 1
 bw : ∀ x ∈ c.bs, Qp5 n x
def Qig (c : CandT) : CR := ⟨c.v, .int .i64 c.sh, QU c.ns, Q7 c.bs⟩
def DoneC (n : Nat) (z : CR) : Prop := ∃ c, z = Qig c /\ QaI n c
def FreshC (z : CR) : Prop := ∃ v sh, z = zr v sh /\ Qgj v
theorem DoneC.pure {n : Nat} {z : CR} (h : DoneC n z) : PureC z := by obtain ⟨c, rfl, _⟩ := h; exact ⟨rfl, rfl, rfl⟩
theorem FreshC.pure {z : CR} (h : FreshC z) : PureC z := by obtain ⟨v, sh, rfl, _⟩ := h; exact ⟨rfl, rfl, rfl⟩
theorem DoneC.vr {n : Nat} {z : CR} (h : DoneC n z) : Qgj z.v := by obtain ⟨c, rfl, q⟩ := h; exact q.v
theorem FreshC.vr {z : CR} (h : FreshC z) : Qgj z.v := by obtain ⟨v, sh, rfl, q⟩ := h; exact q
structure Prog (n : Nat) (us : List UR) (i k : Nat) : Prop where
 keys : Yl us
 len : us.length = n /\ 2 <= n /\ n <= 11
 cl : ∀ u ∈ us, u.cs.length <= 4
 done : ∀ j, ∀ hj : j < us.length, ∀ m, ∀ hm : m < us[j].cs.length, (j < i \/ (j = i /\ m < k)) -> DoneC n us[j].cs[m]
 fresh : ∀ j, ∀ hj : j < us.length, ∀ m, ∀ hm : m < us[j].cs.length, ¬ (j < i \/ (j = i /\ m < k)) -> FreshC us[j].cs[m]
theorem Prog.pure {n : Nat} {us : List UR} {i k : Nat} (h : Prog n us i k) {j : Nat} (hj : j < us.length) : ∀ z ∈ us[j].cs, PureC z /\ Qgj z.v := fun z hz => by
 obtain ⟨m, hm, rfl⟩ := Qve hz
 by_cases hd : j < i \/ (j = i /\ m < k)
 ·exact ⟨(h.done j hj m hm hd).pure, (h.done j hj m hm hd).vr⟩
 ·exact ⟨(h.fresh j hj m hm hd).pure, (h.fresh j hj m hm hd).vr⟩
theorem Prog.fam {n : Nat} {us : List UR} {i k : Nat} (h : Prog n us i k) : ∀ y ∈ us, y.cs.length <= 16 /\ ∀ z ∈ y.cs, Qgj z.v := fun y hy => by
 obtain ⟨j, hj, rfl⟩ := Qve hy
 exact ⟨Qvb (h.cl _ hy) (by omega), fun z hz => (h.pure hj z hz).2⟩
theorem Prog.put {n : Nat} {us : List UR} {i k : Nat} (h : Prog n us i k) (hi : i < us.length) (hk : k < us[i].cs.length) {z : CR} (hz : DoneC n z) : Prog n (QcS us i k z) i (k + 1) := by
 have at' := fun (j : Nat) (hj : j < us.length) => Qba (i := i) (k := k) (z := z) hj
 refine ⟨Qeh h.keys, by rw [Zx]; exact h.len, fun u hu => ?_, fun j hj m hm hd => ?_, fun j hj m hm hd => ?_⟩
 ·obtain ⟨j, hj, rfl⟩ := Qve hu
  rw [Zx] at hj
  rw [at' j hj]
  split
  ·simp only [QeF, List.length_set]; exact h.cl _ (QuX _)
  ·exact h.cl _ (QuX _)
 ·rw [Zx] at hj
  have e := at' j hj
  by_cases hij : i = j
  ·subst hij
   rw [if_pos rfl] at e
   have hm' : m < (QeF us[i] k z).cs.length := by rw [<- e]; exact hm
   have e2 : (QcS us i k z)[i].cs[m] = (QeF us[i] k z).cs[m]'hm' := by congr 1; rw [e]
   rw [e2]
   simp only [QeF, List.getElem_set]
   split
   ·exact hz
   ·simp only [QeF, List.length_set] at hm'
    exact h.done i hi m hm' (by omega)
  ·rw [if_neg hij] at e
   have hm' : m < us[j].cs.length := by rw [<- e]; exact hm
   have e2 : (QcS us i k z)[j].cs[m] = us[j].cs[m]'hm' := by congr 1; rw [e]
   rw [e2]; exact h.done j hj m hm' (by omega)
 ·rw [Zx] at hj
  have e := at' j hj
  by_cases hij : i = j
  ·subst hij
   rw [if_pos rfl] at e
   have hm' : m < (QeF us[i] k z).cs.length := by rw [<- e]; exact hm
   have e2 : (QcS us i k z)[i].cs[m] = (QeF us[i] k z).cs[m]'hm' := by congr 1; rw [e]
   rw [e2]
   simp only [QeF, List.length_set] at hm'
   simp only [QeF, List.getElem_set]
   rw [if_neg (by omega)]
   exact h.fresh i hi m hm' (by omega)
  ·rw [if_neg hij] at e
   have hm' : m < us[j].cs.length := by rw [<- e]; exact hm
   have e2 : (QcS us i k z)[j].cs[m] = us[j].cs[m]'hm' := by congr 1; rw [e]
   rw [e2]; exact h.fresh j hj m hm' (by omega)
theorem Prog.next {n : Nat} {us : List UR} {i k : Nat} (h : Prog n us i k) (hi : i < us.length) (hk : us[i].cs.length <= k) : Prog n us (i + 1) 0 := by
 refine ⟨h.keys, h.len, h.cl, fun j hj m hm hd => h.done j hj m hm ?_, fun j hj m hm hd => h.fresh j hj m hm (by omega)⟩
 by_cases e : j = i
 ·subst e; exact .inr ⟨rfl, by omega⟩
 ·exact .inl (by omega)
theorem Prog.again {n : Nat} {us : List UR} {i k : Nat} (h : Prog n us i (k + 1)) (hi : i < us.length) (hk : k < us[i].cs.length) {z : CR} (hz : DoneC n z) : Prog n (QcS us i k z) i (k + 1) := by
 have at' := fun (j : Nat) (hj : j < us.length) => Qba (i := i) (k := k) (z := z) hj
 refine ⟨Qeh h.keys, by rw [Zx]; exact h.len, fun u hu => ?_, fun j hj m hm hd => ?_, fun j hj m hm hd => ?_⟩
 ·obtain ⟨j, hj, rfl⟩ := Qve hu
  rw [Zx] at hj
  rw [at' j hj]
  split
  ·simp only [QeF, List.length_set]; exact h.cl _ (QuX _)
  ·exact h.cl _ (QuX _)
 ·rw [Zx] at hj
  have e := at' j hj
  by_cases hij : i = j
  ·subst hij
   rw [if_pos rfl] at e
   have hm' : m < (QeF us[i] k z).cs.length := by rw [<- e]; exact hm
   have e2 : (QcS us i k z)[i].cs[m] = (QeF us[i] k z).cs[m]'hm' := by congr 1; rw [e]
   rw [e2]
   simp only [QeF, List.getElem_set]
   split
   ·exact hz
   ·simp only [QeF, List.length_set] at hm'
    exact h.done i hi m hm' (by omega)
  ·rw [if_neg hij] at e
   have hm' : m < us[j].cs.length := by rw [<- e]; exact hm
   have e2 : (QcS us i k z)[j].cs[m] = us[j].cs[m]'hm' := by congr 1; rw [e]
   rw [e2]; exact h.done j hj m hm' (by omega)
 ·rw [Zx] at hj
  have e := at' j hj
  by_cases hij : i = j
  ·subst hij
   rw [if_pos rfl] at e
   have hm' : m < (QeF us[i] k z).cs.length := by rw [<- e]; exact hm
   have e2 : (QcS us i k z)[i].cs[m] = (QeF us[i] k z).cs[m]'hm' := by congr 1; rw [e]
   rw [e2]
   simp only [QeF, List.length_set] at hm'
   simp only [QeF, List.getElem_set]
   rw [if_neg (by omega)]
   exact h.fresh i hi m hm' (by omega)
  ·rw [if_neg hij] at e
   have hm' : m < us[j].cs.length := by rw [<- e]; exact hm
   have e2 : (QcS us i k z)[j].cs[m] = us[j].cs[m]'hm' := by congr 1; rw [e]
   rw [e2]; exact h.fresh j hj m hm' (by omega)
theorem Qm4 {l : List Nat} {fr fr1 fr' : List (Nat × D)} {us : List UR} {eu ec eg e1 e3 : Nat} {L : List Int} {J : Int} {b4 bK : Box} {i : Nat} {x : WantT} (hf : Zn l fr = fr1) (ef : fr1 = fr') (hK : Yl us) (hi : i < us.length) (hb4 : b4.pr = true) (hbK : ∀ j ∈ bK.ids, j = 64)
  (hfr : ∀ p ∈ fr', ∀ j ∈ p.2.ids, j = 500000 \/ j = 12 \/ j = 4 \/ ∃ u ∈ us, j = u.k) :
  St.le ⟨fr, (500001 + i, bK) :: (64, ⟨[[.osl 63 1]], 1, e1, false⟩) :: (63, ⟨[Qbi x], 3, e3, true⟩) :: wA us eu ec eg L J b4⟩ ⟨fr', (500001 + i, bK) :: (64, ⟨[[Q7 [x]]], 1, e1, true⟩) :: wA us eu ec eg L J b4⟩ := by
 subst hf ef
 have no63 : ∀ j, (j = 500000 \/ j = 12 \/ j = 4 \/ ∃ u ∈ us, j = u.k) -> j ≠ 63 := fun j hj e => by
  subst e
  rcases hj with h | h | h | ⟨u, hu, h⟩
  ·cases h
  ·cases h
  ·cases h
  ·have := (QbG hK hu).1; omega
 have eq63 : ∀ j, j ≠ 63 -> (j == 63) = false := fun j hj => by simp [hj]
 have up : ∀ b b' j, (lk (wA us eu ec eg L J b4) j).isSome = true -> (lk ((500001 + i, b) :: (64, b') :: wA us eu ec eg L J b4) j).isSome = true := fun b b' j hj => QV (QV hj)
 refine le_trans (Qcj l fr _) (le_trans (Qpz 63 (H' := (500001 + i, bK) :: (64, ⟨[[Q7 [x]]], 1, e1, false⟩) :: wA us eu ec eg L J b4) (by decide) (fr' := Zn l fr) (fun t d h => ⟨d, h, QiS fun j hj => eq63 j (no63 j (hfr (t, d) (Z2 h) j hj))⟩) (fun j b h => ?_) (fun t d h j hj => up _ _ j (Qkr hK (hfr (t, d) (Z2 h) j hj))) (fun j b h j2 hj2 => ?_) fun j hj hs => ?_) ?_)
 ·rw [Qm] at h
  split at h
  ·rename_i e; cases h; subst e
   refine ⟨by omega, _, QB, XW (.inr fun j hj => ?_)⟩
   rw [hbK j hj]; rfl
  ·rename_i e
   rw [Qm] at h
   split at h
   ·rename_i e2; cases h; subst e2
    refine ⟨by decide, _, Qo e QB, ?_⟩
    have h63 : lk ((500001 + i, bK) :: (64, (⟨[[.osl 63 1]], 1, e1, false⟩ : Box)) :: (63, ⟨[Qbi x], 3, e3, true⟩) :: wA us eu ec eg L J b4) 63 = some ⟨[Qbi x], 3, e3, true⟩ := Qo (by omega) (Qo (by decide) QB)
    simp only [Box.fz, Qu0, if_false, List.map_cons, List.map_nil, D.fzS, beq_self_eq_true, if_true, h63, List.length_singleton, and_self, Q7]
   ·rename_i e2
    have h2 : lk ((500001 + i, bK) :: (64, (⟨[[.osl 63 1]], 1, e1, false⟩ : Box)) :: (63, ⟨[Qbi x], 3, e3, true⟩) :: wA us eu ec eg L J b4) j = some b := by
     have hj : j ≠ 63 := by
      rcases QbT hK h with ⟨rfl, _⟩ | ⟨rfl, _⟩ | ⟨rfl, _⟩ | ⟨m, _, rfl, _⟩ <;> omega
     exact Qo e (Qo e2 (Qo (Ne.symm hj) h))
    rcases QbT hK h with ⟨rfl, rfl⟩ | ⟨rfl, rfl⟩ | ⟨rfl, rfl⟩ | ⟨m, hm, rfl, rfl⟩
    ·exact ⟨by decide, _, h2, XW (.inr fun j hj => eq63 j (no63 j (.inr (.inr (.inr (QbS hj))))))⟩
    ·exact ⟨by decide, _, h2, rfl⟩
    ·exact ⟨by decide, _, h2, XW (.inl hb4)⟩
    ·exact ⟨by omega, _, h2, rfl⟩
 ·rw [Qm] at h
  split at h
  ·cases h
   rw [hbK j2 hj2]; exact QV QY
  ·rw [Qm] at h
   split at h
   ·cases h; simp [Box.ids, D.sid, Q7] at hj2
   ·exact up _ _ j2 (QaD hK hb4 j b h j2 hj2)
 ·by_cases e : 500001 + i = j
  ·subst e; exact QY
  ·rw [Qm, if_neg e, Qm, if_neg (by omega), Qm, if_neg (by omega)] at hs
   exact up _ _ j hs
 ·have h64 : lk ((500001 + i, bK) :: (64, (⟨[[Q7 [x]]], 1, e1, false⟩ : Box)) :: wA us eu ec eg L J b4) 64 = some ⟨[[Q7 [x]]], 1, e1, false⟩ := Qo (by omega) QB
  refine le_trans (Qj4 h64 (by simp) (by intro r hr d hd; simp only [Qu1] at hr; subst hr; simp only [Qu1] at hd; subst hd; rfl)) (QbH rfl fun j => ?_)
  by_cases e : 64 = j
  ·subst e; rw [QB, Qm, if_neg (by omega), QB]
  ·by_cases eK : 500001 + i = j
   ·subst eK; rw [Qm, if_neg e, QB, QB]
   ·rw [Qm, if_neg e, Qm, if_neg eK, Qm, if_neg e, Qm, if_neg eK, Qm, if_neg e]
theorem Qmt {n : Nat} : ∀ {cs : List CR}, (∀ z ∈ cs, DoneC n z) -> ∃ l : List CandT, cs = l.map Qig /\ ∀ c ∈ l, QaI n c
 | [], _ => ⟨[], rfl, by simp⟩
 | z :: cs, h => by
  obtain ⟨l, h1, h2⟩ := Qmt (cs := cs) fun y hy => h y (by simp [hy])
  obtain ⟨c, rfl, hc⟩ := h z (by simp)
  exact ⟨c :: l, by rw [h1]; rfl, fun y hy => by
   rcases QuU.1 hy with rfl | hy
   ·exact hc
   ·exact h2 y hy⟩
def QrA (n : Nat) (u : UR) (x : QjH) : Prop := x.n = u.n /\ x.f = u.f /\ u.cs = x.cs.map Qig /\ ∀ c ∈ x.cs, QaI n c
theorem Qmu {n : Nat} : ∀ {us : List UR}, (∀ u ∈ us, ∀ z ∈ u.cs, DoneC n z) -> ∃ w : QF, w.length = us.length /\ ∀ j, ∀ h : j < us.length, ∀ h' : j < w.length, QrA n us[j] w[j]
 | [], _ => ⟨[], rfl, fun j h => by simp at h⟩
 | u :: us, h => by
  obtain ⟨w, h1, h2⟩ := Qmu (us := us) fun y hy => h y (by simp [hy])
  obtain ⟨l, q1, q2⟩ := Qmt (h u (by simp))
  refine ⟨⟨u.n, u.f, l⟩ :: w, by simp [h1], fun j hj hj' => ?_⟩
  cases j with
  | zero => exact ⟨rfl, rfl, q1, q2⟩
  | succ j => simp only [List.getElem_cons_succ]; exact h2 j (by simpa using hj) (by simpa using hj')
structure Qn5 (w : QF) : Prop where
 sm : WSm w
 len : 2 <= w.length /\ w.length <= 11
 cs : ∀ u ∈ w, u.cs.length <= 4
 cand : ∀ u ∈ w, ∀ c ∈ u.cs, QaI w.length c
theorem QqB {w : QF} (h2 : 2 <= w.length) (h11 : w.length <= 11) (hc : ∀ u ∈ w, u.cs.length <= 4) (hd : ∀ u ∈ w, ∀ c ∈ u.cs, QaI w.length c) : Qn5 w := by
 refine ⟨⟨by omega, fun u hu => Qvb (hc u hu) (by omega), fun u hu c hcm => (hd u hu c hcm).v, fun u hu c hcm => ⟨Qvb (hd u hu c hcm).nl (by omega), Qvb (hd u hu c hcm).bl (by omega)⟩, fun u hu c hcm r hr => Qvb ((hd u hu c hcm).nr r hr).1 (by omega), fun u hu c hcm r hr x hx => (((hd u hu c hcm).nr r hr).2 x hx).2.2.sm, fun u hu c hcm x hx => ((hd u hu c hcm).bw x hx).2.2.sm⟩, ⟨h2, h11⟩, hc, hd⟩
theorem QoB {n : Nat} {us : List UR} {eu ec eg : Nat} {L : List Int} {J : Int} {b4 : Box} {k : Nat} (h : Prog n us us.length k) (hb4 : b4.pr = true) :
  ∃ w : QF, w.length = us.length /\ Qn5 w /\ ∀ {l : List Nat} {fr fr1 fr' : List (Nat × D)}, Zn l fr = fr1 -> fr1 = fr' -> (∀ p ∈ fr', ∀ j ∈ p.2.ids, j = 500000 \/ j = 4) -> St.le ⟨fr, wA us eu ec eg L J b4⟩ ⟨fr', [(500000, ⟨w.map Xf, 3, eu, true⟩), (4, b4)]⟩ := by
 obtain ⟨w, hw1, hw2⟩ := Qmu (n := n) (us := us) fun u hu z hz => by
  obtain ⟨j, hj, rfl⟩ := Qve hu
  obtain ⟨m, hm, rfl⟩ := Qve hz
  exact h.done j hj m hm (.inl hj)
 have hcs : ∀ u ∈ w, u.cs.length <= 4 /\ ∀ c ∈ u.cs, QaI n c := fun u hu => by
  obtain ⟨j, hj, rfl⟩ := Qve hu
  obtain ⟨_, _, q3, q4⟩ := hw2 j (by omega) hj
  have := h.cl us[j] (QuX _)
  rw [q3, List.length_map] at this
  exact ⟨this, q4⟩
 have hlen := h.len
 refine ⟨w, hw1, QqB (by omega) (by omega) (fun u hu => (hcs u hu).1) (fun u hu c hc => by have := (hcs u hu).2 c hc; rwa [show w.length = n by omega]), ?_⟩
 intro l fr fr1 fr' hf ef hfr
 subst hf ef
 have hK := h.keys
 let S : Nat -> Bool := fun k => decide (500001 <= k) && decide (k < 1000000)
 have hS1 : ∀ k, k < 500001 -> S k = false := fun k hk => by
  show (decide (500001 <= k) && decide (k < 1000000)) = false
  rw [decide_eq_false (by omega)]; rfl
 have hS2 : ∀ k, 500001 <= k -> k < 1000000 -> S k = true := fun k h1 h2 => by
  show (decide (500001 <= k) && decide (k < 1000000)) = true
  rw [decide_eq_true h1, decide_eq_true h2]; rfl
 have hrow : ∀ j, ∀ h1 : j < us.length, ∀ h2 : j < w.length, (dUR us[j]).map (D.fzS (wA us eu ec eg L J b4) S) = Xf w[j] := fun j h1 h2 => by
  obtain ⟨q1, q2, q3, q4⟩ := hw2 j h1 h2
  have hk := hK j h1
  have hc := Qdy (eu := eu) (ec := ec) (eg := eg) (L := L) (J := J) (b4 := b4) hK h1
  generalize us[j] = u at q1 q2 q3 hk hc
  generalize w[j] = x at q1 q2 q3 q4
  obtain ⟨un, uf, uk, ucs⟩ := u
  simp only at q1 q2 q3 hk hc
  subst hk q3
  simp only [dUR, Xf, List.map_cons, List.map_nil, D.fzS]
  rw [hS2 _ (by omega) (by omega), hc]
  simp only [if_true, true_and, List.length_map, q1, q2, Qms, List.map_map]
  rfl
 have hrows : (us.map dUR).map (fun r => r.map (D.fzS (wA us eu ec eg L J b4) S)) = w.map Xf := by
  refine List.ext_getElem (by simp [hw1]) fun j h1 h2 => ?_
  simp only [List.getElem_map]
  exact hrow j (by simpa using h1) (by simpa using h2)
 refine le_trans (Qcj l fr _) (le_trans (Qqw S (fun k hk => by
  simp only [S, QuW, decide_eq_true_eq] at hk; exact hk.2) (fr' := Zn l fr) (H' := [(500000, ⟨w.map Xf, 3, eu, false⟩), (4, b4)]) (fun t d hd => ⟨d, hd, QiS fun j hj => ?_⟩) (fun j b hj => ?_) (fun t d hd j hj => ?_) (fun j b hb i hi => ?_) fun j hj hs => ?_) (le_trans (Qj4 (k := 500000) (b := ⟨w.map Xf, 3, eu, false⟩) rfl (fun e => ?_) (fun r hr d hd => ?_)) (QbH rfl fun j => ?_)))
 ·rcases hfr (t, d) (Z2 hd) j hj with rfl | rfl
  ·exact hS1 _ (by decide)
  ·exact hS1 _ (by decide)
 ·rw [Qm] at hj
  split at hj
  ·rename_i e; cases hj; subst e
   refine ⟨hS1 _ (by decide), _, Qfi, ?_⟩
   simp only [Box.fz, Qu0, if_false, hrows]
  ·rw [Qm] at hj
   split at hj
   ·rename_i e; cases hj; subst e
    exact ⟨hS1 _ (by decide), _, Qgn, XW (.inl hb4)⟩
   ·cases hj
 ·rcases hfr (t, d) (Z2 hd) j hj with rfl | rfl
  ·rfl
  ·rfl
 ·rw [Qm] at hb
  split at hb
  ·cases hb
   simp only [Box.ids, Qu0, if_false, QuZ, Qu6] at hi
   obtain ⟨r, ⟨u, _, rfl⟩, d, hd, hi⟩ := hi
   simp only [Xf, QuU, QuT, or_false] at hd
   rcases hd with rfl | rfl | rfl <;> simp [D.sid, Qms] at hi
  ·rw [Qm] at hb
   split at hb
   ·cases hb; rw [Qam hb4] at hi; cases hi
   ·cases hb
 ·obtain ⟨b, hb⟩ := QuY.1 hs
  rcases QbT hK hb with ⟨rfl, _⟩ | ⟨rfl, _⟩ | ⟨rfl, _⟩ | ⟨m, hm, rfl, _⟩ <;> omega
 ·have := congrArg List.length e
  simp only [List.length_map, List.length_nil] at this
  omega
 ·obtain ⟨u, _, rfl⟩ := Qu6.1 hr
  simp only [Xf, QuU, QuT, or_false] at hd
  rcases hd with rfl | rfl | rfl <;> rfl
 ·by_cases e : 500000 = j
  ·subst e; rfl
  ·rw [Qm, if_neg e, Qm, if_neg e]; rw [Qm (k := 500000), if_neg e]
def QjV (us : List UR) (i : Nat) : Nat := match us[i]? with
 | some u => u.cs.length
 | none => 0
theorem Qa5 {us : List UR} {i : Nat} (h : i < us.length) : QjV us i = us[i].cs.length := by rw [QjV, List.getElem?_eq_getElem h]
theorem QaR (us : List UR) (i k : Nat) (z : CR) : QjV (QcS us i k z) i = QjV us i := by
 by_cases h : i < us.length
 ·rw [Qa5 h, Qa5 (by rw [Zx]; exact h), Qba h, if_pos rfl]
  simp [QeF]
 ·have e : (QcS us i k z).length = us.length := Zx ..
  rw [QjV, QjV, List.getElem?_eq_none (show us.length <= i by omega), List.getElem?_eq_none (show (QcS us i k z).length <= i by omega)]
theorem Qju {us : List UR} {i k : Nat} {z : CR} (hi : i < us.length) (hk : k < us[i].cs.length) {us2 : List UR} (e : us2 = QcS us i k z) (hi2 : i < us2.length) (hk2 : k < us2[i].cs.length) : us2[i].cs[k] = z := by
 subst e
 have e1 := Qba (i := i) (k := k) (z := z) hi
 rw [if_pos rfl] at e1
 have e2 : (QcS us i k z)[i].cs[k] = (QeF us[i] k z).cs[k]'(by simpa [QeF] using hk) := by congr 1; rw [e1]
 rw [e2]; simp [QeF]
theorem Qqj {cs : List CR} {k : Nat} {z : CR} (hk : k < cs.length) (hz : cs[k] = z) : (cs.map dCR)[((k : Nat) : Int).toNat]? = some (dCR z) := by rw [QsG hk, hz]
theorem QpN {cs : List CR} {k : Nat} {row : List D} (hk : k < cs.length) : ((cs.map dCR).set ((k : Nat) : Int).toNat row)[((k : Nat) : Int).toNat]? = some row := by
 rw [Int.toNat_natCast, List.getElem?_set_self (by simpa using hk)]
theorem Qi2 {K k e t : Nat} {L : List (List D)} {r1 r2 : List D} {p : Bool} {H : List (Nat × Box)} : lk ((K, (⟨(L.set k r1).set k r2, e, t, p⟩ : Box)) :: H) K = some ⟨L.set k r2, e, t, p⟩ := by rw [QB, List.set_set]
theorem Qe5 {H : List (Nat × Box)} {kk m e t : Nat} {ys : List (List D)} {v : Vr} {sh : Int} (h : lk H kk = some ⟨ys, e, t, true⟩) (hm : m = ys.length) : ([D.int .i64 v.a, .int .i64 v.b, .int .i64 v.c, .str v.p, .str v.q, .int .i64 sh, .osl kk m, .fsl []].map (D.fzS H (· == kk))).map D.canS = [.int .i64 v.a, .int .i64 v.b, .int .i64 v.c, .str v.p, .str v.q, .int .i64 sh, .sl ys, .sl []] := by
 simp only [List.map_cons, List.map_nil, D.fzS, beq_self_eq_true, if_true, h, hm, and_self, D.canS]
theorem QmM {H : List (Nat × Box)} {kk m e t : Nat} {ys : List (List D)} {v : Vr} {sh : Int} {ns : List (List WantT)} (h : lk H kk = some ⟨ys, e, t, true⟩) (hm : m = ys.length) : ([D.int .i64 v.a, .int .i64 v.b, .int .i64 v.c, .str v.p, .str v.q, .int .i64 sh, QU ns, .osl kk m].map (D.fzS H (· == kk))).map D.canS = [.int .i64 v.a, .int .i64 v.b, .int .i64 v.c, .str v.p, .str v.q, .int .i64 sh, QU ns, .sl ys] := by
 simp only [QU, List.map_cons, List.map_nil, D.fzS, beq_self_eq_true, if_true, h, hm, and_self, D.canS]
theorem Qsn {us : List UR} {eu ec eg : Nat} {L : List Int} {J J2 : Int} {b4 : Box} (k : Nat) : lk ((12, gB L J2 eg) :: wA us eu ec eg L J b4) k = lk (wA us eu ec eg L J2 b4) k := by
 show lk ((12, _) :: (500000, _) :: (12, _) :: (4, _) :: fbx ec us) k = lk ((500000, _) :: (12, _) :: (4, _) :: fbx ec us) k
 by_cases e : 12 = k
 ·subst e; rfl
 ·rw [Qm, if_neg e, Qm, Qm (k := 500000)]
  split
  ·rfl
  ·rw [Qm, if_neg e, Qm (k := 12), if_neg e]
theorem Qkh {cs : List CR} {k e t : Nat} {row : List D} (h : ∀ z ∈ cs, PureC z) (hr : ∀ d ∈ row, ∀ j ∈ d.sid, j = 64) : ∀ j ∈ Box.ids ⟨(cs.map dCR).set k row, e, t, false⟩, j = 64 := fun j hj => by
 simp only [Box.ids, Qu0, if_false, QuZ] at hj
 obtain ⟨r, hrm, d, hd, hj⟩ := hj
 rcases Qey hrm with rfl | hrm
 ·exact hr d hd j hj
 ·obtain ⟨z, hz, rfl⟩ := Qu6.1 hrm
  rw [(h z hz).all d hd] at hj; cases hj
theorem QtN {us : List UR} {eu ec eg : Nat} {L : List Int} {J : Int} {b4 b64 : Box} {n i k : Nat} (h : Prog n us i k) (hi : i < us.length) (hk : k < us[i].cs.length) {zx : CR} (hv : Qgj zx.v) (hrow : zx.x.sid = [] /\ zx.y.sid = [64] /\ zx.z.sid = []) (hb4 : b4.pr = true) (h64 : b64.pr = true) :
  Fam ((500001 + i, ⟨(us[i].cs.map dCR).set k (dCR zx), 8, ec, false⟩) :: (64, b64) :: wA us eu ec eg L J b4) 12 500000 eu ec (QcS us i k zx) /\ Closed ((500001 + i, ⟨(us[i].cs.map dCR).set k (dCR zx), 8, ec, false⟩) :: (64, b64) :: wA us eu ec eg L J b4) := by
 refine ⟨⟨by decide, ⟨false, ?_⟩, fun y hy => ?_, fun y hy => ?_⟩, ?_⟩
 ·rw [Qm, if_neg (by omega), Qm, if_neg (by decide), Qfi, Qln]
 ·obtain ⟨j, hj, rfl⟩ := Qve hy
  have hK' := Qeh (i := i) (k := k) (z := zx) h.keys
  have hj' := hj
  rw [Zx] at hj'
  refine ⟨by rw [hK' j hj]; omega, ?_⟩
  rw [hK' j hj]
  by_cases e : i = j
  ·subst e
   refine ⟨false, ?_⟩
   rw [QB, Qba hj', if_pos rfl, QeF, List.map_set]
  ·refine ⟨true, ?_⟩
   rw [Qm, if_neg (by omega), Qm, if_neg (by omega), Qdy h.keys hj', Qba hj', if_neg e]
 ·obtain ⟨j, hj, rfl⟩ := Qve hy
  have hj' := hj
  rw [Zx] at hj'
  rw [Qba hj']
  have hfam := h.fam us[j] (QuX _)
  split
  ·refine ⟨by simpa [QeF] using hfam.1, fun z hz => ?_⟩
   rcases Qey hz with rfl | hz
   ·exact hv
   ·exact hfam.2 z hz
  ·exact hfam
 ·refine ((QaD h.keys hb4).pr h64).cons fun j hj => ?_
  have := Qkh (e := 8) (t := ec) (k := k) (row := dCR zx) (fun z hz => (h.pure hi z hz).1) (fun d hd j hj => by
   simp only [dCR, QuU, QuT, or_false] at hd
   rcases hd with rfl | rfl | rfl | rfl | rfl | rfl | rfl | rfl
   ·cases hj
   ·cases hj
   ·cases hj
   ·cases hj
   ·cases hj
   ·rw [hrow.1] at hj; cases hj
   ·rw [hrow.2.1] at hj; simpa using hj
   ·rw [hrow.2.2] at hj; cases hj) j hj
  subst this; exact QY
theorem Prog.start {us : List UR} (h : UnitsIn us) (h2 : 2 <= us.length) (h11 : us.length <= 11) : Prog us.length us 0 0 := by
 refine ⟨h.keys, ⟨rfl, h2, h11⟩, fun u hu => (h.fresh u hu).1, fun j hj m hm hd => by omega, fun j hj m hm _ => ?_⟩
 obtain ⟨v, sh, e, hv⟩ := (h.fresh _ (QuX hj)).2 _ (QuX hm)
 exact ⟨v, sh, e, hv⟩
theorem Qeq {n : Nat} {m : Int} {v : Vr} {sh : Int} {ns : List (List WantT)} (hv : Qgj v) (h : Qfl n m ns) (hm : m <= 3) : QaI n ⟨v, sh, ns, []⟩ :=
 ⟨hv, by show ns.length <= 10; have := h.1; omega, fun r hr => ⟨(h.2 r hr).1, fun x hx => ((h.2 r hr).2 x hx).w⟩, Qu4 _, fun x hx => by cases hx⟩
theorem QiG {n i : Nat} {m : Int} {v : Vr} {sh : Int} {ns : List (List WantT)} (hv : Qgj v) (h : Qfl n m ns) (hm : m <= 3) (h1 : 1 <= i) (hi : i < n) : QaI n ⟨v, sh, [⟨(i : Int) - 1, Xs v.a v.b v.c v.p v.q⟩] :: ns, []⟩ := by
 refine ⟨hv, by show (_ :: ns).length <= 10; have := h.1; simp only [List.length_cons]; omega, fun r hr => ?_, Qu4 _, fun x hx => by cases hx⟩
 rcases QuU.1 hr with rfl | hr
 ·refine ⟨by simp, fun x hx => ?_⟩
  simp only [Qu1] at hx; subst hx
  have := QcJ (a := v.a) (b := v.b) (c := v.c) (q := v.q) hv.1
  exact ⟨by show 0 <= (i : Int) - 1; omega, by show (i : Int) - 1 < n; omega, this.1.up (by omega), this.2.up (by omega)⟩
 ·exact ⟨(h.2 r hr).1, fun x hx => ((h.2 r hr).2 x hx).w⟩
theorem QiF {n : Nat} {v : Vr} {sh : Int} {ns : List (List WantT)} (h : QaI n ⟨v, sh, ns, []⟩) {x : WantT} (hx : WantIn n x) : QaI n ⟨v, sh, ns, [x]⟩ := ⟨h.v, h.nl, h.nr, by simp, by intro y hy; simp only [Qu1] at hy; subst hy; exact hx.w⟩
theorem Qjv {us : List UR} {i k : Nat} {z : CR} (hi : i < us.length) (hk : k < us[i].cs.length) {us2 : List UR} (e : QcS us i k z = us2) (hi2 : i < us2.length) : k < us2[i].cs.length := by
 rw [<- Qa5 hi2, <- e, QaR, Qa5 hi]; exact hk
theorem QpJ {l : List (List WantT)} : ∀ r ∈ l.map (fun r => [Q7 r]), r.length = 1 := fun r hr => by obtain ⟨x, _, rfl⟩ := Qu6.1 hr; rfl
end M25
namespace M25
open Go Go.Abs M3
/-! ### Trails that may be -/
end M25
namespace M25
open Go Go.Abs M3
/-! ### What every program says -/
/-! ### A world's facts, and more -/
end M25
namespace M25
open Go Go.Abs M3
/-! ### Powers of two -/
/-! ### Steps that may be: the program's -/
/-! ### Deciding -/
end M25
namespace M25
open Go Go.Abs M3
/-! ### Back, Sure, When -/
/-! ### What valid trails are -/
/-! ### Levels -/
end M25
namespace M25
open Go Go.Abs M3
def QoF {α : Type} (p : α -> Bool) (l : List α) : Int := match l.findIdx? p with
 | some i => i
 | none => -1
theorem QaS {α : Type} {p : α -> Bool} {l : List α} {i : Nat} (h : i < l.length) (ha : (l.take i).any p = false) (hp : p l[i] = true) : QoF p l = i := by
 have e : l.findIdx? p = some i := by
  rw [List.findIdx?_eq_some_iff_getElem]
  refine ⟨h, hp, fun j hj => ?_⟩
  have := List.any_eq_false.1 ha l[j] (by
   rw [List.mem_take_iff_getElem]
   exact ⟨j, by omega, rfl⟩)
  simpa using this
 rw [QoF, e]
theorem Qpx {α : Type} {p : α -> Bool} {l : List α} {i : Nat} (h : l.length <= i) (ha : (l.take i).any p = false) : QoF p l = -1 := by
 have e : l.findIdx? p = none := by
  rw [List.findIdx?_eq_none_iff]
  rw [Qu8 h] at ha
  intro x hx
  simpa using List.any_eq_false.1 ha x hx
 rw [QoF, e]
theorem QmW {α : Type} (p : α -> Bool) (l : List α) : decide (QoF p l >= 0) = l.any p := by
 cases e : l.findIdx? p with
 | none =>
  rw [QoF, e]
  rw [List.findIdx?_eq_none_iff] at e
  have : l.any p = false := List.any_eq_false.2 fun x hx => by simpa using e x hx
  rw [this]; rfl
 | some i =>
  rw [QoF, e]
  rw [List.findIdx?_eq_some_iff_getElem] at e
  obtain ⟨h, hp, _⟩ := e
  rw [QjK h hp]
  simp
/-! ### The first row of lefts -/
end M25
namespace M25
open Go Go.Abs M3
/-! ### When, Qih by Qih -/
/-! ### The QgD world -/
end M25
namespace M25
open Go Go.Abs M3
/-! ### What a run is: steps, one open after the other -/
inductive Ql8 (w : QF) (db : List (List TermT)) : List Qbv -> List Qbv -> Prop
 | nil (l : List Qbv) : Ql8 w db l l
 | cons {l x : List Qbv} (a k : Nat) (ho : Qrm w db l a k) (h : Ql8 w db (l ++ [QtM w l ((db[a]'ho.ha)[k]'ho.hk) a]) x) : Ql8 w db l x
section
variable {w : QF} {db : List (List TermT)}
def Below (w : QF) (b l : List Qbv) : Prop := ∀ u i, tb (Qgy w b u) i = true -> tb (Qgy w l u) i = true
theorem Below.refl (l : List Qbv) : Below w l l := fun _ _ h => h
/-! ### Sound: a choice stays -/
end
end M25
namespace M25
open Go Go.Abs M3
end M25
namespace M25
open Go Go.Abs M3
/-! ### More of runs -/
end M25
namespace M25
open Go Go.Abs M3
/-! ### The facts in another order -/
end M25
namespace M25
open Go Go.Abs M3
/-! ### How long a run is -/
structure Good (w : QF) (l : List Qbv) : Prop where
 p : Qro w l
 nz : ∀ u, inW w u = true -> Qgy w l u ≠ 0
 le : ∀ u i, tb (Qgy w l u) i = true -> tb (Qa7 w u) i = true
end M25
namespace M25
open Go Go.Abs M3
/-! ### Masks are of values that there are -/
/-! ### Each Qih of a run -/
end M25
namespace M25
open Go Go.Abs M3
end M25
namespace M25
open Go Go.Abs M3
/-! ### Derive again -/
/-! ### Sure, and what holds -/
end M25
namespace M25
open Go Go.Abs M3
/-! ### The choice that a trail has decided -/
end M25
namespace Go.Proofs
open Go Go.Abs M3 M25
end Go.Proofs
namespace Go.Proofs
open Go Go.Abs M3 M25
theorem Qcs {s : St} {args : List Opd} {kg : Nat} {L : List Int} {I n : Int} {et : Nat} (ha : Zh s args = some [.ref kg 0 0, .int .i64 n]) (hg : lk s.H kg = some (gB L I et)) (hL : ∀ x ∈ L, I64 x) (hn : n <= 9223372036854775807) : Qb0 Tryz.prog 33 args s [(kg, gB L I et)] [] [(kg, gB L (nxI I) et)] (.int .i64 (nx L I n)) := by
 refine QkA (b' := gB L (nxI I) et) (ds' := [.ref (upN kg) 0 0, .int .i64 n]) ha (fun j x h => ?_) (fun k b hk j hj => ?_) (fun x hx j hj => ?_) ?_ Z Z Z Z ?_
 ·obtain ⟨rfl, rfl⟩ := Qae h; exact hg
 ·obtain ⟨rfl, rfl⟩ := Qae hk; simp [Box.ids, gB] at hj
 ·simp only [QuU, QuT, or_false] at hx
  rcases hx with rfl | rfl
  ·simp [D.ids, D.sid] at hj; subst hj; rw [QB]; rfl
  ·simp [D.ids, D.sid] at hj
 ·rw [QB]; rfl
 ·exact XX (by unfold upN; omega) hL hn et
theorem QdI {H : List (Nat × Box)} {kg kc : Nat} {L : List Int} {I : Int} {eg ec : Nat} {pr : Bool} {zs : List CR} (hkg : 1000000 <= kg) (hg : lk H kg = some (gB L I eg)) (hc : lk H kc = some ⟨zs.map dCR, 8, ec, pr⟩) (hne : kg ≠ kc) (hB : Big H) (hC : Closed H) (hL : ∀ x ∈ L, I64 x) (hz : ∀ z ∈ zs, Qgj z.v) (hn : zs.length <= 16) : ∃ d H2, (∃ s I2, SetOk s /\ d = Qgk s /\ H2 = (kg, gB L I2 eg) :: H) /\ OkH Tryz.prog 67 [.ref kg 0 0, .osl kc zs.length] H d H2 := by
 have hkc := hB _ _ hc
 refine OkH.ofX (R := fun d H2 => ∃ s I2, SetOk s /\ d = Qgk s /\ H2 = (kg, gB L I2 eg) :: H) Z6 Tryz.func67 Qur (QuS Z) ?_
 show TX _ _ tf67.body _ _
 refine Zm fun K hK => ?_
 refine ZF (by repeat (first | exact hB.none (by decide) | refine Zw (by first | decide | omega) ?_)) ?_
 refine hK _ _ (Q3 (kp3 Z Z Z) ?_)
 refine Zm fun K hK => Qb Z (YP (Qcs (I := I) Z (Qo (by omega) hg) hL (by omega)) (Qb Z (hK _ _ (Q3 (kp4 Z Z Z Z) ?_))))
 refine Zm fun K hK => QA (Yh) Z Z (.inl Z) ?_
 refine ZF (by repeat (first | exact hB.none (by decide) | refine Zw (by first | decide | omega) ?_)) ?_
 refine Q0 Z Z Z Z Z Z Z Z (hK _ _ (Q3 (kp5 Z Z Z Z Z) ?_))
 refine QaE ?_ -- 0
 refine Zm fun K hK => Qb Z (hK _ _ (Q3 (kp6 Z Z Z Z Z Z) ?_))
 refine Xn ?_
 refine Qfo (ι := Nat × Qfn) (fun ⟨i, s⟩ => ⟨[(0, .ref kg 0 0), (1, .osl kc zs.length), (4, .ref 4 0 0), (5, .int .i64 (nx L I 8)), (6, .ref 6 0 0), (7, .int .i64 i)], [(4, ⟨[[.fsl [], .fsl []]], 2, 66, true⟩), (6, ⟨[[Zk s.1, Zk s.2]], 2, 66, true⟩), (kg, gB L (nxI I) eg)] ++ H⟩) (fun ⟨i, s⟩ => i <= zs.length /\ QlB (bnd i - 4) s) (fun ⟨i, s⟩ => zs.length - i) (0, ([], [])) ?_ ?_ ?_
 ·exact QfP (l := [0, 1, 4, 5, 6, 7]) (B := [_, _, _, _]) (kp6 rfl rfl rfl rfl rfl rfl) rfl (by intro p hp; simp only [QuU, QuT, or_false] at hp; rcases hp with rfl | rfl | rfl <;> exact ⟨by repeat (first | exact QB | refine Qo (by first | decide | omega) ?_), rfl⟩) rfl (by intro p hp h; simp only [QuU, QuT, or_false] at hp; rcases hp with rfl | rfl | rfl | rfl <;> first | (simp only at h; omega) | (repeat (first | exact QY | refine QV ?_))) hB hC (by intro p hp k hk; simp only [QuU, QuT, or_false] at hp; rcases hp with rfl | rfl | rfl | rfl | rfl | rfl <;> first | (simp [D.ids, D.sid, Q7, QU, QZ] at hk; done) | (simp [D.ids, D.sid, Q7, QU, QZ] at hk; subst hk; repeat (first | exact QY | exact Zu hg | exact Zu hc | refine QV ?_)))
 ·exact ⟨Qu4 _, SmN.nil _, SmN.nil _⟩
 intro ⟨i, s⟩ hI
 try dsimp only at hI
 have hb16 := Qpq (i := i) (by omega)
 try dsimp only
 refine QaE ?_ -- 1
 refine Zm fun K hK => Qb Z (Qb Z ?_)
 first | refine Q4 rfl Za ?_ | refine Q4 rfl rfl ?_
 refine Yk Z Z (hK _ _ (Q3 (kp7 Z Z Z Z Z Z Z) ?_))
 refine XI Z (fun h1 => ?_) (fun h1 => ?_)
 ·try rw [h1]
  try simp only [qA] at h1
  refine XV (Zd (kp6 Z Z Z Z Z Z) ?_)
  refine QaE ?_ -- 2
  refine Xn (Zm fun K hK => Qb Z (Qb Z (Qio Z (Qlu (by omega) (by omega)) (Qrw Z Z (by omega) (Qhh Z Z (Xb Z Z (hK _ _ (Q3 (kp7 Z Z Z Z Z Z Z) ?_))))))))
  refine XI Z (fun h2 => ?_) (fun h2 => ?_)
  ·try rw [h2]
   try simp only [qA] at h2
   have hvp := (hz _ (QuX (show i < zs.length by omega))).1
   refine Yb fun K hK => QQ (ds0 := [1, 0]) (cs := [_, _]) Z Z Z Z (by simp [Dr.ok, Qcd]) Z (Qb Z (Qb Z (QdA (ds0 := [4, 3, 2, 1, 0]) Z Z (Qo (by omega) (Qo (by omega) (Qo (by omega) hc))) (by simp) (by omega) (by omega) Z (by simp [Dr.ok, Qcd]) Z (Qi Z (Zu (Qo (by omega) (Qo (by omega) (Qo (by omega) hc)))) (QQ (ds0 := [2, 1, 0]) (cs := [_, _, _, _, _]) Z (Yp (Qo (by omega) (Qo (by omega) (Qo (by omega) hc))) (Zj (by omega))) Z Z (by simp [Dr.ok, Qcd]) Z (Zc (ds0 := [1, 0]) (Qaa (hz _ (QuX (by omega))).1 (hz _ (QuX (by omega))).2) Z Z (.inl Z) (by simp [Dr.ok, Qcd]) Z (Zc (ds0 := [0]) (Qeo (a := s) (b := (Xs (zs[i]'(by omega)).v.a (zs[i]'(by omega)).v.b (zs[i]'(by omega)).v.c (zs[i]'(by omega)).v.p (zs[i]'(by omega)).v.q)) (hI.2.1.sm (by omega)) (hI.2.2.sm (by omega)) ((QcJ hvp).1.sm (by omega)) ((QcJ hvp).2.sm (by omega)) (by have := hI.2.1.1; have := (QcJ (a := (zs[i]'(by omega)).v.a) (b := (zs[i]'(by omega)).v.b) (c := (zs[i]'(by omega)).v.c) (q := (zs[i]'(by omega)).v.q) hvp).1.1; omega) (by have := hI.2.2.1; have := (QcJ (a := (zs[i]'(by omega)).v.a) (b := (zs[i]'(by omega)).v.b) (c := (zs[i]'(by omega)).v.c) (q := (zs[i]'(by omega)).v.q) hvp).2.1; omega)) Z Z (.inl Z) (by simp [Dr.ok, Qcd]) Z (Xk (ds0 := []) Z Z Z Z Z Z Z Z (by simp [Dr.ok, Qcd]) Z (hK _ ?_)))))))))
   refine Qh (Zd (kp6 Z Z Z Z Z Z) (Yb fun K hK => Qb Z (Q8 Z Z (by first | exact Qr (by omega) (by omega) | rfl) (Qb Z (hK _ ?_)))))
   refine Ql (i + 1, QpD s (Xs (zs[i]'(by omega)).v.a (zs[i]'(by omega)).v.b (zs[i]'(by omega)).v.c (zs[i]'(by omega)).v.p (zs[i]'(by omega)).v.q)) ?_ ?_ ?_
   ·exact QfP (l := [0, 1, 4, 5, 6, 7]) (B := [_, _, _, _]) (kp6 rfl rfl rfl rfl rfl rfl) rfl (by intro p hp; simp only [QuU, QuT, or_false] at hp; rcases hp with rfl | rfl | rfl <;> exact ⟨by repeat (first | exact QB | refine Qo (by first | decide | omega) ?_), rfl⟩) rfl (by intro p hp h; simp only [QuU, QuT, or_false] at hp; rcases hp with rfl | rfl | rfl | rfl <;> first | (simp only at h; omega) | (repeat (first | exact QY | refine QV ?_))) hB hC (by intro p hp k hk; simp only [QuU, QuT, or_false] at hp; rcases hp with rfl | rfl | rfl | rfl | rfl | rfl <;> first | (simp [D.ids, D.sid, Q7, QU, QZ] at hk; done) | (simp [D.ids, D.sid, Q7, QU, QZ] at hk; subst hk; repeat (first | exact QY | exact Zu hg | exact Zu hc | refine QV ?_)))
   ·exact ⟨by show i + 1 <= _; omega, Qr8 hI.2 (hz _ (QuX (by omega))).1 (by omega)⟩
   ·show zs.length - (i + 1) < zs.length - i; omega
  ·try rw [h2]
   try simp only [qA] at h2
   have hvp := (hz _ (QuX (show i < zs.length by omega))).1
   refine XV (Qh (Zd (kp6 Z Z Z Z Z Z) (Yb fun K hK => Qb Z (Q8 Z Z (by first | exact Qr (by omega) (by omega) | rfl) (Qb Z (hK _ ?_))))))
   refine Ql (i + 1, s) ?_ ?_ ?_
   ·exact QfP (l := [0, 1, 4, 5, 6, 7]) (B := [_, _, _]) (kp6 rfl rfl rfl rfl rfl rfl) rfl (by intro p hp; simp only [QuU, QuT, or_false] at hp; rcases hp with rfl | rfl | rfl <;> exact ⟨by repeat (first | exact QB | refine Qo (by first | decide | omega) ?_), rfl⟩) rfl (by intro p hp h; simp only [QuU, QuT, or_false] at hp; rcases hp with rfl | rfl | rfl <;> first | (simp only at h; omega) | (repeat (first | exact QY | refine QV ?_))) hB hC (by intro p hp k hk; simp only [QuU, QuT, or_false] at hp; rcases hp with rfl | rfl | rfl | rfl | rfl | rfl <;> first | (simp [D.ids, D.sid, Q7, QU, QZ] at hk; done) | (simp [D.ids, D.sid, Q7, QU, QZ] at hk; subst hk; repeat (first | exact QY | exact Zu hg | exact Zu hc | refine QV ?_)))
   ·exact ⟨by show i + 1 <= _; omega, Qpb hI.2⟩
   ·show zs.length - (i + 1) < zs.length - i; omega
 ·try rw [h1]
  try simp only [qA] at h1
  refine QeI (X2 (Qy (QI (Zd (kp3 Z Z Z) ?_))))
  refine QaE ?_ -- 3
  refine Zm fun K hK => Qb Z (YP (Qcs (I := nxI I) Z (Qo (by omega) (Qo (by omega) QB)) hL (by omega)) (hK _ _ (Q3 (kp3 Z Z Z) ?_)))
  refine Xn (Zm fun K hK => Xb Z Z (Qb Z (hK _ _ (Q3 (kp4 Z Z Z Z) ?_))))
  refine XI Z (fun h3 => ?_) (fun h3 => ?_)
  ·try rw [h3]
   try simp only [qA] at h3
   refine Zm fun K hK => QA (QaP) Z Z (.inl Z) (Q0 Z (Qo (by omega) Z) Z Z Z Z Z Z (hK _ _ (Q3 (kp1 Z) ?_)))
   refine Qis (Qv (Qlm ?_))
   refine ⟨Qgk Qgo, (kg, gB L (nxI (nxI I)) eg) :: H, ⟨Qgo, _, ⟨Qkz.1.up (by omega), Qkz.2.up (by omega)⟩, rfl, rfl⟩, (XT hB hC hkg rfl).1, (XT hB hC hkg rfl).2, ?_⟩
   refine QcO (cs := [Zk Qgo.1, Zk Qgo.2]) Z (Yp (by repeat (first | exact QB | refine Qo (by first | decide | omega) ?_)) Z) Z Z Z ?_
   exact QaT (B := [_, _, _, _, _]) hB (by repeat (first | exact QB | refine Qo (by first | decide | omega) ?_)) (by intro p hp h; simp only [QuU, QuT, or_false] at hp; rcases hp with rfl | rfl | rfl | rfl | rfl <;> first | rfl | (simp only at h; omega))
  ·try rw [h3]
   try simp only [qA] at h3
   refine Zm fun K hK => Xb Z Z (Qb Z (hK _ _ (Q3 (kp3 Z Z Z) ?_)))
   refine XI Z (fun h4 => ?_) (fun h4 => ?_)
   ·try rw [h4]
    try simp only [qA] at h4
    refine Zm fun K hK => QD (cs := [_, _]) Z (Yp (Qo (by omega) Z) Z) Z Z (QA (QdL (a := s) (hI.2.1.sm (by omega)) (hI.2.2.sm (by omega))) Z Z (.inl Z) (Q0 Z (Qo (by omega) Z) Z Z Z Z Z Z (hK _ _ (Q3 (kp1 Z) ?_))))
    refine Qis (Qv (Qlm ?_))
    refine ⟨Qgk (QhT s), (kg, gB L (nxI (nxI I)) eg) :: H, ⟨(QhT s), _, ⟨(Qng hI.2 (by omega)).1.up (by omega), (Qng hI.2 (by omega)).2.up (by omega)⟩, rfl, rfl⟩, (XT hB hC hkg rfl).1, (XT hB hC hkg rfl).2, ?_⟩
    refine QcO (cs := [Zk (QhT s).1, Zk (QhT s).2]) Z (Yp (by repeat (first | exact QB | refine Qo (by first | decide | omega) ?_)) Z) Z Z Z ?_
    exact QaT (B := [_, _, _, _, _]) hB (by repeat (first | exact QB | refine Qo (by first | decide | omega) ?_)) (by intro p hp h; simp only [QuU, QuT, or_false] at hp; rcases hp with rfl | rfl | rfl | rfl | rfl <;> first | rfl | (simp only at h; omega))
   ·try rw [h4]
    try simp only [qA] at h4
    refine XV (Qh (Zd (kp2 Z Z) (Zm fun K hK => QD (cs := [_, _]) Z (Yp (Qo (by omega) Z) Z) Z Z (Q0 Z (Qo (by omega) Z) Z Z Z Z Z Z (hK _ _ (Q3 (kp1 Z) ?_))))))
    refine Qis ?_
    refine ⟨Qgk s, (kg, gB L (nxI (nxI I)) eg) :: H, ⟨s, _, ⟨hI.2.1.up (by omega), hI.2.2.up (by omega)⟩, rfl, rfl⟩, (XT hB hC hkg rfl).1, (XT hB hC hkg rfl).2, ?_⟩
    refine QcO (cs := [Zk s.1, Zk s.2]) Z (Yp (by repeat (first | exact QB | refine Qo (by first | decide | omega) ?_)) Z) Z Z Z ?_
    exact QaT (B := [_, _, _, _, _]) hB (by repeat (first | exact QB | refine Qo (by first | decide | omega) ?_)) (by intro p hp h; simp only [QuU, QuT, or_false] at hp; rcases hp with rfl | rfl | rfl | rfl | rfl <;> first | rfl | (simp only at h; omega))
end Go.Proofs
namespace Go.Proofs
open Go Go.Abs M3 M25
/-- The call of 'set', over boxes that are lent. -/
theorem QsP {H : List (Nat × Box)} {kg kc : Nat} {L : List Int} {I : Int} {eg ec : Nat} {pr : Bool} {zs : List CR} (hg : lk H kg = some (gB L I eg)) (hc : lk H kc = some ⟨zs.map dCR, 8, ec, pr⟩) (hne : kg ≠ kc) (hC : Closed H) (hL : ∀ x ∈ L, I64 x) (hz : ∀ z ∈ zs, Qgj z.v) (hn : zs.length <= 16) :
  ∃ s I2, SetOk s /\ ∀ (st : St) (args : List Opd), Zh st args = some [.ref kg 0 0, .osl kc zs.length] -> (∀ j x, lk H j = some x -> lk st.H j = some x) -> Qb0 Tryz.prog 67 args st H [] [(kg, gB L I2 eg)] (Qgk s) := by
 obtain ⟨d, H2, ⟨s, I2, hs, rfl, rfl⟩, hok⟩ := QdI (H := upH H) (kg := upN kg) (kc := upN kc) (L := L) (I := I) (eg := eg) (ec := ec) (pr := pr) (zs := zs.map CR.ren) (by unfold upN; omega) (by rw [QaU, hg]; rfl) (by rw [QaU, hc, Option.map_some, Box.ren, Qmr]) (fun e => hne (Qia e)) Qko (QeG hC) hL
  (fun z hz' => by obtain ⟨z0, h0, rfl⟩ := Qu6.1 hz'; exact hz z0 h0) (by simpa using hn)
 refine ⟨s, I2, hs, fun st args ha hF => QkA (b' := gB L I2 eg) (ds' := [.ref (upN kg) 0 0, .osl (upN kc) zs.length]) ha hF hC (fun x hx j hj => ?_) (Zu hg) Z Z Z Z ?_⟩
 ·simp only [QuU, QuT, or_false] at hx
  rcases hx with rfl | rfl
  ·simp [D.ids, D.sid] at hj; subst hj; exact Zu hg
  ·simp [D.ids, D.sid] at hj; subst hj; exact Zu hc
 ·rw [List.length_map] at hok; exact hok
theorem Qde {H : List (Nat × Box)} {kg ku : Nat} {L : List Int} {I : Int} {eg eu ec : Nat} {us : List UR} (hkg : 1000000 <= kg) (hg : lk H kg = some (gB L I eg)) (hU : Fam H kg ku eu ec us) (hB : Big H) (hC : Closed H) (hL : ∀ x ∈ L, I64 x) (h2n : 2 <= us.length) (hn : us.length <= 48) : ∃ d H2, (∃ x I2, WantIn us.length x /\ d = .agg (Qbi x) /\ H2 = (kg, gB L I2 eg) :: H) /\ OkH Tryz.prog 34 [.ref kg 0 0, .osl ku us.length] H d H2 := by
 obtain ⟨pu, hu⟩ := hU.u
 have hku := hB _ _ hu
 have hne := hU.ne
 have hx0 := Qja (v := Qbk L (IntKind.i64.wrap (nxI I - 1))) (n := (us.length : Int) - 1)
 have hx1 := Qi9 (v := Qbk L (IntKind.i64.wrap (nxI I - 1))) (n := (us.length : Int) - 1) (by omega)
 change 0 <= nx L I ((us.length : Int) - 1) at hx0
 change nx L I ((us.length : Int) - 1) < _ at hx1
 obtain ⟨hyk, pr, hy⟩ := hU.c (us[(1 + nx L I ((us.length : Int) - 1)).toNat]'(by omega)) (QuX _)
 obtain ⟨hv1, hv2⟩ := hU.v (us[(1 + nx L I ((us.length : Int) - 1)).toNat]'(by omega)) (QuX _)
 obtain ⟨s, I2, hs, hcall⟩ := QsP (H := (kg, gB L (nxI I) eg) :: H) QB (Qo (Ne.symm hyk) hy) (Ne.symm hyk) (hC.pr rfl) hL hv2 hv1
 refine OkH.ofX (R := fun d H2 => ∃ x I2, WantIn us.length x /\ d = .agg (Qbi x) /\ H2 = (kg, gB L I2 eg) :: H) Z6 Tryz.func34 Qt5 (QuS Z) ?_
 show TX _ _ tf34.body _ _
 refine Zm fun K hK => ?_
 refine ZF (by repeat (first | exact hB.none (by decide) | refine Zw (by first | decide | omega) ?_)) ?_
 refine hK _ _ (Q3 (kp3 Z Z Z) ?_)
 refine Zm fun K hK => Qb Z (Qb Z ?_)
 first | refine Q4 rfl Za ?_ | refine Q4 rfl rfl ?_
 refine QdB Z Z (by first | exact Qr (by omega) (by omega) | rfl) (YP (Qcs (I := I) Z (Qo (by omega) hg) hL (by omega)) (Q8 Z Z (by first | exact Qr (by omega) (by omega) | rfl) (Qb Z (hK _ _ (Q3 (kp4 Z Z Z Z) ?_)))))
 refine Zm fun K hK => Qb rfl (Qb rfl (Qb rfl (Qb rfl (QaJ rfl rfl (Qo (by omega) (Qo (by omega) hu)) (by simp) (by omega) (by omega) rfl (Qi rfl (Zu (Qo (by omega) (Qo (by omega) hu))) (QC rfl (Yp (Qo (by omega) (Qo (by omega) hu)) (Ye (by omega) (by omega))) rfl (YP (hcall _ _ rfl (QaT (B := [_, _]) hB QB (by intro p hp h; simp only [QuU, QuT, or_false] at hp; rcases hp with rfl | rfl <;> first | rfl | (simp only at h; omega)))) (QX rfl rfl (Q0 rfl (Qo (by omega) (Qo (by omega) rfl)) rfl rfl rfl rfl rfl rfl (hK _ _ (Q3 (kp1 rfl) ?_)))))))))))
 refine Qis ?_
 refine ⟨.agg (Qbi ⟨1 + nx L I ((us.length : Int) - 1), s⟩), (kg, gB L I2 eg) :: H, ⟨⟨1 + nx L I ((us.length : Int) - 1), s⟩, _, ⟨by show 1 <= 1 + _; omega, by show 1 + _ < (us.length : Int); omega, hs⟩, rfl, rfl⟩, (XT hB hC hkg rfl).1, (XT hB hC hkg rfl).2, ?_⟩
 refine QcO (cs := Qbi ⟨1 + nx L I ((us.length : Int) - 1), s⟩) Z (Yp (by repeat (first | exact QB | refine Qo (by first | decide | omega) ?_)) Z) Z Z Z ?_
 exact QaT (B := [_, _, _, _]) hB (by repeat (first | exact QB | refine Qo (by first | decide | omega) ?_)) (by intro p hp h; simp only [QuU, QuT, or_false] at hp; rcases hp with rfl | rfl | rfl | rfl <;> first | rfl | (simp only at h; omega))
/-- The call of 'want'. -/
theorem Qle {H : List (Nat × Box)} {kg ku : Nat} {L : List Int} {I : Int} {eg eu ec : Nat} {us : List UR} (hg : lk H kg = some (gB L I eg)) (hU : Fam H kg ku eu ec us) (hC : Closed H) (hL : ∀ x ∈ L, I64 x) (h2 : 2 <= us.length) (hn : us.length <= 48) :
  ∃ x I2, WantIn us.length x /\ ∀ (st : St) (args : List Opd), Zh st args = some [.ref kg 0 0, .osl ku us.length] -> (∀ j x, lk H j = some x -> lk st.H j = some x) -> Qb0 Tryz.prog 34 args st H [] [(kg, gB L I2 eg)] (.agg (Qbi x)) := by
 obtain ⟨d, H2, ⟨x, I2, hx, rfl, rfl⟩, hok⟩ := Qde (H := upH H) (kg := upN kg) (ku := upN ku) (L := L) (I := I) (eg := eg) (eu := eu) (ec := ec) (us := us.map UR.ren) (by unfold upN; omega) (by rw [QaU, hg]; rfl) hU.up Qko (QeG hC) hL (by simpa using h2) (by simpa using hn)
 obtain ⟨pu, hu⟩ := hU.u
 rw [List.length_map] at hx hok
 refine ⟨x, I2, hx, fun st args ha hF => QkA (b' := gB L I2 eg) (ds' := [.ref (upN kg) 0 0, .osl (upN ku) us.length]) ha hF hC (fun x hx j hj => ?_) (Zu hg) Z Z Z Z hok⟩
 simp only [QuU, QuT, or_false] at hx
 rcases hx with rfl | rfl
 ·simp [D.ids, D.sid] at hj; subst hj; exact Zu hg
 ·simp [D.ids, D.sid] at hj; subst hj; exact Zu hu
end Go.Proofs
namespace Go.Proofs
open Go Go.Abs M3 M25
theorem QcX {H : List (Nat × Box)} {kg ku : Nat} {L : List Int} {I most : Int} {eg eu ec : Nat} {us : List UR} (hkg : 1000000 <= kg) (hg : lk H kg = some (gB L I eg)) (hU : Fam H kg ku eu ec us) (hB : Big H) (hC : Closed H) (hL : ∀ x ∈ L, I64 x) (h2n : 2 <= us.length) (hn : us.length <= 48) (hm0 : 0 <= most) (hm1 : most <= 10) : ∃ d H2, (∃ ns I2, Qfl us.length most ns /\ d = QU ns /\ H2 = (kg, gB L I2 eg) :: H) /\ OkH Tryz.prog 31 [.ref kg 0 0, .osl ku us.length, .int .i64 most] H d H2 := by
 obtain ⟨pu, hu⟩ := hU.u
 have hku := hB _ _ hu
 have hne := hU.ne
 have hk0 : 0 <= nx L I (most + 1) := Qja
 have hk1 : nx L I (most + 1) < most + 1 := Qi9 (by omega)
 refine OkH.ofX (R := fun d H2 => ∃ ns I2, Qfl us.length most ns /\ d = QU ns /\ H2 = (kg, gB L I2 eg) :: H) Z6 Tryz.func31 Qt2 (QuS Z) ?_
 show TX _ _ tf31.body _ _
 refine Zm fun K hK => Qb Z (hK _ _ (Q3 (kp3 Z Z Z) ?_))
 refine Zm fun K hK => Qb Z (hK _ _ (Q3 (kp4 Z Z Z Z) ?_))
 refine QaE ?_ -- 0
 refine Zm fun K hK => Qb Z (Qb Z (Q8 Z Z (by first | exact Qr (by omega) (by omega) | rfl) (YP (Qcs (I := I) Z hg hL (by omega)) (Qb Z (hK _ _ (Q3 (kp4 Z Z Z Z) ?_))))))
 refine Xn ?_
 refine Qfo (ι := Nat × List (List WantT) × Int) (fun ⟨k, ns, J⟩ => ⟨[(0, .ref kg 0 0), (1, .osl ku us.length), (7, .osl 7 ns.length), (8, .int .i64 k)], [(7, ⟨(ns).map (fun r => [Q7 r]), 1, 61, true⟩), (kg, gB L J eg)] ++ H⟩) (fun ⟨k, ns, J⟩ => (ns.length : Int) + k <= most /\ ∀ r ∈ ns, Qir us.length r) (fun ⟨k, ns, J⟩ => k) ((nx L I (most + 1)).toNat, [], nxI I) ?_ ?_ ?_
 ·exact le_trans (YG 7 7 1 61 rfl (by repeat (first | exact hB.none (by decide) | refine Zw (by first | decide | omega) ?_))) (QfP (l := [0, 1, 7, 8]) (B := [_, _]) (kp4 rfl rfl rfl rfl) (by simp only [Int.toNat_of_nonneg hk0] <;> rfl) (by intro p hp; simp only [QuU, QuT, or_false] at hp; rcases hp with rfl | rfl <;> exact ⟨by repeat (first | exact QB | refine Qo (by first | decide | omega) ?_), rfl⟩) rfl (by intro p hp h; simp only [QuU, QuT, or_false] at hp; rcases hp with rfl | rfl <;> first | (simp only at h; omega) | (repeat (first | exact QY | refine QV ?_))) hB hC (by intro p hp k hk; simp only [QuU, QuT, or_false] at hp; rcases hp with rfl | rfl | rfl | rfl <;> first | (simp [D.ids, D.sid, Q7, QU, QZ] at hk; done) | (simp [D.ids, D.sid, Q7, QU, QZ] at hk; subst hk; repeat (first | exact QY | exact Zu hg | exact Zu hu | refine QV ?_))))
 ·exact ⟨by simp only [List.length_nil]; omega, by simp⟩
 intro ⟨k, ns, J⟩ hI
 try dsimp only at hI
 try dsimp only
 refine QaE ?_ -- 1
 refine Zm fun K hK => Qb Z (Qdx Z Z (hK _ _ (Q3 (kp5 Z Z Z Z Z) ?_)))
 refine XI Z (fun h1 => ?_) (fun h1 => ?_)
 ·try rw [h1]
  try simp only [qA] at h1
  refine XV (Zd (kp4 Z Z Z Z) ?_)
  refine QaE ?_ -- 2
  refine Xn (Zm fun K hK => Qb Z (Qb Z ?_))
  obtain ⟨x1, J1, hx1, hc1⟩ := Qle (I := J) (H := (kg, gB L (J) eg) :: H) QB hU.cons (hC.pr rfl) hL h2n hn
  refine YP (hc1 _ _ rfl (QaT (B := [_, _]) hB (by repeat (first | exact QB | refine Qo (by first | decide | omega) ?_)) (by intro p hp h; simp only [QuU, QuT, or_false] at hp; rcases hp with rfl | rfl <;> first | rfl | (simp only at h; omega)))) ?_
  refine QM Z (by repeat (first | exact hB.none (by decide) | refine Zw (by first | decide | omega) ?_)) ?_
  refine Qb Z (hK _ _ (Q3 (kp5 Z Z Z Z Z) ?_))
  refine QrB (ι := List WantT × Int) (fun ⟨r, J4⟩ => ⟨[(0, .ref kg 0 0), (1, .osl ku us.length), (7, .osl 7 ns.length), (8, .int .i64 k), (9, Q7 r)], [(7, ⟨(ns).map (fun r => [Q7 r]), 1, 61, true⟩), (kg, gB L J4 eg)] ++ H⟩) (fun ⟨r, J4⟩ => Qir us.length r) ?_ ?_
  ·skip
   refine Zm fun K hK => Qb Z (YP (Qcs (I := J1) Z (Qo (by omega) QB) hL (by omega)) (Xb Z Z (hK _ _ (Q3 (kp6 Z Z Z Z Z Z) ?_))))
   refine XI Z (fun h2 => ?_) (fun h2 => ?_)
   ·try rw [h2]
    try simp only [qA] at h2
    refine Yb fun K hK => Qb Z (Qb Z (Qb Z ?_))
    obtain ⟨x2, J2, hx2, hc2⟩ := Qle (I := nxI J1) (H := (kg, gB L (nxI J1) eg) :: H) QB hU.cons (hC.pr rfl) hL h2n hn
    refine YP (hc2 _ _ rfl (QaT (B := [_, _, _, _, _]) hB (by repeat (first | exact QB | refine Qo (by first | decide | omega) ?_)) (by intro p hp h; simp only [QuU, QuT, or_false] at hp; rcases hp with rfl | rfl | rfl | rfl | rfl <;> first | rfl | (simp only at h; omega)))) ?_
    refine QM Z (by repeat (first | exact hB.none (by decide) | refine Zw (by first | decide | omega) ?_)) ?_
    refine QpZ Z Z (by simp [D.ids, D.sid]) ⟨_, rfl, rfl, rfl, rfl, rfl⟩ (by repeat (first | exact hB.none (by decide) | refine Zw (by first | decide | omega) ?_)) (Qo (by decide) (Qo (by omega) (Qo (by omega) Z))) Z Z Z (by simp) (by simp) ?_
    refine Qb Z (hK _ ?_)
    refine ZQ ([x1, x2], J2) ?_ ?_
    ·exact le_trans (Qj3 (l := [0, 1, 7, 8]) (B := [_, _, _, _, _, _, _, _, _]) (A := [(7, ⟨(ns).map (fun r => [Q7 r]), 1, 61, true⟩), (kg, gB L J2 eg)]) 30 9 (kp4 rfl rfl rfl rfl) rfl rfl rfl (by first | (simp; done) | (simp; omega)) (by intro p hp hk; simp only [QuU, QuT, or_false] at hp; rcases hp with rfl | rfl | rfl | rfl <;> first | (simp [D.ids, D.sid, Q7, QU, QZ] at hk; done) | (simp [D.ids, D.sid, Q7, QU, QZ] at hk; omega)) (by intro p hp; simp only [QuU, QuT, or_false] at hp; rcases hp with rfl | rfl <;> exact ⟨by first | decide | (simp only; omega), by repeat (first | exact QB | refine Qo (by first | decide | omega) ?_), rfl⟩) (by intro p hp h; simp only [QuU, QuT, or_false] at hp; rcases hp with rfl | rfl | rfl | rfl | rfl | rfl | rfl | rfl | rfl <;> first | (simp only at h; omega) | (repeat (first | exact QY | refine QV ?_))) hB hC (by intro p hp k hk; simp only [QuU, QuT, or_false] at hp; rcases hp with rfl | rfl | rfl | rfl <;> first | (simp [D.ids, D.sid, Q7, QU, QZ] at hk; done) | (simp [D.ids, D.sid, Q7, QU, QZ] at hk; subst hk; repeat (first | exact QY | exact Zu hg | exact Zu hu | refine QV ?_)))) (QfP (l := [0, 1, 7, 8, 9]) (B := [_, _]) (kp5 rfl rfl rfl rfl rfl) rfl (by intro p hp; simp only [QuU, QuT, or_false] at hp; rcases hp with rfl | rfl <;> exact ⟨by repeat (first | exact QB | refine Qo (by first | decide | omega) ?_), rfl⟩) rfl (by intro p hp h; simp only [QuU, QuT, or_false] at hp; rcases hp with rfl | rfl <;> first | (simp only at h; omega) | (repeat (first | exact QY | refine QV ?_))) hB hC (by intro p hp k hk; simp only [QuU, QuT, or_false] at hp; rcases hp with rfl | rfl | rfl | rfl | rfl <;> first | (simp [D.ids, D.sid, Q7, QU, QZ] at hk; done) | (simp [D.ids, D.sid, Q7, QU, QZ] at hk; subst hk; repeat (first | exact QY | exact Zu hg | exact Zu hu | refine QV ?_))))
    ·exact QqQ hx1 hx2
   ·try rw [h2]
    try simp only [qA] at h2
    refine XV ?_
    refine ZQ ([x1], nxI J1) ?_ ?_
    ·exact le_trans (Qj3 (l := [0, 1, 7, 8]) (B := [_, _, _, _, _]) (A := [(7, ⟨(ns).map (fun r => [Q7 r]), 1, 61, true⟩), (kg, gB L (nxI J1) eg)]) 21 9 (kp4 rfl rfl rfl rfl) rfl (Qo (by omega) rfl) rfl (by first | (simp; done) | (simp; omega)) (by intro p hp hk; simp only [QuU, QuT, or_false] at hp; rcases hp with rfl | rfl | rfl | rfl <;> first | (simp [D.ids, D.sid, Q7, QU, QZ] at hk; done) | (simp [D.ids, D.sid, Q7, QU, QZ] at hk; omega)) (by intro p hp; simp only [QuU, QuT, or_false] at hp; rcases hp with rfl | rfl <;> exact ⟨by first | decide | (simp only; omega), by repeat (first | exact QB | refine Qo (by first | decide | omega) ?_), rfl⟩) (by intro p hp h; simp only [QuU, QuT, or_false] at hp; rcases hp with rfl | rfl | rfl | rfl | rfl <;> first | (simp only at h; omega) | (repeat (first | exact QY | refine QV ?_))) hB hC (by intro p hp k hk; simp only [QuU, QuT, or_false] at hp; rcases hp with rfl | rfl | rfl | rfl <;> first | (simp [D.ids, D.sid, Q7, QU, QZ] at hk; done) | (simp [D.ids, D.sid, Q7, QU, QZ] at hk; subst hk; repeat (first | exact QY | exact Zu hg | exact Zu hu | refine QV ?_)))) (QfP (l := [0, 1, 7, 8, 9]) (B := [_, _]) (kp5 rfl rfl rfl rfl rfl) rfl (by intro p hp; simp only [QuU, QuT, or_false] at hp; rcases hp with rfl | rfl <;> exact ⟨by repeat (first | exact QB | refine Qo (by first | decide | omega) ?_), rfl⟩) rfl (by intro p hp h; simp only [QuU, QuT, or_false] at hp; rcases hp with rfl | rfl <;> first | (simp only at h; omega) | (repeat (first | exact QY | refine QV ?_))) hB hC (by intro p hp k hk; simp only [QuU, QuT, or_false] at hp; rcases hp with rfl | rfl | rfl | rfl | rfl <;> first | (simp [D.ids, D.sid, Q7, QU, QZ] at hk; done) | (simp [D.ids, D.sid, Q7, QU, QZ] at hk; subst hk; repeat (first | exact QY | exact Zu hg | exact Zu hu | refine QV ?_))))
    ·exact QqP hx1
  intro ⟨r, J4⟩ hJ
  try dsimp only at hJ
  try dsimp only
  refine Yb fun K hK => Qb Z (Qb Z ?_)
  refine QM Z (by repeat (first | exact hB.none (by decide) | refine Zw (by first | decide | omega) ?_)) ?_
  refine X8 Z Z (fun _ h => XK Z Z Z h) Z (by simp) Z Z Z (by simp; omega) (by simp; omega) (Qb Z (hK _ ?_))
  refine Qh (Zd (kp4 Z Z Z Z) (Yb fun K hK => Qb Z (QdB Z Z (by first | exact Qr (by omega) (by omega) | rfl) (Qb Z (hK _ ?_)))))
  refine Ql (k - 1, ns ++ [r], J4) ?_ ?_ ?_
  ·exact le_trans (QrT (B := [_, _, _, _]) 7 hB hC) (QfP (l := [0, 1, 7, 8]) (A := [(7, ⟨ns.map (fun r => [Q7 r]) ++ [[Q7 r]], 1, 61, true⟩), (kg, gB L J4 eg)]) (B := [_, _, _, _]) (kp4 rfl rfl rfl rfl) (by simp [D.scrub, show ¬ kg = 7 by omega, show ¬ ku = 7 by omega] <;> omega) (by intro p hp; simp only [QuU, QuT, or_false] at hp; rcases hp with rfl | rfl <;> exact ⟨by repeat (first | exact QB | refine Qo (by first | decide | omega) ?_), rfl⟩) (by simp) (by intro p hp h; simp only [QuU, QuT, or_false] at hp; rcases hp with rfl | rfl | rfl | rfl <;> first | (simp only at h; omega) | (repeat (first | exact QY | refine QV ?_))) hB hC (by intro p hp k hk; simp only [QuU, QuT, or_false] at hp; rcases hp with rfl | rfl | rfl | rfl <;> first | (simp [D.ids, D.sid, Q7, QU, QZ] at hk; done) | (simp [D.ids, D.sid, Q7, QU, QZ] at hk; subst hk; repeat (first | exact QY | exact Zu hg | exact Zu hu | refine QV ?_))))
  ·exact ⟨by simp only [List.length_append, List.length_singleton]; omega, QnC hI.2 hJ⟩
  ·show k - 1 < k; omega
 ·try rw [h1]
  try simp only [qA] at h1
  refine QeI (X2 (Qy (QI (Zd (kp1 Z) (Zm fun K hK => Qb Z (Qb Z (hK _ _ (Q3 (kp1 Z) ?_))))))))
  refine Qis ?_
  refine ⟨QU ns, (kg, gB L J eg) :: H, ⟨ns, _, ⟨by omega, hI.2⟩, rfl, rfl⟩, (XT hB hC hkg rfl).1, (XT hB hC hkg rfl).2, ?_⟩
  refine QaB Z (by simp [QnW, D.fz, D.fzS, QgD, lk, D.can, D.canS, QU]) ?_
  exact QaT (B := [_, _]) hB (by repeat (first | exact QB | refine Qo (by first | decide | omega) ?_)) (by intro p hp h; simp only [QuU, QuT, or_false] at hp; rcases hp with rfl | rfl <;> first | rfl | (simp only at h; omega))
end Go.Proofs
namespace Go.Proofs
open Go Go.Abs M3 M25
theorem QcY {kg : Nat} {L : List Int} {I most : Int} {eg eu ec : Nat} (heu : eu = 56) (hec : ec = 63) (hkg : 1000000 <= kg) (hL : ∀ x ∈ L, I64 x) (hm0 : 1 <= most) (hm1 : most <= 5) : ∃ d H2, (∃ us I2, (UnitsIn us /\ 2 <= us.length /\ us.length <= 11) /\ d = .osl 500000 us.length /\ H2 = ((500000, ⟨us.map dUR, 3, eu, false⟩) :: fbx ec us) ++ [(kg, gB L I2 eg), (kg, gB L I eg)]) /\ OkH Tryz.prog 30 [.ref kg 0 0, .int .i64 most] [(kg, gB L I eg)] d H2 := by
 subst heu hec
 have e3 : ¬ kg = 500000 := by omega
 have k1 := Qpf (a := 18) (b := 500000) hkg (by decide) (by decide)
 have k2 := Qpf (a := 16) (b := 500001) hkg (by decide) (by decide)
 refine OkH.ofX (R := fun d H2 => ∃ us I2, (UnitsIn us /\ 2 <= us.length /\ us.length <= 11) /\ d = .osl 500000 us.length /\ H2 = ((500000, ⟨us.map dUR, 3, 56, false⟩) :: fbx 63 us) ++ [(kg, gB L I2 eg), (kg, gB L I eg)]) Z6 Tryz.func30 Qt1 (QuS Z) ?_
 show TX _ _ tf30.body _ _
 refine Zm fun K hK => Qb Z (hK _ _ (Q3 (kp2 Z Z) ?_))
 refine Zm fun K hK => ?_
 refine QM Z (by repeat (first | exact Z | refine Zw (by first | decide | omega) ?_)) ?_
 refine Qb Z (hK _ _ (Q3 (kp3 Z Z Z) ?_))
 refine Qma (Qj3 (l := [0, 1]) (B := [_]) (A := []) (H0 := [(kg, gB L I eg)]) 14 5 (kp2 rfl rfl) rfl rfl rfl rfl (by intro p hp hk; simp only [QuU, QuT, or_false] at hp; rcases hp with rfl | rfl <;> first | (simp [D.ids, D.sid, Q7, QU, QZ] at hk; done) | (simp [D.ids, D.sid, Q7, QU, QZ] at hk; omega)) (by intro p hp; cases hp) (by intro p hp h; simp only [Qu1] at hp; subst hp; simp only at h; omega) (fun k b h => by obtain ⟨rfl, rfl⟩ := Qae h; exact hkg) (fun k b h j hj => by obtain ⟨rfl, rfl⟩ := Qae h; simp [Box.ids, gB] at hj) (by intro p hp k hk; simp only [QuU, QuT, or_false] at hp; rcases hp with rfl | rfl <;> first | (simp [D.ids, D.sid, Q7, QU, QZ] at hk; done) | (simp [D.ids, D.sid, Q7, QU, QZ] at hk; subst hk; repeat (first | exact QY | refine QV ?_)))) ?_
 refine Zm fun K hK => QX Z Z ?_
 refine QM Z (by repeat (first | exact Z | refine Zw (by first | decide | omega) ?_)) ?_
 refine QX Z Z ?_
 refine QM Z (by repeat (first | exact Z | refine Zw (by first | decide | omega) ?_)) ?_
 refine Qb Z (hK _ _ (Q3 (kp4 Z Z Z Z) ?_))
 refine Zm fun K hK => QA (Xz) Z Z (.inl Z) (Qb Z (hK _ _ (Q3 (kp5 Z Z Z Z Z) ?_)))
 refine QaE ?_ -- 0
 refine Zm fun K hK => Qb Z (hK _ _ (Q3 (kp6 Z Z Z Z Z Z) ?_))
 refine Xn ?_
 refine Qfo (ι := List UR × Int × Nat) (fun ⟨us, J, n⟩ => ⟨[(0, .ref kg 0 0), (1, .int .i64 most), (5, .sl (Y2 names5)), (6, .osl 500000 us.length), (7, .sl (versions.map dVr)), (8, .int .i64 n)], [(500000, ⟨(us).map dUR, 3, 56, false⟩), (kg, gB L (J) eg)] ++ fbx 63 (us)⟩) (fun ⟨us, J, n⟩ => UnitsIn us /\ us.length <= 1 + 2 * n /\ n <= 5 /\ 1 + n <= us.length) (fun ⟨us, J, n⟩ => 5 - n) ([u0 v0], I, 0) ?_ ?_ ?_
 ·refine Qm5 (l := [0, 1, 5, 6, 7, 8]) hkg (kp6 Z Z Z Z Z Z) ?_; simp only [List.map_cons, List.map_nil, D.ren, D.renS, k1, k2]; rfl
 ·exact ⟨UnitsIn.zero, by simp, by omega, by simp⟩
 intro ⟨us, J, n⟩ hI
 try dsimp only at hI
 have e1 : ¬ kg = 500001 + us.length := by omega
 have e2 : ¬ 500000 = 500001 + us.length := by omega
 have e4 : ¬ 500001 + us.length = 500000 := by omega
 have hx0 : 0 <= nx L J most := Qja
 have hx1 : nx L J most < most := Qi9 (by omega)
 have hn5 := Zb
 have hv4 := Qq3
 try dsimp only
 refine QaE ?_ -- 1
 refine Zm fun K hK => Qb Z (Qb Z (Qb Z ?_))
 refine YP (Qcs (I := J) Z (by repeat (first | exact QB | refine Qo (by omega) ?_)) hL (by omega)) ?_
 refine Q8 Z Z (by first | exact Qr (by omega) (by omega) | rfl) (Yk Z Z (Qb Z ?_))
 refine Qz (g := 26) Z (fun h1 => ?_) (fun h1 => ?_)
 ·try rw [h1]
  try simp only [qA] at h1
  refine Qf Z (Qb Z (Qf Z (Qb Z (Qf Z ?_))))
  first | refine Q4 rfl Za ?_ | refine Q4 rfl rfl ?_
  refine Qf Z (Yk Z Z (Qj Z Z (hK _ _ (Q3 (kp7 Z Z Z Z Z Z Z) ?_))))
  refine XI Z (fun h2 => ?_) (fun h2 => ?_)
  ·try rw [h2]
   try simp only [qA] at h2
   refine XV (Zd (kp6 Z Z Z Z Z Z) ?_)
   refine QaE ?_ -- 2
   refine Xn (Zm fun K hK => Qb Z (hK _ _ (Q3 (kp7 Z Z Z Z Z Z Z) ?_)))
   refine Zm fun K hK => Qb Z ?_
   refine YP (Qcs (I := nxI J) Z (by repeat (first | exact QB | refine Qo (by omega) ?_)) hL (by omega)) ?_
   refine Qb Z (hK _ _ (Q3 (kp8 Z Z Z Z Z Z Z Z) ?_))
   refine QaE ?_ -- 3
   refine Zm fun K hK => Qb Z (hK _ _ (Q3 (kp9 Z Z Z Z Z Z Z Z Z) ?_))
   refine Xn ?_
   refine Qfo (ι := List CR × Nat) (fun ⟨cs, i⟩ => ⟨[(0, .ref kg 0 0), (1, .int .i64 most), (5, .sl (Y2 names5)), (6, .osl 500000 us.length), (7, .sl (versions.map dVr)), (8, .int .i64 n), (9, .osl (500001 + us.length) cs.length), (10, .int .i64 (nx L (nxI J) 16)), (11, .int .i64 i)], [(500001 + (us).length, ⟨(cs).map dCR, 8, 63, true⟩), (500000, ⟨(us).map dUR, 3, 56, false⟩), (kg, gB L (nxI (nxI J)) eg)] ++ fbx 63 (us)⟩) (fun ⟨cs, i⟩ => i <= 4 /\ CsIn i cs) (fun ⟨cs, i⟩ => 4 - i) ([], 0) ?_ ?_ ?_
   ·exact le_trans (YG 9 (500001 + us.length) 8 63 rfl (by repeat (first | exact Y3 hI.1.keys (.inr (by omega)) | refine Zw (by omega) ?_))) (Qri (l := [0, 1, 5, 6, 7, 8, 9, 10, 11]) (B := [_, _, _, _, _]) (kp9 rfl rfl rfl rfl rfl rfl rfl rfl rfl) rfl hI.1.keys (by repeat (first | exact QB | refine Qo (by omega) ?_)) (by repeat (first | exact QB | refine Qo (by omega) ?_)) (by repeat (first | exact QB | refine Qo (by omega) ?_)) (by intro p hp h; simp only [QuU, QuT, or_false] at hp; rcases hp with rfl | rfl | rfl | rfl | rfl <;> first | (simp only at h; omega) | exact .inl rfl | exact .inr rfl) (by intro p hp k hk; simp only [QuU, QuT, or_false] at hp; rcases hp with rfl | rfl | rfl | rfl | rfl | rfl | rfl | rfl | rfl <;> first | (simp [D.ids, D.sid, Q7, QU, QZ] at hk; done) | (simp [D.ids, D.sid, Q7, QU, QZ] at hk; subst hk; first | exact .inl rfl | exact .inr (.inl rfl) | exact .inr (.inr (.inl rfl)) | (refine .inr (.inr (.inl ?_)); simp; done) | (first | exact .inr (.inr ⟨_, Qu7 _ (Qu1.2 rfl), rfl⟩) | exact .inr (.inr (.inr ⟨_, Qu7 _ (Qu1.2 rfl), rfl⟩))))))
   ·exact ⟨by omega, CsIn.nil _⟩
   intro ⟨cs, i⟩ hC
   try dsimp only at hC
   have hcl := hC.2.1
   try dsimp only
   refine QaE ?_ -- 4
   refine Zm fun K hK => Qb Z (Qb Z ?_)
   first | refine Q4 rfl Za ?_ | refine Q4 rfl rfl ?_
   refine Yk Z Z (hK _ _ (Q3 (QkX Z Z Z Z Z Z Z Z Z Z) ?_))
   refine XI Z (fun h3 => ?_) (fun h3 => ?_)
   ·try rw [h3]
    try simp only [qA] at h3
    refine XV (Zd (kp9 Z Z Z Z Z Z Z Z Z) ?_)
    refine QaE ?_ -- 5
    refine Xn (Zm fun K hK => Qb Z (Qb Z (Qio Z (Qlu (by omega) (by omega)) (Qrw Z Z (by omega) (Qhh Z Z (Xb Z Z (hK _ _ (Q3 (QkX Z Z Z Z Z Z Z Z Z Z) ?_))))))))
    refine XI Z (fun h4 => ?_) (fun h4 => ?_)
    ·try rw [h4]
     try simp only [qA] at h4
     refine Yb fun K hK => Qb Z (Qb Z (Qb Z (QP Z Z Z (by omega) (Zj (by omega)) Z (QD (cs := [_, _, _, _, _]) Z Z Z Z (QX Z Z ?_)))))
     refine QM Z (by repeat (first | exact Y3 hI.1.keys (.inl (by omega)) | exact Y3 hK1.keys (.inl (by omega)) | refine Zw (by first | decide | omega) ?_)) ?_
     refine X8 (hk0 := by omega) Z Z (fun _ h => XK Z Z Z h) (Qo (by omega) QB) (by simp) Z Z Z (by simp; omega) (by simp; omega) (Qb Z (hK _ ?_))
     refine Qh (Zd (kp9 Z Z Z Z Z Z Z Z Z) (Yb fun K hK => Qb Z (Q8 Z Z (by first | exact Qr (by omega) (by omega) | rfl) (Qb Z (hK _ ?_)))))
     refine Ql (cs ++ [zr (versions[i]'(by omega)) 0], i + 1) ?_ ?_ ?_
     ·exact le_trans (QhN (B := [_, _, _, _, _]) (500001 + us.length) (QfE _ _)) (Qri (l := [0, 1, 5, 6, 7, 8, 9, 10, 11]) (B := [_, _, _, _, _]) (kp9 rfl rfl rfl rfl rfl rfl rfl rfl rfl) (by simp [D.scrub, e1, e2, e3, e4] <;> omega) hI.1.keys (by rw [List.map_append]; exact QB) (by repeat (first | exact QB | exact Qk1 (Qjt hI.1.keys) | refine Qo (by omega) ?_)) (by repeat (first | exact QB | refine Qo (by omega) ?_)) (by intro p hp h; simp only [QuU, QuT, or_false] at hp; rcases hp with rfl | rfl | rfl | rfl | rfl <;> first | (simp only at h; omega) | exact .inl rfl | exact .inr rfl) (by intro p hp k hk; simp only [QuU, QuT, or_false] at hp; rcases hp with rfl | rfl | rfl | rfl | rfl | rfl | rfl | rfl | rfl <;> first | (simp [D.ids, D.sid, Q7, QU, QZ] at hk; done) | (simp [D.ids, D.sid, Q7, QU, QZ] at hk; subst hk; first | exact .inl rfl | exact .inr (.inl rfl) | exact .inr (.inr (.inl rfl)) | (refine .inr (.inr (.inl ?_)); simp; done) | (first | exact .inr (.inr ⟨_, Qu7 _ (Qu1.2 rfl), rfl⟩) | exact .inr (.inr (.inr ⟨_, Qu7 _ (Qu1.2 rfl), rfl⟩))))))
     ·try dsimp only
      exact ⟨by omega, hC.2.snoc (Qsi (by omega))⟩
     ·show 4 - (i + 1) < 4 - i; omega
    ·try rw [h4]
     try simp only [qA] at h4
     refine XV (Qh (Zd (kp9 Z Z Z Z Z Z Z Z Z) (Yb fun K hK => Qb Z (Q8 Z Z (by first | exact Qr (by omega) (by omega) | rfl) (Qb Z (hK _ ?_))))))
     refine Ql (cs, i + 1) ?_ ?_ ?_
     ·exact Qri (l := [0, 1, 5, 6, 7, 8, 9, 10, 11]) (B := [_, _, _]) (kp9 rfl rfl rfl rfl rfl rfl rfl rfl rfl) rfl hI.1.keys (by repeat (first | exact QB | refine Qo (by omega) ?_)) (by repeat (first | exact QB | refine Qo (by omega) ?_)) (by repeat (first | exact QB | refine Qo (by omega) ?_)) (by intro p hp h; simp only [QuU, QuT, or_false] at hp; rcases hp with rfl | rfl | rfl <;> first | (simp only at h; omega) | exact .inl rfl | exact .inr rfl) (by intro p hp k hk; simp only [QuU, QuT, or_false] at hp; rcases hp with rfl | rfl | rfl | rfl | rfl | rfl | rfl | rfl | rfl <;> first | (simp [D.ids, D.sid, Q7, QU, QZ] at hk; done) | (simp [D.ids, D.sid, Q7, QU, QZ] at hk; subst hk; first | exact .inl rfl | exact .inr (.inl rfl) | exact .inr (.inr (.inl rfl)) | (refine .inr (.inr (.inl ?_)); simp; done) | (first | exact .inr (.inr ⟨_, Qu7 _ (Qu1.2 rfl), rfl⟩) | exact .inr (.inr (.inr ⟨_, Qu7 _ (Qu1.2 rfl), rfl⟩)))))
     ·try dsimp only
      exact ⟨by omega, hC.2.keep⟩
     ·show 4 - (i + 1) < 4 - i; omega
   ·try rw [h3]
    try simp only [qA] at h3
    refine QeI (X2 (Qy (QI (Zd (kp7 Z Z Z Z Z Z Z) (Zm fun K hK => Qb Z (Qb Z (Qb Z (QP Z Z Z (by omega) (Zj (by omega)) Z (QC Z Z Z (Qb Z ?_))))))))))
    refine QX Z Z ?_
    refine QM Z (by repeat (first | exact Y3 hI.1.keys (.inl (by omega)) | exact Y3 hK1.keys (.inl (by omega)) | refine Zw (by first | decide | omega) ?_)) ?_
    refine QjE (hk0 := by decide) Z Z (fun _ h => XK Z Z Z h) (Qo (by omega) (Qo (by omega) QB)) (by simp) Z Z (.inr (Qlr hI.1.keys (by omega))) (by simp; omega) (by simp; omega) (Qb Z (hK _ _ (Q3 (kp7 Z Z Z Z Z Z Z) ?_)))
    have hc4 : CsIn 4 cs := ⟨by omega, hC.2.2⟩
    refine Qma (le_trans (QhN (B := [_, _, _, _, _]) 500000 (QfE _ _)) (Qsg (u := (UR.mk (names5[n]'(by have := Zb; omega)) [] (500001 + us.length) cs)) (l := [0, 1, 5, 6, 7, 8, 9]) (fr' := [(0, .ref kg 0 0), (1, .int .i64 most), (5, .sl (Y2 names5)), (6, .osl 500000 (us ++ [(UR.mk (names5[n]'(by have := Zb; omega)) [] (500001 + us.length) cs)]).length), (7, .sl (versions.map dVr)), (8, .int .i64 n), (9, .osl (500001 + us.length) cs.length)]) (B := [_, _, _, _, _]) (kp7 rfl rfl rfl rfl rfl rfl rfl) (by simp [D.scrub, e1, e2, e3, e4]) hI.1.keys rfl (by repeat (first | exact QB | refine Qo (by omega) ?_)) (by rw [List.map_append]; exact QB) (by repeat (first | exact QB | refine Qo (by omega) ?_)) (by intro p hp h; simp only [QuU, QuT, or_false] at hp; rcases hp with rfl | rfl | rfl | rfl | rfl <;> first | (simp only at h; omega) | exact .inl rfl | exact .inr rfl) hkg (by omega) (by intro p hp k hk; simp only [QuU, QuT, or_false] at hp; rcases hp with rfl | rfl | rfl | rfl | rfl | rfl | rfl <;> first | (simp [D.ids, D.sid, Q7, QU, QZ] at hk; done) | (simp [D.ids, D.sid, Q7, QU, QZ] at hk; subst hk; first | exact .inl rfl | exact .inr (.inl rfl) | (first | exact .inr (.inr ⟨_, Qu7 _ (Qu1.2 rfl), rfl⟩) | exact .inr (.inr (.inr ⟨_, Qu7 _ (Qu1.2 rfl), rfl⟩))))))) ?_
    have hK1 := hI.1.snoc (n := (names5[n]'(by have := Zb; omega))) (f := []) hc4.1 hc4.2
    have hl1 : (us ++ [(UR.mk (names5[n]'(by have := Zb; omega)) [] (500001 + us.length) cs)]).length = us.length + 1 := by simp
    have f1 : ¬ kg = 500001 + (us ++ [(UR.mk (names5[n]'(by have := Zb; omega)) [] (500001 + us.length) cs)]).length := by omega
    have f2 : ¬ 500000 = 500001 + (us ++ [(UR.mk (names5[n]'(by have := Zb; omega)) [] (500001 + us.length) cs)]).length := by omega
    have f4 : ¬ 500001 + (us ++ [(UR.mk (names5[n]'(by have := Zb; omega)) [] (500001 + us.length) cs)]).length = 500000 := by omega
    have f5 : ¬ 500001 + us.length = 500001 + (us ++ [(UR.mk (names5[n]'(by have := Zb; omega)) [] (500001 + us.length) cs)]).length := by omega
    refine Zm fun K hK => Qb Z (Yk Z Z (Qb Z ?_))
    refine Qz (g := 67) Z (fun h5 => ?_) (fun h5 => ?_)
    ·try rw [h5]
     try simp only [qA] at h5
     refine Qf Z (Qb Z (Qf Z ?_))
     refine YP (Qcs (I := nxI (nxI J)) Z (by repeat (first | exact QB | refine Qo (by omega) ?_)) hL (by omega)) ?_
     refine Qf Z (Xb Z Z (Qj Z Z (hK _ _ (Q3 (kp8 Z Z Z Z Z Z Z Z) ?_))))
     refine XI Z (fun h6 => ?_) (fun h6 => ?_)
     ·try rw [h6]
      try simp only [qA] at h6
      refine Zm fun K hK => Qb Z (hK _ _ (Q3 (kp8 Z Z Z Z Z Z Z Z) ?_))
      refine QaE ?_ -- 6
      refine Zm fun K hK => Qb Z (hK _ _ (Q3 (kp9 Z Z Z Z Z Z Z Z Z) ?_))
      refine Xn ?_
      refine Qfo (ι := List CR × Nat × Int) (fun ⟨c2, m, J3⟩ => ⟨[(0, .ref kg 0 0), (1, .int .i64 most), (5, .sl (Y2 names5)), (6, .osl 500000 (us ++ [(UR.mk (names5[n]'(by have := Zb; omega)) [] (500001 + us.length) cs)]).length), (7, .sl (versions.map dVr)), (8, .int .i64 n), (9, .osl (500001 + us.length) cs.length), (12, .osl (500001 + (us ++ [(UR.mk (names5[n]'(by have := Zb; omega)) [] (500001 + us.length) cs)]).length) c2.length), (13, .int .i64 m)], [(500001 + (us ++ [(UR.mk (names5[n]'(by have := Zb; omega)) [] (500001 + us.length) cs)]).length, ⟨(c2).map dCR, 8, 63, true⟩), (500000, ⟨(us ++ [(UR.mk (names5[n]'(by have := Zb; omega)) [] (500001 + us.length) cs)]).map dUR, 3, 56, false⟩), (kg, gB L (J3) eg)] ++ fbx 63 (us ++ [(UR.mk (names5[n]'(by have := Zb; omega)) [] (500001 + us.length) cs)])⟩) (fun ⟨c2, m, J3⟩ => m <= cs.length /\ CsIn m c2) (fun ⟨c2, m, J3⟩ => cs.length - m) ([], 0, nxI (nxI (nxI J))) ?_ ?_ ?_
      ·exact le_trans (YG 12 (500001 + (us ++ [(UR.mk (names5[n]'(by have := Zb; omega)) [] (500001 + us.length) cs)]).length) 8 63 rfl (by repeat (first | exact Y3 hK1.keys (.inr (by omega)) | refine Zw (by omega) ?_))) (Qri (l := [0, 1, 5, 6, 7, 8, 9, 12, 13]) (B := [_, _, _, _]) (kp9 rfl rfl rfl rfl rfl rfl rfl rfl rfl) rfl hK1.keys (by repeat (first | exact QB | refine Qo (by omega) ?_)) (by repeat (first | exact QB | refine Qo (by omega) ?_)) (by repeat (first | exact QB | refine Qo (by omega) ?_)) (by intro p hp h; simp only [QuU, QuT, or_false] at hp; rcases hp with rfl | rfl | rfl | rfl <;> first | (simp only at h; omega) | exact .inl rfl | exact .inr rfl) (by intro p hp k hk; simp only [QuU, QuT, or_false] at hp; rcases hp with rfl | rfl | rfl | rfl | rfl | rfl | rfl | rfl | rfl <;> first | (simp [D.ids, D.sid, Q7, QU, QZ] at hk; done) | (simp [D.ids, D.sid, Q7, QU, QZ] at hk; subst hk; first | exact .inl rfl | exact .inr (.inl rfl) | exact .inr (.inr (.inl rfl)) | (refine .inr (.inr (.inl ?_)); simp; done) | (first | exact .inr (.inr ⟨_, Qu7 _ (Qu1.2 rfl), rfl⟩) | exact .inr (.inr (.inr ⟨_, Qu7 _ (Qu1.2 rfl), rfl⟩))))))
      ·exact ⟨by omega, CsIn.nil _⟩
      intro ⟨c2, m, J3⟩ hM
      try dsimp only at hM
      have hcl2 := hM.2.1
      try dsimp only
      refine QaE ?_ -- 7
      refine Zm fun K hK => Qb Z (Qb Z ?_)
      first | refine Q4 rfl Za ?_ | refine Q4 rfl rfl ?_
      refine Yk Z Z (hK _ _ (Q3 (QkX Z Z Z Z Z Z Z Z Z Z) ?_))
      refine XI Z (fun h7 => ?_) (fun h7 => ?_)
      ·try rw [h7]
       try simp only [qA] at h7
       refine XV (Zd (kp9 Z Z Z Z Z Z Z Z Z) ?_)
       refine QaE ?_ -- 8
       refine Xn (Zm fun K hK => Qb Z ?_)
       refine YP (Qcs (I := J3) Z (by repeat (first | exact QB | refine Qo (by omega) ?_)) hL (by omega)) ?_
       refine Qdx Z Z (hK _ _ (Q3 (QkX Z Z Z Z Z Z Z Z Z Z) ?_))
       refine XI Z (fun h8 => ?_) (fun h8 => ?_)
       ·try rw [h8]
        try simp only [qA] at h8
        refine Yb fun K hK => Qb Z (Qb Z (Qb Z (QaJ Z Z (Qo (by omega) (Qo (by omega) (Qo (by omega) (Qo (by omega) (Qhz (u := (UR.mk (names5[n]'(by have := Zb; omega)) [] (500001 + us.length) cs)) hI.1.keys Z))))) (by simp) (by omega) (by omega) Z (Qi Z (Zu (Qo (by omega) (Qo (by omega) (Qo (by omega) (Qo (by omega) (Qhz (u := (UR.mk (names5[n]'(by have := Zb; omega)) [] (500001 + us.length) cs)) hI.1.keys Z)))))) (QD (cs := [_, _, _, _, _]) Z (Yp (Qo (by omega) (Qo (by omega) (Qo (by omega) (Qo (by omega) (Qhz (u := (UR.mk (names5[n]'(by have := Zb; omega)) [] (500001 + us.length) cs)) hI.1.keys Z))))) (Zj (l := cs) (by omega))) Z Z (QX Z Z ?_))))))
        refine QM Z (by repeat (first | exact Y3 hI.1.keys (.inl (by omega)) | exact Y3 hK1.keys (.inl (by omega)) | refine Zw (by first | decide | omega) ?_)) ?_
        refine X8 (hk0 := by omega) Z Z (fun _ h => XK Z Z Z h) (Qo (by omega) (Qo (by omega) QB)) (by simp) Z Z Z (by simp; omega) (by simp; omega) (Qb Z (hK _ ?_))
        refine Qh (Zd (kp9 Z Z Z Z Z Z Z Z Z) (Yb fun K hK => Qb Z (Q8 Z Z (by first | exact Qr (by omega) (by omega) | rfl) (Qb Z (hK _ ?_)))))
        refine Ql (c2 ++ [zr (cs[m]'(by omega)).v 0], m + 1, nxI J3) ?_ ?_ ?_
        ·exact le_trans (QhN (B := [_, _, _, _, _, _]) (500001 + (us ++ [(UR.mk (names5[n]'(by have := Zb; omega)) [] (500001 + us.length) cs)]).length) (QfE _ _)) (Qri (l := [0, 1, 5, 6, 7, 8, 9, 12, 13]) (B := [_, _, _, _, _, _]) (kp9 rfl rfl rfl rfl rfl rfl rfl rfl rfl) (by simp [D.scrub, f1, f2, f4, f5] <;> omega) hK1.keys (by rw [Qqk (cs := c2)]; exact QB) (by repeat (first | exact QB | exact Qk1 (Qjt hK1.keys) | refine Qo (by omega) ?_)) (by repeat (first | exact QB | refine Qo (by omega) ?_)) (by intro p hp h; simp only [QuU, QuT, or_false] at hp; rcases hp with rfl | rfl | rfl | rfl | rfl | rfl <;> first | (simp only at h; omega) | exact .inl rfl | exact .inr rfl) (by intro p hp k hk; simp only [QuU, QuT, or_false] at hp; rcases hp with rfl | rfl | rfl | rfl | rfl | rfl | rfl | rfl | rfl <;> first | (simp [D.ids, D.sid, Q7, QU, QZ] at hk; done) | (simp [D.ids, D.sid, Q7, QU, QZ] at hk; subst hk; first | exact .inl rfl | exact .inr (.inl rfl) | exact .inr (.inr (.inl rfl)) | (refine .inr (.inr (.inl ?_)); simp; done) | (first | exact .inr (.inr ⟨_, Qu7 _ (Qu1.2 rfl), rfl⟩) | exact .inr (.inr (.inr ⟨_, Qu7 _ (Qu1.2 rfl), rfl⟩))))))
        ·try dsimp only
         exact ⟨by omega, hM.2.snoc (hC.2.at (by omega))⟩
        ·show cs.length - (m + 1) < cs.length - m; omega
       ·try rw [h8]
        try simp only [qA] at h8
        refine XV (Qh (Zd (kp9 Z Z Z Z Z Z Z Z Z) (Yb fun K hK => Qb Z (Q8 Z Z (by first | exact Qr (by omega) (by omega) | rfl) (Qb Z (hK _ ?_))))))
        refine Ql (c2, m + 1, nxI J3) ?_ ?_ ?_
        ·exact Qri (l := [0, 1, 5, 6, 7, 8, 9, 12, 13]) (B := [_, _, _, _]) (kp9 rfl rfl rfl rfl rfl rfl rfl rfl rfl) rfl hK1.keys (by repeat (first | exact QB | refine Qo (by omega) ?_)) (by repeat (first | exact QB | refine Qo (by omega) ?_)) (by repeat (first | exact QB | refine Qo (by omega) ?_)) (by intro p hp h; simp only [QuU, QuT, or_false] at hp; rcases hp with rfl | rfl | rfl | rfl <;> first | (simp only at h; omega) | exact .inl rfl | exact .inr rfl) (by intro p hp k hk; simp only [QuU, QuT, or_false] at hp; rcases hp with rfl | rfl | rfl | rfl | rfl | rfl | rfl | rfl | rfl <;> first | (simp [D.ids, D.sid, Q7, QU, QZ] at hk; done) | (simp [D.ids, D.sid, Q7, QU, QZ] at hk; subst hk; first | exact .inl rfl | exact .inr (.inl rfl) | exact .inr (.inr (.inl rfl)) | (refine .inr (.inr (.inl ?_)); simp; done) | (first | exact .inr (.inr ⟨_, Qu7 _ (Qu1.2 rfl), rfl⟩) | exact .inr (.inr (.inr ⟨_, Qu7 _ (Qu1.2 rfl), rfl⟩)))))
        ·try dsimp only
         exact ⟨by omega, hM.2.keep⟩
        ·show cs.length - (m + 1) < cs.length - m; omega
      ·try rw [h7]
       try simp only [qA] at h7
       refine QeI (X2 (Qy (QI (Zd (kp7 Z Z Z Z Z Z Z) (Yb fun K hK => Qb Z (Qb Z (Qb Z (QP Z Z Z (by omega) (Zj (by omega)) Z (QC Z Z Z (Qb Z ?_))))))))))
       refine QX Z Z ?_
       refine QM Z (by repeat (first | exact Y3 hI.1.keys (.inl (by omega)) | exact Y3 hK1.keys (.inl (by omega)) | refine Zw (by first | decide | omega) ?_)) ?_
       refine QjE (hk0 := by decide) Z Z (fun _ h => XK Z Z Z h) (Qo (by omega) (Qo (by omega) QB)) (by simp) Z Z (.inr (Qlr hK1.keys (by omega))) (by simp; omega) (by simp; omega) (Qb Z (hK _ ?_))
       refine Qh (Zd (kp6 Z Z Z Z Z Z) (Yb fun K hK => Qb Z (Q8 Z Z (by first | exact Qr (by omega) (by omega) | rfl) (Qb Z (hK _ ?_)))))
       refine Ql (us ++ [(UR.mk (names5[n]'(by have := Zb; omega)) [] (500001 + us.length) cs)] ++ [(UR.mk (names5[n]'(by have := Zb; omega)) [102] (500001 + (us ++ [(UR.mk (names5[n]'(by have := Zb; omega)) [] (500001 + us.length) cs)]).length) c2)], J3, n + 1) ?_ ?_ ?_
       ·exact le_trans (QhN (B := [_, _, _, _, _]) 500000 (QfE _ _)) (Qsg (u := (UR.mk (names5[n]'(by have := Zb; omega)) [102] (500001 + (us ++ [(UR.mk (names5[n]'(by have := Zb; omega)) [] (500001 + us.length) cs)]).length) c2)) (l := [0, 1, 5, 6, 7, 8]) (B := [_, _, _, _, _]) (kp6 rfl rfl rfl rfl rfl rfl) (by simp [D.scrub, f1, f2, e3, f4, e4] <;> omega) hK1.keys rfl (by repeat (first | exact QB | refine Qo (by omega) ?_)) (by rw [Qq1 (u := (UR.mk (names5[n]'(by have := Zb; omega)) [102] (500001 + (us ++ [(UR.mk (names5[n]'(by have := Zb; omega)) [] (500001 + us.length) cs)]).length) c2))]; exact QB) (by repeat (first | exact QB | refine Qo (by omega) ?_)) (by intro p hp h; simp only [QuU, QuT, or_false] at hp; rcases hp with rfl | rfl | rfl | rfl | rfl <;> first | (simp only at h; omega) | exact .inl rfl | exact .inr rfl) hkg (by omega) (by intro p hp k hk; simp only [QuU, QuT, or_false] at hp; rcases hp with rfl | rfl | rfl | rfl | rfl | rfl <;> first | (simp [D.ids, D.sid, Q7, QU, QZ] at hk; done) | (simp [D.ids, D.sid, Q7, QU, QZ] at hk; subst hk; first | exact .inl rfl | exact .inr (.inl rfl) | (first | exact .inr (.inr ⟨_, Qu7 _ (Qu1.2 rfl), rfl⟩) | exact .inr (.inr (.inr ⟨_, Qu7 _ (Qu1.2 rfl), rfl⟩))))))
       ·try dsimp only
        exact ⟨hK1.snoc (by omega) hM.2.2, by simp; omega, by omega, by simp; omega⟩
       ·show 5 - (n + 1) < 5 - n; omega
     ·try rw [h6]
      try simp only [qA] at h6
      refine XV (Qh (Zd (kp6 Z Z Z Z Z Z) (Yb fun K hK => Qb Z (Q8 Z Z (by first | exact Qr (by omega) (by omega) | rfl) (Qb Z (hK _ ?_))))))
      refine Ql (us ++ [(UR.mk (names5[n]'(by have := Zb; omega)) [] (500001 + us.length) cs)], nxI (nxI (nxI J)), n + 1) ?_ ?_ ?_
      ·exact QtI (l := [0, 1, 5, 6, 7, 8]) (B := [_, _, _]) (kp6 rfl rfl rfl rfl rfl rfl) rfl hK1.keys (by repeat (first | exact QB | refine Qo (by omega) ?_)) (by repeat (first | exact QB | refine Qo (by omega) ?_)) (by intro p hp h; simp only [QuU, QuT, or_false] at hp; rcases hp with rfl | rfl | rfl <;> first | (simp only at h; omega) | rfl) (by omega) (by intro p hp k hk; simp only [QuU, QuT, or_false] at hp; rcases hp with rfl | rfl | rfl | rfl | rfl | rfl <;> first | (simp [D.ids, D.sid, Q7, QU, QZ] at hk; done) | (simp [D.ids, D.sid, Q7, QU, QZ] at hk; subst hk; first | exact .inl rfl | exact .inr (.inl rfl) | (first | exact .inr (.inr ⟨_, Qu7 _ (Qu1.2 rfl), rfl⟩) | exact .inr (.inr (.inr ⟨_, Qu7 _ (Qu1.2 rfl), rfl⟩)))))
      ·try dsimp only
       exact ⟨hK1, by simp; omega, by omega, by simp; omega⟩
      ·show 5 - (n + 1) < 5 - n; omega
    ·try rw [h5]
     try simp only [qA] at h5
     refine Qs Z (Qs Z (Qs Z (Qj Z Z (hK _ _ (Q3 (kp8 Z Z Z Z Z Z Z Z) ?_)))))
     refine Ql9 Z (XV (Qh (Zd (kp6 Z Z Z Z Z Z) (Yb fun K hK => Qb Z (Q8 Z Z (by first | exact Qr (by omega) (by omega) | rfl) (Qb Z (hK _ ?_)))))))
     refine Ql (us ++ [(UR.mk (names5[n]'(by have := Zb; omega)) [] (500001 + us.length) cs)], nxI (nxI J), n + 1) ?_ ?_ ?_
     ·exact QtI (l := [0, 1, 5, 6, 7, 8]) (B := [_, _]) (kp6 rfl rfl rfl rfl rfl rfl) rfl hK1.keys (by repeat (first | exact QB | refine Qo (by omega) ?_)) (by repeat (first | exact QB | refine Qo (by omega) ?_)) (by intro p hp h; simp only [QuU, QuT, or_false] at hp; rcases hp with rfl | rfl <;> first | (simp only at h; omega) | rfl) (by omega) (by intro p hp k hk; simp only [QuU, QuT, or_false] at hp; rcases hp with rfl | rfl | rfl | rfl | rfl | rfl <;> first | (simp [D.ids, D.sid, Q7, QU, QZ] at hk; done) | (simp [D.ids, D.sid, Q7, QU, QZ] at hk; subst hk; first | exact .inl rfl | exact .inr (.inl rfl) | (first | exact .inr (.inr ⟨_, Qu7 _ (Qu1.2 rfl), rfl⟩) | exact .inr (.inr (.inr ⟨_, Qu7 _ (Qu1.2 rfl), rfl⟩)))))
     ·try dsimp only
      exact ⟨hK1, by simp; omega, by omega, by simp; omega⟩
     ·show 5 - (n + 1) < 5 - n; omega
  ·try rw [h2]
   try simp only [qA] at h2
   refine QeI (X2 (Qy (QI (Zd (kp1 Z) (Zm fun K hK => Qb Z (Qb Z (hK _ _ (Q3 (kp1 Z) ?_))))))))
   refine Qis ?_
   refine ⟨.osl 500000 us.length, ((500000, ⟨us.map dUR, 3, 56, false⟩) :: fbx 63 us) ++ [(kg, gB L (nxI J) eg), (kg, gB L I eg)], ⟨us, _, ⟨hI.1, by omega, by omega⟩, rfl, rfl⟩, (Qbu (g3 := gB L J eg) hI.1.keys hkg Z Z (by omega)).1, (Qbu (g3 := gB L J eg) hI.1.keys hkg Z Z (by omega)).2.1, QaB Z Z (Qbu (g3 := gB L J eg) hI.1.keys hkg Z Z (by omega)).2.2⟩
 ·try rw [h1]
  try simp only [qA] at h1
  refine Qs Z (Qs Z (Qs Z (Qs Z (Qj Z Z (hK _ _ (Q3 (kp7 Z Z Z Z Z Z Z) ?_))))))
  refine Ql9 Z (QeI (X2 (Qy (QI (Zd (kp1 Z) (Zm fun K hK => Qb Z (Qb Z (hK _ _ (Q3 (kp1 Z) ?_)))))))))
  refine Qis ?_
  refine ⟨.osl 500000 us.length, ((500000, ⟨us.map dUR, 3, 56, false⟩) :: fbx 63 us) ++ [(kg, gB L (nxI J) eg), (kg, gB L I eg)], ⟨us, _, ⟨hI.1, by omega, by omega⟩, rfl, rfl⟩, (Qbu (g3 := gB L J eg) hI.1.keys hkg Z Z (by omega)).1, (Qbu (g3 := gB L J eg) hI.1.keys hkg Z Z (by omega)).2.1, QaB Z Z (Qbu (g3 := gB L J eg) hI.1.keys hkg Z Z (by omega)).2.2⟩
end Go.Proofs
