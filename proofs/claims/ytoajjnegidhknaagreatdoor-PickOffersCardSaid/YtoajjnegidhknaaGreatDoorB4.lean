/- Part 4 of the means of the proof: a verified abstract evaluator, the prepared functions, and contracts of functions. It states nothing of the claim by itself. -/
import Derived.Test.YtoajjnegidhknaaGreatDoorB3
set_option maxRecDepth 4000
set_option linter.unusedSimpArgs false
set_option linter.unusedVariables false
namespace Go.Proofs
open Go Go.Abs M3
theorem QhP {a b : List UInt8} (ha : a.length <= 1000000) (hb : b.length <= 1000000) : Ok Tryz.prog 148 [.str a, .str b] (.int .i64 (QgX a b)) := by
 refine Ok.ofT Z4 Tryz.func148 QtQ (Qvd Z) ?_
 show TW _ _ tf148.body _ _
 refine Qe fun K hK => Qb Z (hK _ _ (Qa (kp2 Z Z) ?_))
 refine Qe fun K hK => Qb Z (QA (XO (by omega)) Z Z (.inr Z) (Qb Z (QA (XO (by omega)) Z Z (.inr Z) (Qb Z (Qb Z (hK _ _ (Qa (kp4 Z Z Z Z) ?_)))))))
 refine QF ?_ -- 0
 refine Qe fun K hK => Qb Z (Qb Z ?_)
 refine Qv (g := 16) Z (fun h1 => ?_) (fun h1 => ?_)
 ·try rw [h1]
  try simp only [qB] at h1
  refine Qf Z (Qb Z (Qh Z Z (hK _ _ (Qa (kp5 Z Z Z Z Z) ?_))))
  refine Qx Z (fun h2 => ?_) (fun h2 => ?_)
  ·try rw [h2]
   try simp only [qB] at h2
   refine Qe fun K hK => Qb Z (QA (Qa8 (by omega)) Z Z (.inr Z) (Qb Z (Q6 Z Z (Q6 Z Z (Qb Z (Qb Z (hK _ _ (Qa (kp2 Z Z) ?_))))))))
   refine Qe fun K hK => Qb Z (QA (Qa8 (by omega)) Z Z (.inr Z) (Qb Z (Q6 Z Z (Q6 Z Z (Qb Z (Qb Z (hK _ _ (Qa (kp2 Z Z) ?_))))))))
   refine Qe fun K hK => Qb Z (Qb Z (QA (ZT) Z Z (.inr Z) (Qb Z (hK _ _ (Qa (kp1 Z) ?_)))))
   refine Qt (Qk (Qy Z ?_))
   (repeat clear hK K); first | (simp [QgX, h1, h2]; done) | (simp_all [QgX]; done)
  ·try rw [h2]
   try simp only [qB] at h2
   refine Qu (Qd (kp4 Z Z Z Z) ?_)
   refine QF ?_ -- 1
   refine Qe fun K hK => Qb Z (Qb Z (QrK Z Z (hK _ _ (Qa (kp4 Z Z Z Z) ?_))))
   refine Qx Z (fun h3 => ?_) (fun h3 => ?_)
   ·try rw [h3]
    try simp only [qB] at h3
    refine QF ?_ -- 2
    refine Qe fun K hK => Qb Z (hK _ _ (Qa (kp1 Z) ?_))
    refine Zn Z (Qe fun K hK => Qb Z (hK _ _ (Qa (kp1 Z) ?_)))
    refine Qt (Qk (Qk (Qy Z ?_)))
    (repeat clear hK K); first | (simp [QgX, h1, h2, h3]; done) | (simp_all [QgX]; done)
   ·try rw [h3]
    try simp only [qB] at h3
    refine Qu (Qd (kp2 Z Z) (Qe fun K hK => Qb Z (Qb Z (QA (Qaa) Z Z (.inr Z) (Qb Z (hK _ _ (Qa (kp1 Z) ?_)))))))
    refine Qt (Qy Z ?_)
    (repeat clear hK K); first | (simp [QgX, h1, h2, h3]; done) | (simp_all [QgX]; done)
 ·try rw [h1]
  try simp only [qB] at h1
  refine Qq Z (Qh Z Z (hK _ _ (Qa (kp5 Z Z Z Z Z) ?_)))
  refine Zq Z (Qu (Qd (kp4 Z Z Z Z) ?_))
  refine QF ?_ -- 1
  refine Qe fun K hK => Qb Z (Qb Z (QrK Z Z (hK _ _ (Qa (kp4 Z Z Z Z) ?_))))
  refine Qx Z (fun h4 => ?_) (fun h4 => ?_)
  ·try rw [h4]
   try simp only [qB] at h4
   refine QF ?_ -- 2
   refine Qe fun K hK => Qb Z (hK _ _ (Qa (kp1 Z) ?_))
   refine Zq Z (Qu (Qd (ZC) (Qe fun K hK => Qb Z (hK _ _ (Qa (kp1 Z) ?_)))))
   refine Qt (Qk (Qy Z ?_))
   (repeat clear hK K); first | (simp [QgX, h1, h4]; done) | (simp_all [QgX]; done)
  ·try rw [h4]
   try simp only [qB] at h4
   refine Qu (Qd (kp2 Z Z) (Qe fun K hK => Qb Z (Qb Z (QA (Qaa) Z Z (.inr Z) (Qb Z (hK _ _ (Qa (kp1 Z) ?_)))))))
   refine Qt (Qy Z ?_)
   (repeat clear hK K); first | (simp [QgX, h1, h4]; done) | (simp_all [QgX]; done)
theorem QhO {s : List UInt8} (hl : s.length <= 1000000) : Ok Tryz.prog 115 [.str s] (.bool (QgY s)) := by
 refine Ok.ofT Z4 Tryz.func115 Qtn (Qvd Z) ?_
 show TW _ _ tf115.body _ _
 refine Qe fun K hK => Qb Z (hK _ _ (Qa (kp1 Z) ?_))
 refine QF ?_ -- 0
 refine Qe fun K hK => Qb Z (QA (Qbb (by omega)) Z Z (.inr Z) (ZP Z (hK _ _ (Qa (kp2 Z Z) ?_))))
 refine Qx Z (fun h1 => ?_) (fun h1 => ?_)
 ·try rw [h1]
  try simp only [qB, Qr] at h1
  refine Qe fun K hK => Qb Z (hK _ _ (Qa (kp1 Z) ?_))
  refine Qt (Qk (Ql Z ?_))
  first | (simp [QgY, h1]; done) | exact (Qkv (i := i) (by omega) (by simp [Qfg, h1])).symm | exact (Qil (i := i) (by assumption) (by omega) hI.2).symm
 ·try rw [h1]
  try simp only [qB, Qr] at h1
  refine Qu (Qd (kp1 Z) ?_)
  refine QF ?_ -- 1
  refine Qe fun K hK => Qb Z (QA (Qaj (by omega)) Z Z (.inl Z) (Q0 Z Z (Qb Z (hK _ _ (Qa (kp3 Z Z Z) ?_)))))
  refine QG ?_
  refine ZH (ι := Nat) (fun i => ⟨[(11, .sl (Y8 (Zc s 46))), (12, .int .i64 (Zc s 46).length), (13, .int .i64 i)], []⟩) (fun i => i <= (Zc s 46).length /\ ((Zc s 46).take i).all Qfg = true) (fun i => (Zc s 46).length - i) 0 ?_ ?_ ?_
  ·exact Q1 (l := [11, 12, 13]) (kp3 rfl rfl rfl) Qp (by simp [Qr]) rfl rfl
  ·exact ⟨Qvp _, rfl⟩
  intro i hI
  have sl := Qew (s := s) (c := 46)
  try dsimp only
  refine Qe fun K hK => Z8 Z Z (hK _ _ (Qa (kp4 Z Z Z Z) ?_))
  refine QF ?_ -- 2
  refine Qx Z (fun h2 => ?_) (fun h2 => ?_)
  ·try rw [h2]
   try simp only [qB, Qr] at h2
   refine Qu (Qd (kp3 Z Z Z) ?_)
   refine QF ?_ -- 3
   refine QG (Qe fun K hK => QM Z Z Z (by omega) (Qan (by omega)) Z (QC Z Z Z (Qb Z (hK _ _ (Qa (kp4 Z Z Z Z) ?_)))))
   refine Qe fun K hK => Qb Z (QA (Qa8 (Qaq (by omega) hl)) Z Z (.inr Z) (Qb Z (Q6 Z Z (Q6 Z Z (Qb Z (Qb Z (hK _ _ (Qa (kp5 Z Z Z Z Z) ?_))))))))
   refine Qe fun K hK => Qb Z (QA (XO (Qaq (by omega) hl)) Z Z (.inr Z) (Qb Z ?_))
   refine Qv (g := 24) Z (fun h3 => ?_) (fun h3 => ?_)
   ·try rw [h3]
    try simp only [qB, Qr] at h3
    refine Qf Z (Qb Z (Qf Z (ZP Z (Qh Z Z (hK _ _ (Qa (kp4 Z Z Z Z) ?_))))))
    refine Qx Z (fun h4 => ?_) (fun h4 => ?_)
    ·try rw [h4]
     try simp only [qB, Qr] at h4
     refine Qe fun K hK => Qb Z (hK _ _ (Qa (kp1 Z) ?_))
     refine Qt (Qw (Qk (Q4 (Qw (Qk (Ql Z ?_))))))
     first | (simp [QgY, h1, h2, h3, h4]; done) | exact (Qkv (i := i) (by omega) (by simp [Qfg, h1, h2, h3, h4])).symm | exact (Qil (i := i) (by assumption) (by omega) hI.2).symm
    ·try rw [h4]
     try simp only [qB, Qr] at h4
     refine Qu (Qj (Qd (kp3 Z Z Z) (QR fun K hK => Q9 Z Z (by first | exact Qs (by omega) (by omega) | exact QN (by omega) (by omega) | exact QV (by omega) (by omega) | rfl) (Qb Z (hK _ ?_)))))
     refine Qm (i + 1) ?_ ?_ ?_
     ·exact Q7 (kp3 rfl rfl rfl)
     ·exact ⟨by omega, Zo (by omega) hI.2 (by simp [Qfg, h1, h2, h3, h4])⟩
     ·first | omega | (simp only; omega) | (dsimp only; omega)
   ·try rw [h3]
    try simp only [qB, Qr] at h3
    refine Qq Z (Qq Z (Qh Z Z (hK _ _ (Qa (kp4 Z Z Z Z) ?_))))
    refine Zq Z (Qu (Qj (Qd (kp3 Z Z Z) (QR fun K hK => Q9 Z Z (by first | exact Qs (by omega) (by omega) | exact QN (by omega) (by omega) | exact QV (by omega) (by omega) | rfl) (Qb Z (hK _ ?_))))))
    refine Qm (i + 1) ?_ ?_ ?_
    ·exact Q7 (kp3 rfl rfl rfl)
    ·exact ⟨by omega, Zo (by omega) hI.2 (by simp [Qfg, h1, h2, h3])⟩
    ·first | omega | (simp only; omega) | (dsimp only; omega)
  ·try rw [h2]
   try simp only [qB, Qr] at h2
   refine Zf (QK (Qz (QH (Qd (ZC) (Qe fun K hK => Qb Z (hK _ _ (Qa (kp1 Z) ?_)))))))
   refine Qt (Ql Z ?_)
   first | (simp [QgY, h1, h2]; done) | exact (Qkv (i := i) (by omega) (by simp [Qfg, h1, h2])).symm | exact (Qil (i := i) (by assumption) (by omega) hI.2).symm
theorem Y7 {a b c : Int} {p q : List UInt8} (hp : p.length <= 1000000) (hq : q.length <= 1000000) : Ok Tryz.prog 97 [.agg [.int .i64 a, .int .i64 b, .int .i64 c, .str p, .str q]] (.bool (QbO a b c p q)) := by
 refine Ok.ofT Z4 Tryz.func97 Qu9 (Qvd Z) ?_
 show TW _ _ tf97.body _ _
 refine Qe fun K hK => Zy Z Z Z (Qb Z (hK _ _ (Qa (kp1 Z) ?_)))
 refine Qe fun K hK => Qg Z Z (QC Z Z Z (QA (Qba) Z Z (.inr Z) (Qb Z ?_)))
 refine Qv (g := 6) Z (fun h1 => ?_) (fun h1 => ?_)
 ·try rw [h1]
  try simp only [qB] at h1
  refine Qf Z (Qg Z Z (Qf Z (QC Z Z Z (Qf Z (QA (Qba) Z Z (.inr Z) (Qh Z Z (Qb Z ?_)))))))
  refine Qv (g := 11) Z (fun h2 => ?_) (fun h2 => ?_)
  ·try rw [h2]
   try simp only [qB] at h2
   refine Qf Z (Qg Z Z (Qf Z (QC Z Z Z (Qf Z (QA (Qba) Z Z (.inr Z) (Qh Z Z (Qb Z ?_)))))))
   refine Qv (g := 16) Z (fun h3 => ?_) (fun h3 => ?_)
   ·try rw [h3]
    try simp only [qB] at h3
    refine Qf Z (Qg Z Z (Qf Z (QC Z Z Z (Qf Z (Qb2 Z Z (Qf Z (Qb Z ?_)))))))
    refine Qv (g := 20) Z (fun h4 => ?_) (fun h4 => ?_)
    ·try rw [h4]
     try simp only [qB] at h4
     refine Qq Z (Qq Z (Qq Z (Qf Z (Qh Z Z (Qh Z Z (Qb Z (Qf Z (Qg Z Z (Qf Z (QC Z Z Z (Qf Z ?_)))))))))))
     refine Qb2 Z Z (Qf Z (Qb Z ?_))
     refine Qv (g := 30) Z (fun h5 => ?_) (fun h5 => ?_)
     ·try rw [h5]
      try simp only [qB] at h5
      refine Qq Z (Qq Z (Qq Z (Qf Z (Qh Z Z (Qh Z Z (Qb Z (hK _ _ (Qa (kp1 Z) ?_))))))))
      refine Qt (Ql Z ?_)
      simp [QbO, Y3, Xx, h1, h2, h3, h4, h5]
     ·try rw [h5]
      try simp only [qB] at h5
      refine Qf Z (Qg Z Z (Qf Z (QC Z Z Z (Qf Z (QA (Qbb (by omega)) Z Z (.inr Z) (Qf Z (Qh Z Z (Qh Z Z (Qb Z (hK _ _ (Qa (kp1 Z) ?_)))))))))))
      refine Qt (Ql Z ?_)
      simp [QbO, Y3, Xx, h1, h2, h3, h4, h5]
    ·try rw [h4]
     try simp only [qB] at h4
     refine Qf Z (Qg Z Z (Qf Z (QC Z Z Z (Qf Z (QA (QhO (by omega)) Z Z (.inr Z) (Qf Z (Qh Z Z (Qh Z Z (Qb Z ?_)))))))))
     refine Qv (g := 26) Z (fun h6 => ?_) (fun h6 => ?_)
     ·try rw [h6]
      try simp only [qB] at h6
      refine Qf Z (Qg Z Z (Qf Z (QC Z Z Z (Qf Z (Qb2 Z Z (Qf Z (Qb Z ?_)))))))
      refine Qv (g := 30) Z (fun h7 => ?_) (fun h7 => ?_)
      ·try rw [h7]
       try simp only [qB] at h7
       refine Qq Z (Qq Z (Qq Z (Qf Z (Qh Z Z (Qh Z Z (Qb Z (hK _ _ (Qa (kp1 Z) ?_))))))))
       refine Qt (Ql Z ?_)
       simp [QbO, Y3, Xx, h1, h2, h3, h4, h6, h7]
      ·try rw [h7]
       try simp only [qB] at h7
       refine Qf Z (Qg Z Z (Qf Z (QC Z Z Z (Qf Z (QA (Qbb (by omega)) Z Z (.inr Z) (Qf Z (Qh Z Z (Qh Z Z (Qb Z (hK _ _ (Qa (kp1 Z) ?_)))))))))))
       refine Qt (Ql Z ?_)
       simp [QbO, Y3, Xx, h1, h2, h3, h4, h6, h7]
     ·try rw [h6]
      try simp only [qB] at h6
      refine Qq Z (Qq Z (Qq Z (Qq Z (QJ Z (QJ Z (QJ Z (Qq Z (Qh Z Z (Qb Z (hK _ _ (Qa (kp1 Z) ?_)))))))))))
      refine Qt (Ql Z ?_)
      simp [QbO, Y3, Xx, h1, h2, h3, h4, h6]
   ·try rw [h3]
    try simp only [qB] at h3
    refine Qq Z (Qq Z (Qq Z (Qq Z (QJ Z (QJ Z (QJ Z (Qq Z (Qh Z Z (Qb Z (Qq Z (Qq Z ?_)))))))))))
    refine Qq Z (Qq Z (QJ Z (QJ Z (QJ Z (Qq Z (Qh Z Z (Qb Z (hK _ _ (Qa (kp1 Z) ?_)))))))))
    refine Qt (Ql Z ?_)
    simp [QbO, Y3, Xx, h1, h2, h3]
  ·try rw [h2]
   try simp only [qB] at h2
   refine Qq Z (Qq Z (Qq Z (Qh Z Z (Qb Z (Qq Z (Qq Z (Qq Z (Qq Z (QJ Z (QJ Z (QJ Z ?_)))))))))))
   refine Qq Z (Qh Z Z (Qb Z (Qq Z (Qq Z (Qq Z (Qq Z (QJ Z (QJ Z (QJ Z (Qq Z (Qh Z Z ?_)))))))))))
   refine Qb Z (hK _ _ (Qa (kp1 Z) ?_))
   refine Qt (Ql Z ?_)
   simp [QbO, Y3, Xx, h1, h2]
 ·try rw [h1]
  try simp only [qB] at h1
  refine Qq Z (Qq Z (Qq Z (Qh Z Z (Qb Z (Qq Z (Qq Z (Qq Z (Qh Z Z (Qb Z (Qq Z (Qq Z ?_)))))))))))
  refine Qq Z (Qq Z (QJ Z (QJ Z (QJ Z (Qq Z (Qh Z Z (Qb Z (Qq Z (Qq Z (Qq Z (Qq Z ?_)))))))))))
  refine QJ Z (QJ Z (QJ Z (Qq Z (Qh Z Z (Qb Z (hK _ _ (Qa (kp1 Z) ?_)))))))
  refine Qt (Ql Z ?_)
  simp [QbO, Y3, Xx, h1]
theorem Qbo {a b c : Int} {p q : List UInt8} (hp : p.length <= 1000000) (hq : q.length <= 1000000) {a' b' c' : Int} {p' q' : List UInt8} (hp' : p'.length <= 1000000) (hq' : q'.length <= 1000000) : Ok Tryz.prog 143 [.agg [.int .i64 a, .int .i64 b, .int .i64 c, .str p, .str q], .agg [.int .i64 a', .int .i64 b', .int .i64 c', .str p', .str q']] (.int .i64 (Qdy a b c p q a' b' c' p' q')) := by
 refine Ok.ofT Z4 Tryz.func143 QtL (Qvd Z) ?_
 show TW _ _ tf143.body _ _
 refine Qe fun K hK => Zy Z Z Z (Zy Z Z Z (Qb Z (hK _ _ (Qa (kp2 Z Z) ?_))))
 refine QF ?_ -- 0
 refine Qe fun K hK => QQ (ds0 := [13, 12, 11, 10, 9, 8, 7, 6, 5, 4, 3, 2, 1, 0]) (cs := [_, _, _, _, _]) Z Z Z Z Z Z (Ze (ds0 := [12, 11, 10, 9, 8, 7, 6, 5, 4, 3, 2, 1, 0]) (Y7 (by omega) (by omega)) Z Z (.inr Z) Z Z (ZP Z (Qb Z ?_)))
 refine Qv (g := 13) Z (fun h1 => ?_) (fun h1 => ?_)
 ·try rw [h1]
  try simp only [qB, Qr] at h1
  refine Qq Z (Qq Z (Qq Z (Qh Z Z (Qb Z (Qq Z (Qq Z (Qq Z (Qq Z (Qq Z (Qh Z Z (hK _ _ (Qa (kp3 Z Z Z) ?_))))))))))))
  refine Zn Z (Qe fun K hK => Qb Z (hK _ _ (Qa (kp1 Z) ?_)))
  refine Qt (Qk (Qy Z ?_))
  first | (simp [Qdy, h1]; done) | (exact (Qd1 (by assumption) (by assumption) (by assumption)).symm) | (exact QbC (by assumption) (by assumption) (by assumption)) | (exact (Qal (by assumption) (by assumption) (by assumption) (by assumption) (by assumption)).symm) | (exact (Qam (by assumption) (by assumption) (by assumption) (by assumption) (by assumption)).symm) | (rw [hI.2.2, YF (by omega) (by omega) (by assumption)]) | (rw [hI.2.2, YE (by omega) (by omega) (by omega)]; simp [Qr])
 ·try rw [h1]
  try simp only [qB, Qr] at h1
  refine Qf Z (QQ (ds0 := [9, 8, 7, 6, 5, 4, 3, 2, 1, 0]) (cs := [_, _, _, _, _]) Z Z Z Z Z Z (Qf Z (Ze (ds0 := [8, 7, 6, 5, 4, 3, 2, 1, 0]) (Y7 (by omega) (by omega)) Z Z (.inr Z) Z Z (Qf Z (ZP Z (Qh Z Z (Qb Z ?_)))))))
  refine Qv (g := 18) Z (fun h2 => ?_) (fun h2 => ?_)
  ·try rw [h2]
   try simp only [qB, Qr] at h2
   refine Qq Z (Qq Z (Qq Z (Qq Z (Qq Z (Qh Z Z (hK _ _ (Qa (kp3 Z Z Z) ?_)))))))
   refine Zn Z (Qe fun K hK => Qb Z (hK _ _ (Qa (kp1 Z) ?_)))
   refine Qt (Qk (Qy Z ?_))
   first | (simp [Qdy, h1, h2]; done) | (exact (Qd1 (by assumption) (by assumption) (by assumption)).symm) | (exact QbC (by assumption) (by assumption) (by assumption)) | (exact (Qal (by assumption) (by assumption) (by assumption) (by assumption) (by assumption)).symm) | (exact (Qam (by assumption) (by assumption) (by assumption) (by assumption) (by assumption)).symm) | (rw [hI.2.2, YF (by omega) (by omega) (by assumption)]) | (rw [hI.2.2, YE (by omega) (by omega) (by omega)]; simp [Qr])
  ·try rw [h2]
   try simp only [qB, Qr] at h2
   refine Qf Z (QQ (ds0 := [4, 1, 0]) (cs := [_, _, _, _, _]) Z Z Z Z Z Z (Qf Z (Ze (ds0 := [1, 0]) (Qdf) Z Z (.inl Z) Z Z (Qf Z (QQ (ds0 := [2, 1, 0]) (cs := [_, _, _, _, _]) Z Z Z Z Z Z (Qf Z (Ze (ds0 := [1, 0]) (Qdf) Z Z (.inl Z) Z Z (Qf Z (Qdc Z Z Z (Qh Z Z (hK _ _ (Qa (kp3 Z Z Z) ?_))))))))))))
   refine Qx Z (fun h3 => ?_) (fun h3 => ?_)
   ·try rw [h3]
    try simp only [qB, Qr] at h3
    refine Qe fun K hK => Qb Z (hK _ _ (Qa (kp1 Z) ?_))
    refine Qt (Qk (Qy Z ?_))
    first | (simp [Qdy, h1, h2, h3]; done) | (exact (Qd1 (by assumption) (by assumption) (by assumption)).symm) | (exact QbC (by assumption) (by assumption) (by assumption)) | (exact (Qal (by assumption) (by assumption) (by assumption) (by assumption) (by assumption)).symm) | (exact (Qam (by assumption) (by assumption) (by assumption) (by assumption) (by assumption)).symm) | (rw [hI.2.2, YF (by omega) (by omega) (by assumption)]) | (rw [hI.2.2, YE (by omega) (by omega) (by omega)]; simp [Qr])
   ·try rw [h3]
    try simp only [qB, Qr] at h3
    refine Qu (Qd (kp2 Z Z) ?_)
    refine QF ?_ -- 1
    refine Qe fun K hK => Qg Z Z (QU (ds0 := [13, 2, 1, 0]) Z Z Z Z Z (Qg Z Z (QU (ds0 := [13, 2, 1, 0]) Z Z Z Z Z (Ze (ds0 := [2, 1, 0]) (ZT) Z Z (.inr Z) Z Z (Qg Z Z (QU (ds0 := [8, 2, 1, 0]) Z Z Z Z Z (Qg Z Z (QU (ds0 := [8, 2, 1, 0]) Z Z Z Z Z (Ze (ds0 := [2, 1, 0]) (ZT) Z Z (.inr Z) Z Z (Qg Z Z ?_))))))))))
    refine QU (ds0 := [3, 2, 1, 0]) Z Z Z Z Z (Qg Z Z (QU (ds0 := [3, 2, 1, 0]) Z Z Z Z Z (Ze (ds0 := [2, 1, 0]) (ZT) Z Z (.inr Z) Z Z (QP Z Z (Ze (ds0 := [0]) (QiT (l := [Z6 a a', Z6 b b', Z6 c c']) (by simp)) Z Z (.inr Z) Z Z (Qb Z (hK _ _ (Qa (kp3 Z Z Z) ?_))))))))
    refine Qe fun K hK => Qb Z (YN Z Z (hK _ _ (Qa (kp4 Z Z Z Z) ?_)))
    refine Qx Z (fun h4 => ?_) (fun h4 => ?_)
    ·try rw [h4]
     try simp only [qB, Qr] at h4
     refine Qe fun K hK => Qb Z (Qb Z (hK _ _ (Qa (kp1 Z) ?_)))
     refine Qt (Qk (Qy Z ?_))
     first | (simp [Qdy, h1, h2, h3, h4]; done) | (exact (Qd1 (by assumption) (by assumption) (by assumption)).symm) | (exact QbC (by assumption) (by assumption) (by assumption)) | (exact (Qal (by assumption) (by assumption) (by assumption) (by assumption) (by assumption)).symm) | (exact (Qam (by assumption) (by assumption) (by assumption) (by assumption) (by assumption)).symm) | (rw [hI.2.2, YF (by omega) (by omega) (by assumption)]) | (rw [hI.2.2, YE (by omega) (by omega) (by omega)]; simp [Qr])
    ·try rw [h4]
     try simp only [qB, Qr] at h4
     refine Qu (Qd (kp2 Z Z) ?_)
     refine QF ?_ -- 2
     refine Qe fun K hK => Qg Z Z (QC Z Z Z (Qb2 Z Z (hK _ _ (Qa (kp3 Z Z Z) ?_))))
     refine Qx Z (fun h5 => ?_) (fun h5 => ?_)
     ·try rw [h5]
      try simp only [qB, Qr] at h5
      refine Qe fun K hK => Qb Z (hK _ _ (Qa (kp1 Z) ?_))
      refine Qt (Qk (Qy Z ?_))
      first | (simp [Qdy, h1, h2, h3, h4, h5]; done) | (exact (Qd1 (by assumption) (by assumption) (by assumption)).symm) | (exact QbC (by assumption) (by assumption) (by assumption)) | (exact (Qal (by assumption) (by assumption) (by assumption) (by assumption) (by assumption)).symm) | (exact (Qam (by assumption) (by assumption) (by assumption) (by assumption) (by assumption)).symm) | (rw [hI.2.2, YF (by omega) (by omega) (by assumption)]) | (rw [hI.2.2, YE (by omega) (by omega) (by omega)]; simp [Qr])
     ·try rw [h5]
      try simp only [qB, Qr] at h5
      refine Qu (Qd (kp2 Z Z) ?_)
      refine QF ?_ -- 3
      refine Qe fun K hK => Qg Z Z (QC Z Z Z (Qb2 Z Z (hK _ _ (Qa (kp3 Z Z Z) ?_))))
      refine Qx Z (fun h6 => ?_) (fun h6 => ?_)
      ·try rw [h6]
       try simp only [qB, Qr] at h6
       refine Qe fun K hK => Qb Z (hK _ _ (Qa (kp1 Z) ?_))
       refine Qt (Qk (Qy Z ?_))
       first | (simp [Qdy, h1, h2, h3, h4, h5, h6]; done) | (exact (Qd1 (by assumption) (by assumption) (by assumption)).symm) | (exact QbC (by assumption) (by assumption) (by assumption)) | (exact (Qal (by assumption) (by assumption) (by assumption) (by assumption) (by assumption)).symm) | (exact (Qam (by assumption) (by assumption) (by assumption) (by assumption) (by assumption)).symm) | (rw [hI.2.2, YF (by omega) (by omega) (by assumption)]) | (rw [hI.2.2, YE (by omega) (by omega) (by omega)]; simp [Qr])
      ·try rw [h6]
       try simp only [qB, Qr] at h6
       refine Qu (Qd (kp2 Z Z) (Qe fun K hK => Qg Z Z (QU (ds0 := [5, 1]) Z Z Z Z Z (Ze (ds0 := [1]) (Qaj (by omega)) Z Z (.inl Z) Z Z (Qg Z Z (QU (ds0 := [2, 0]) Z Z Z Z Z (Ze (ds0 := [0]) (Qaj (by omega)) Z Z (.inl Z) Z Z (Qb Z (Qb Z (hK _ _ (Qa (kp2 Z Z) ?_)))))))))))
       refine QF ?_ -- 4
       refine Qe fun K hK => Qb Z (hK _ _ (Qa (kp3 Z Z Z) ?_))
       refine QG ?_
       refine ZH (ι := Nat) (fun i => ⟨[(6, .sl (Y8 (Zc p 46))), (7, .sl (Y8 (Zc p' 46))), (8, .int .i64 i)], []⟩) (fun i => i <= (Zc p 46).length /\ i <= (Zc p' 46).length /\ Qdy a b c p q a' b' c' p' q' = Qlp ((Zc p 46).drop i) ((Zc p' 46).drop i)) (fun i => (Zc p 46).length - i) 0 ?_ ?_ ?_
       ·exact Q1 (l := [6, 7, 8]) (kp3 rfl rfl rfl) Qp rfl rfl rfl
       ·exact ⟨Qvp _, Qvp _, Qqy (by assumption) (by assumption) (by assumption) (by assumption) (by assumption) (by assumption)⟩
       intro i hI
       have sl := Qew (s := p) (c := 46)
       try dsimp only
       refine QF ?_ -- 5
       refine Qe fun K hK => Qb Z (Qb Z (Q0 Z Z (Z8 Z Z (Qb Z ?_))))
       refine Qv (g := 61) Z (fun h7 => ?_) (fun h7 => ?_)
       ·try rw [h7]
        try simp only [qB, Qr] at h7
        refine Qf Z (Qb Z (Qf Z (Qb Z (Qf Z (Q0 Z Z (Qf Z (Z8 Z Z (Qh Z Z (hK _ _ (Qa (kp4 Z Z Z Z) ?_))))))))))
        refine Qx Z (fun h8 => ?_) (fun h8 => ?_)
        ·try rw [h8]
         try simp only [qB, Qr] at h8
         refine Qu (Qd (kp3 Z Z Z) ?_)
         refine QF ?_ -- 6
         refine QG (Qe fun K hK => Qb Z (Qb Z (QM Z Z Z (by omega) (Qan (by omega)) Z (QU (ds0 := [1, 0]) Z Z Z Z Z (Qb Z (Qb Z (QM Z Z Z (by omega) (Qan (by omega)) Z (QU (ds0 := [1, 0]) Z Z Z Z Z (Ze (ds0 := [0]) (QhP (Qaq (by omega) hp) (Qaq (by omega) hp')) Z Z (.inr Z) Z Z (Qb Z ?_))))))))))
         refine hK _ _ (Qa (kp4 Z Z Z Z) ?_)
         refine Qe fun K hK => Qb Z (YN Z Z (hK _ _ (Qa (kp5 Z Z Z Z Z) ?_)))
         refine Qx Z (fun h9 => ?_) (fun h9 => ?_)
         ·try rw [h9]
          try simp only [qB, Qr] at h9
          refine Qe fun K hK => Qb Z (Qb Z (hK _ _ (Qa (kp1 Z) ?_)))
          refine Qt (Qw (Qk (Q4 (Qw (Qk (Qy Z ?_))))))
          first | (simp [Qdy, h1, h2, h3, h4, h5, h6, h7, h8, h9]; done) | (exact (Qd1 (by assumption) (by assumption) (by assumption)).symm) | (exact QbC (by assumption) (by assumption) (by assumption)) | (exact (Qal (by assumption) (by assumption) (by assumption) (by assumption) (by assumption)).symm) | (exact (Qam (by assumption) (by assumption) (by assumption) (by assumption) (by assumption)).symm) | (rw [hI.2.2, YF (by omega) (by omega) (by assumption)]) | (rw [hI.2.2, YE (by omega) (by omega) (by omega)]; simp [Qr])
         ·try rw [h9]
          try simp only [qB, Qr] at h9
          refine Qu (Qj (Qd (kp3 Z Z Z) (QR fun K hK => Qb Z (Q9 Z Z (by first | exact Qs (by omega) (by omega) | exact QN (by omega) (by omega) | exact QV (by omega) (by omega) | rfl) (Qb Z (hK _ ?_))))))
          refine Qm (i + 1) ?_ ?_ ?_
          ·exact Q7 (kp3 rfl rfl rfl)
          ·exact ⟨by omega, by omega, by rw [hI.2.2, Qjp (by omega) (by omega) (by assumption)]⟩
          ·first | omega | (simp only; omega) | (dsimp only; omega)
        ·try rw [h8]
         try simp only [qB, Qr] at h8
         refine Zf (QK (Qz (QH (Qd (kp2 Z Z) (Qe fun K hK => Qb Z (Q0 Z Z (Qb Z (Q0 Z Z (QA (ZT) Z Z (.inr Z) (Qb Z ?_))))))))))
         refine hK _ _ (Qa (kp1 Z) ?_)
         refine Qt (Qy Z ?_)
         first | (simp [Qdy, h1, h2, h3, h4, h5, h6, h7, h8]; done) | (exact (Qd1 (by assumption) (by assumption) (by assumption)).symm) | (exact QbC (by assumption) (by assumption) (by assumption)) | (exact (Qal (by assumption) (by assumption) (by assumption) (by assumption) (by assumption)).symm) | (exact (Qam (by assumption) (by assumption) (by assumption) (by assumption) (by assumption)).symm) | (rw [hI.2.2, YF (by omega) (by omega) (by assumption)]) | (rw [hI.2.2, YE (by omega) (by omega) (by omega)]; simp [Qr])
       ·try rw [h7]
        try simp only [qB, Qr] at h7
        refine Qq Z (Qq Z (Qq Z (Qq Z (Qh Z Z (hK _ _ (Qa (kp4 Z Z Z Z) ?_))))))
        refine Zq Z (Zf (QK (Qz (QH (Qd (kp2 Z Z) (Qe fun K hK => Qb Z (Q0 Z Z (Qb Z (Q0 Z Z (QA (ZT) Z Z (.inr Z) ?_))))))))))
        refine Qb Z (hK _ _ (Qa (kp1 Z) ?_))
        refine Qt (Qy Z ?_)
        first | (simp [Qdy, h1, h2, h3, h4, h5, h6, h7]; done) | (exact (Qd1 (by assumption) (by assumption) (by assumption)).symm) | (exact QbC (by assumption) (by assumption) (by assumption)) | (exact (Qal (by assumption) (by assumption) (by assumption) (by assumption) (by assumption)).symm) | (exact (Qam (by assumption) (by assumption) (by assumption) (by assumption) (by assumption)).symm) | (rw [hI.2.2, YF (by omega) (by omega) (by assumption)]) | (rw [hI.2.2, YE (by omega) (by omega) (by omega)]; simp [Qr])
theorem Qcb {e a b c : Int} {p q : List UInt8} {f : Bool} (hp : p.length <= 1000000) (hq : q.length <= 1000000) : Ok Tryz.prog 141 [.agg [.int .i64 e, .int .i64 a, .int .i64 b, .int .i64 c, .str p, .str q, .bool f]] (.bool (Xm e a b c p q f)) := by
 refine Ok.ofT Z4 Tryz.func141 QtJ (Qvd Z) ?_
 show TW _ _ tf141.body _ _
 refine Qe fun K hK => Zy Z Z Z (Qb Z (hK _ _ (Qa (kp1 Z) ?_)))
 refine QF ?_ -- 0
 refine Qe fun K hK => Qg Z Z (QC Z Z Z (YI Z Z (Qb Z ?_)))
 refine Qv (g := 6) Z (fun h1 => ?_) (fun h1 => ?_)
 ·try rw [h1]
  try simp only [qB] at h1
  refine Qq Z (Qq Z (Qq Z (Qh Z Z (hK _ _ (Qa (kp2 Z Z) ?_)))))
  refine Zn Z (Qe fun K hK => Qg Z Z (QB (cs := [_, _, _, _, _]) Z Z Z Z (Q2 Z Z (Qdc Z Z Z (Qb Z ?_)))))
  refine Qv (g := 15) Z (fun h2 => ?_) (fun h2 => ?_)
  ·try rw [h2]
   try simp only [qB] at h2
   refine Qf Z (Qg Z Z (Qf Z (QC Z Z Z (Qf Z (ZP Z (Qh Z Z (Qb Z (hK _ _ (Qa (kp1 Z) ?_)))))))))
   refine Qt (Qk (Ql Z ?_))
   (repeat clear hK K); first | (simp_all [Xm]; done) | (simp_all [Xm]; omega)
  ·try rw [h2]
   try simp only [qB] at h2
   refine Qq Z (Qq Z (Qq Z (Qh Z Z (Qb Z (hK _ _ (Qa (kp1 Z) ?_))))))
   refine Qt (Qk (Ql Z ?_))
   (repeat clear hK K); first | (simp_all [Xm]; done) | (simp_all [Xm]; omega)
 ·try rw [h1]
  try simp only [qB] at h1
  refine Qf Z (Qg Z Z (Qf Z (QC Z Z Z (Qf Z (YI Z Z (Qh Z Z (hK _ _ (Qa (kp2 Z Z) ?_))))))))
  refine Qx Z (fun h3 => ?_) (fun h3 => ?_)
  ·try rw [h3]
   try simp only [qB] at h3
   refine Qe fun K hK => Qg Z Z (QB (cs := [_, _, _, _, _]) Z Z Z Z (Q2 Z Z (Qdc Z Z Z (Qb Z ?_))))
   refine Qv (g := 15) Z (fun h4 => ?_) (fun h4 => ?_)
   ·try rw [h4]
    try simp only [qB] at h4
    refine Qf Z (Qg Z Z (Qf Z (QC Z Z Z (Qf Z (ZP Z (Qh Z Z (Qb Z (hK _ _ (Qa (kp1 Z) ?_)))))))))
    refine Qt (Qk (Ql Z ?_))
    (repeat clear hK K); first | (simp_all [Xm]; done) | (simp_all [Xm]; omega)
   ·try rw [h4]
    try simp only [qB] at h4
    refine Qq Z (Qq Z (Qq Z (Qh Z Z (Qb Z (hK _ _ (Qa (kp1 Z) ?_))))))
    refine Qt (Qk (Ql Z ?_))
    (repeat clear hK K); first | (simp_all [Xm]; done) | (simp_all [Xm]; omega)
  ·try rw [h3]
   try simp only [qB] at h3
   refine Qe fun K hK => Qg Z Z (QC Z Z Z (YN Z Z (hK _ _ (Qa (kp2 Z Z) ?_))))
   refine Qx Z (fun h5 => ?_) (fun h5 => ?_)
   ·try rw [h5]
    try simp only [qB] at h5
    refine Qe fun K hK => Qb Z (hK _ _ (Qa (kp1 Z) ?_))
    refine Qt (Qk (Ql Z ?_))
    (repeat clear hK K); first | (simp_all [Xm]; done) | (simp_all [Xm]; omega)
   ·try rw [h5]
    try simp only [qB] at h5
    refine Qu (Qd (kp1 Z) (Qe fun K hK => Qg Z Z (QB (cs := [_, _, _, _, _]) Z Z Z Z (QA (Y7 (by omega) (by omega)) Z Z (.inr Z) (Qb Z ?_)))))
    refine Qv (g := 26) Z (fun h6 => ?_) (fun h6 => ?_)
    ·try rw [h6]
     try simp only [qB] at h6
     refine Qf Z (Qg Z Z (Qf Z (Qg Z Z (Qf Z (QC Z Z Z (Qf Z (Qb2 Z Z (Qh Z Z (Qb Z (hK _ _ (Qa (kp1 Z) ?_)))))))))))
     refine Qt (Ql Z ?_)
     (repeat clear hK K); first | (simp_all [Xm]; done) | (simp_all [Xm]; omega)
    ·try rw [h6]
     try simp only [qB] at h6
     refine Qq Z (Qq Z (Qq Z (Qq Z (Qh Z Z (Qb Z (hK _ _ (Qa (kp1 Z) ?_)))))))
     refine Qt (Ql Z ?_)
     (repeat clear hK K); first | (simp_all [Xm]; done) | (simp_all [Xm]; omega)
theorem QdO {e a b c : Int} {p q : List UInt8} {f : Bool} (hp : p.length <= 1000000) (hq : q.length <= 1000000) {e' a' b' c' : Int} {p' q' : List UInt8} {f' : Bool} (hp' : p'.length <= 1000000) (hq' : q'.length <= 1000000) : Ok Tryz.prog 130 [.agg [.int .i64 e, .int .i64 a, .int .i64 b, .int .i64 c, .str p, .str q, .bool f], .agg [.int .i64 e', .int .i64 a', .int .i64 b', .int .i64 c', .str p', .str q', .bool f']] (.int .i64 (YL e a b c p q f e' a' b' c' p' q' f')) := by
 refine Ok.ofT Z4 Tryz.func130 QtA (Qvd Z) ?_
 show TW _ _ tf130.body _ _
 refine Qe fun K hK => Zy Z Z Z (Zy Z Z Z (Qb Z (hK _ _ (Qa (kp2 Z Z) ?_))))
 refine QF ?_ -- 0
 refine Qe fun K hK => QB (cs := [_, _, _, _, _, _, _]) Z Z Z Z (QA (Qcb (by omega) (by omega)) Z Z (.inr Z) (ZP Z (Qb Z ?_)))
 refine Qv (g := 9) Z (fun h1 => ?_) (fun h1 => ?_)
 ·try rw [h1]
  try simp only [qB] at h1
  refine Qq Z (Qq Z (Qq Z (Qh Z Z (hK _ _ (Qa (kp3 Z Z Z) ?_)))))
  refine Zn Z (Qe fun K hK => Qb Z (hK _ _ (Qa (kp1 Z) ?_)))
  refine Qt (Qk (Qy Z ?_))
  (repeat clear hK K); first | (simp [YL, h1]; done) | exact (QaV (by assumption) (by assumption) (by first | (left; assumption) | (right; assumption))).symm | (simp_all [YL]; done)
 ·try rw [h1]
  try simp only [qB] at h1
  refine Qf Z (QB (cs := [_, _, _, _, _, _, _]) Z Z Z Z (Qf Z (QA (Qcb (by omega) (by omega)) Z Z (.inr Z) (Qf Z (ZP Z (Qh Z Z (hK _ _ (Qa (kp3 Z Z Z) ?_))))))))
  refine Qx Z (fun h2 => ?_) (fun h2 => ?_)
  ·try rw [h2]
   try simp only [qB] at h2
   refine Qe fun K hK => Qb Z (hK _ _ (Qa (kp1 Z) ?_))
   refine Qt (Qk (Qy Z ?_))
   (repeat clear hK K); first | (simp [YL, h1, h2]; done) | exact (QaV (by assumption) (by assumption) (by first | (left; assumption) | (right; assumption))).symm | (simp_all [YL]; done)
  ·try rw [h2]
   try simp only [qB] at h2
   refine Qe fun K hK => Qg Z Z (QC Z Z Z (YN Z Z (Qb Z ?_)))
   refine Qv (g := 17) Z (fun h3 => ?_) (fun h3 => ?_)
   ·try rw [h3]
    try simp only [qB] at h3
    refine Qq Z (Qq Z (Qq Z (Qh Z Z (hK _ _ (Qa (kp3 Z Z Z) ?_)))))
    refine Zn Z (Qe fun K hK => Qg Z Z (QC Z Z Z (Qg Z Z (QC Z Z Z (QA (ZT) Z Z (.inr Z) (Qb Z (hK _ _ (Qa (kp1 Z) ?_))))))))
    refine Qt (Qk (Qy Z ?_))
    (repeat clear hK K); first | (simp [YL, h1, h2, h3]; done) | exact (QaV (by assumption) (by assumption) (by first | (left; assumption) | (right; assumption))).symm | (simp_all [YL]; done)
   ·try rw [h3]
    try simp only [qB] at h3
    refine Qf Z (Qg Z Z (Qf Z (QC Z Z Z (Qf Z (YN Z Z (Qh Z Z (hK _ _ (Qa (kp3 Z Z Z) ?_))))))))
    refine Qx Z (fun h4 => ?_) (fun h4 => ?_)
    ·try rw [h4]
     try simp only [qB] at h4
     refine Qe fun K hK => Qg Z Z (QC Z Z Z (Qg Z Z (QC Z Z Z (QA (ZT) Z Z (.inr Z) (Qb Z (hK _ _ (Qa (kp1 Z) ?_)))))))
     refine Qt (Qk (Qy Z ?_))
     (repeat clear hK K); first | (simp [YL, h1, h2, h3, h4]; done) | exact (QaV (by assumption) (by assumption) (by first | (left; assumption) | (right; assumption))).symm | (simp_all [YL]; done)
    ·try rw [h4]
     try simp only [qB] at h4
     refine Qe fun K hK => Qg Z Z (QB (cs := [_, _, _, _, _]) Z Z Z Z (Qg Z Z (QB (cs := [_, _, _, _, _]) Z Z Z Z (QA (Qbo (by omega) (by omega) (by omega) (by omega)) Z Z (.inr Z) (Qb Z (hK _ _ (Qa (kp3 Z Z Z) ?_)))))))
     refine Qe fun K hK => Qb Z (YN Z Z (hK _ _ (Qa (kp4 Z Z Z Z) ?_)))
     refine Qx Z (fun h5 => ?_) (fun h5 => ?_)
     ·try rw [h5]
      try simp only [qB] at h5
      refine Qe fun K hK => Qb Z (Qb Z (hK _ _ (Qa (kp1 Z) ?_)))
      refine Qt (Qk (Qy Z ?_))
      (repeat clear hK K); first | (simp [YL, h1, h2, h3, h4, h5]; done) | exact (QaV (by assumption) (by assumption) (by first | (left; assumption) | (right; assumption))).symm | (simp_all [YL]; done)
     ·try rw [h5]
      try simp only [qB] at h5
      refine Qe fun K hK => Qg Z Z (QC Z Z Z (Qg Z Z (QC Z Z Z (QrF Z Z (hK _ _ (Qa (kp2 Z Z) ?_))))))
      refine Qx Z (fun h6 => ?_) (fun h6 => ?_)
      ·try rw [h6]
       try simp only [qB] at h6
       refine Qe fun K hK => Qb Z (hK _ _ (Qa (kp1 Z) ?_))
       refine Qt (Qk (Qy Z ?_))
       (repeat clear hK K); first | (simp [YL, h1, h2, h3, h4, h5, h6]; done) | exact (QaV (by assumption) (by assumption) (by first | (left; assumption) | (right; assumption))).symm | (simp_all [YL]; done)
      ·try rw [h6]
       try simp only [qB] at h6
       refine Qe fun K hK => Qg Z Z (QC Z Z Z (hK _ _ (Qa (kp1 Z) ?_)))
       refine Qx Z (fun h7 => ?_) (fun h7 => ?_)
       ·try rw [h7]
        try simp only [qB] at h7
        refine Qe fun K hK => Qb Z (hK _ _ (Qa (kp1 Z) ?_))
        refine Qt (Qk (Qy Z ?_))
        (repeat clear hK K); first | (simp [YL, h1, h2, h3, h4, h5, h6, h7]; done) | exact (QaV (by assumption) (by assumption) (by first | (left; assumption) | (right; assumption))).symm | (simp_all [YL]; done)
       ·try rw [h7]
        try simp only [qB] at h7
        refine Qu (Qd (ZC) (Qe fun K hK => Qb Z (hK _ _ (Qa (kp1 Z) ?_))))
        refine Qt (Qy Z ?_)
        (repeat clear hK K); first | (simp [YL, h1, h2, h3, h4, h5, h6, h7]; done) | exact (QaV (by assumption) (by assumption) (by first | (left; assumption) | (right; assumption))).symm | (simp_all [YL]; done)
theorem QfN {e a b c : Int} {p q : List UInt8} {f : Bool} (hp : p.length <= 1000000) (hq : q.length <= 1000000) {a' b' c' : Int} {p' q' : List UInt8} (hp' : p'.length <= 1000000) (hq' : q'.length <= 1000000) : Ok Tryz.prog 134 [.agg [.int .i64 e, .int .i64 a, .int .i64 b, .int .i64 c, .str p, .str q, .bool f], .agg [.int .i64 a', .int .i64 b', .int .i64 c', .str p', .str q']] (.bool (Yr e a b c p q f a' b' c' p' q')) := by
 refine Ok.ofT Z4 Tryz.func134 QtE (Qvd Z) ?_
 show TW _ _ tf134.body _ _
 refine Qe fun K hK => Zy Z Z Z (Zy Z Z Z (Qb Z (hK _ _ (Qa (kp2 Z Z) ?_))))
 refine QF ?_ -- 0
 refine Qe fun K hK => QB (cs := [_, _, _, _, _, _, _]) Z Z Z Z (QA (Qcb (by omega) (by omega)) Z Z (.inr Z) (ZP Z (Qb Z ?_)))
 refine Qv (g := 9) Z (fun h1 => ?_) (fun h1 => ?_)
 ·try rw [h1]
  try simp only [qB] at h1
  refine Qq Z (Qq Z (Qq Z (Qh Z Z (hK _ _ (Qa (kp3 Z Z Z) ?_)))))
  refine Zn Z (Qe fun K hK => Qb Z (hK _ _ (Qa (kp1 Z) ?_)))
  refine Qt (Qk (Ql Z ?_))
  (repeat clear hK K); first | (simp [Yr, h1]; done) | (simp_all [Yr]; done)
 ·try rw [h1]
  try simp only [qB] at h1
  refine Qf Z (QB (cs := [_, _, _, _, _]) Z Z Z Z (Qf Z (QA (Y7 (by omega) (by omega)) Z Z (.inr Z) (Qf Z (ZP Z (Qh Z Z (hK _ _ (Qa (kp3 Z Z Z) ?_))))))))
  refine Qx Z (fun h2 => ?_) (fun h2 => ?_)
  ·try rw [h2]
   try simp only [qB] at h2
   refine Qe fun K hK => Qb Z (hK _ _ (Qa (kp1 Z) ?_))
   refine Qt (Qk (Ql Z ?_))
   (repeat clear hK K); first | (simp [Yr, h1, h2]; done) | (simp_all [Yr]; done)
  ·try rw [h2]
   try simp only [qB] at h2
   refine Qe fun K hK => Qg Z Z (QC Z Z Z (YN Z Z (hK _ _ (Qa (kp3 Z Z Z) ?_))))
   refine Qx Z (fun h3 => ?_) (fun h3 => ?_)
   ·try rw [h3]
    try simp only [qB] at h3
    refine Qe fun K hK => Qg Z Z (QC Z Z Z (Z8 Z Z (Qb Z (hK _ _ (Qa (kp1 Z) ?_)))))
    refine Qt (Qk (Ql Z ?_))
    (repeat clear hK K); first | (simp [Yr, h1, h2, h3]; done) | (simp_all [Yr]; done)
   ·try rw [h3]
    try simp only [qB] at h3
    refine Qu (Qd (kp2 Z Z) (Qe fun K hK => Qg Z Z (QB (cs := [_, _, _, _, _]) Z Z Z Z (QB (cs := [_, _, _, _, _]) Z Z Z Z (QA (Qbo (by omega) (by omega) (by omega) (by omega)) Z Z (.inr Z) (Qb Z (hK _ _ (Qa (kp2 Z Z) ?_))))))))
    refine Qe fun K hK => Qb Z (Z8 Z Z (Qb Z ?_))
    refine Qv (g := 26) Z (fun h4 => ?_) (fun h4 => ?_)
    ·try rw [h4]
     try simp only [qB] at h4
     refine Qq Z (Qq Z (Qq Z (QJ Z (QJ Z (QJ Z (Qq Z (Qh Z Z (Qb Z (hK _ _ (Qa (kp1 Z) ?_))))))))))
     refine Qt (Ql Z ?_)
     (repeat clear hK K); first | (simp [Yr, h1, h2, h3, h4]; done) | (simp_all [Yr]; done)
    ·try rw [h4]
     try simp only [qB] at h4
     refine Qf Z (Qb Z (Qf Z (YI Z Z (Qf Z (Qb Z ?_)))))
     refine Qv (g := 29) Z (fun h5 => ?_) (fun h5 => ?_)
     ·try rw [h5]
      try simp only [qB] at h5
      refine Qf Z (Qg Z Z (Qf Z (QC Z Z Z (Qf Z (ZP Z (Qf Z (Qh Z Z (Qh Z Z (Qb Z (hK _ _ (Qa (kp1 Z) ?_)))))))))))
      refine Qt (Ql Z ?_)
      (repeat clear hK K); first | (simp [Yr, h1, h2, h3, h4, h5]; done) | (simp_all [Yr]; done)
     ·try rw [h5]
      try simp only [qB] at h5
      refine Qq Z (Qq Z (Qq Z (Qf Z (Qh Z Z (Qh Z Z (Qb Z (hK _ _ (Qa (kp1 Z) ?_))))))))
      refine Qt (Ql Z ?_)
      (repeat clear hK K); first | (simp [Yr, h1, h2, h3, h4, h5]; done) | (simp_all [Yr]; done)
theorem QdP {e a b c : Int} {p q : List UInt8} {f : Bool} (hp : p.length <= 1000000) (hq : q.length <= 1000000) {e' a' b' c' : Int} {p' q' : List UInt8} {f' : Bool} (hp' : p'.length <= 1000000) (hq' : q'.length <= 1000000) : Ok Tryz.prog 129 [.agg [.int .i64 e, .int .i64 a, .int .i64 b, .int .i64 c, .str p, .str q, .bool f, .int .i64 e', .int .i64 a', .int .i64 b', .int .i64 c', .str p', .str q', .bool f']] (.bool (Qcv e a b c p q f e' a' b' c' p' q' f')) := by
 refine Ok.ofT Z4 Tryz.func129 Qtz (Qvd Z) ?_
 show TW _ _ tf129.body _ _
 refine Qe fun K hK => Zy Z Z Z (Qb Z (hK _ _ (Qa (kp1 Z) ?_)))
 refine Qe fun K hK => Qg Z Z (QB (cs := [_, _, _, _, _, _, _]) Z Z Z Z (QA (Qcb (by omega) (by omega)) Z Z (.inr Z) (Qb Z ?_)))
 refine Qv (g := 6) Z (fun h1 => ?_) (fun h1 => ?_)
 ·try rw [h1]
  try simp only [qB] at h1
  refine Qf Z (Qg Z Z (Qf Z (QB (cs := [_, _, _, _, _, _, _]) Z Z Z Z (Qf Z (QA (Qcb (by omega) (by omega)) Z Z (.inr Z) (Qh Z Z (Qb Z ?_)))))))
  refine Qv (g := 11) Z (fun h2 => ?_) (fun h2 => ?_)
  ·try rw [h2]
   try simp only [qB] at h2
   refine Qf Z (Qg Z Z (Qf Z (QB (cs := [_, _, _, _, _, _, _]) Z Z Z Z (Qf Z (Qg Z Z (Qf Z (QB (cs := [_, _, _, _, _, _, _]) Z Z Z Z (Qf Z (QA (QdO (by omega) (by omega) (by omega) (by omega)) Z Z (.inr Z) (Qf Z (Z8 Z Z ?_)))))))))))
   refine Qh Z Z (Qb Z (hK _ _ (Qa (kp1 Z) ?_)))
   refine Qt (Ql Z ?_)
   (repeat clear hK K); first | (simp [Qcv, h1, h2]; done) | (simp_all [Qcv]; done)
  ·try rw [h2]
   try simp only [qB] at h2
   refine Qq Z (Qq Z (Qq Z (Qq Z (Qq Z (Qq Z (Qh Z Z (Qb Z (hK _ _ (Qa (kp1 Z) ?_)))))))))
   refine Qt (Ql Z ?_)
   (repeat clear hK K); first | (simp [Qcv, h1, h2]; done) | (simp_all [Qcv]; done)
 ·try rw [h1]
  try simp only [qB] at h1
  refine Qq Z (Qq Z (Qq Z (Qh Z Z (Qb Z (Qq Z (Qq Z (Qq Z (Qq Z (Qq Z (Qq Z (Qh Z Z ?_)))))))))))
  refine Qb Z (hK _ _ (Qa (kp1 Z) ?_))
  refine Qt (Ql Z ?_)
  (repeat clear hK K); first | (simp [Qcv, h1]; done) | (simp_all [Qcv]; done)
theorem Qj4 {e a b c : Int} {p q : List UInt8} {f : Bool} (hp : p.length <= 1000000) (hq : q.length <= 1000000) {e' a' b' c' : Int} {p' q' : List UInt8} {f' : Bool} (hp' : p'.length <= 1000000) (hq' : q'.length <= 1000000) {x y z : Int} {r s : List UInt8} (hr : r.length <= 1000000) (hs : s.length <= 1000000) : Ok Tryz.prog 117 [.agg [.int .i64 e, .int .i64 a, .int .i64 b, .int .i64 c, .str p, .str q, .bool f, .int .i64 e', .int .i64 a', .int .i64 b', .int .i64 c', .str p', .str q', .bool f'], .agg [.int .i64 x, .int .i64 y, .int .i64 z, .str r, .str s]] (.bool (XE e a b c p q f e' a' b' c' p' q' f' x y z r s)) := by
 refine Ok.ofT Z4 Tryz.func117 Qtp (Qvd Z) ?_
 show TW _ _ tf117.body _ _
 refine Qe fun K hK => Zy Z Z Z (Zy Z Z Z (Qb Z (hK _ _ (Qa (kp2 Z Z) ?_))))
 refine Qe fun K hK => QB (cs := [_, _, _, _, _, _, _, _, _, _, _, _, _, _]) Z Z Z Z (QA (QdP (by omega) (by omega) (by omega) (by omega)) Z Z (.inr Z) (Qb Z ?_))
 refine Qv (g := 7) Z (fun h1 => ?_) (fun h1 => ?_)
 ·try rw [h1]
  try simp only [qB] at h1
  refine Qf Z (QB (cs := [_, _, _, _, _]) Z Z Z Z (Qf Z (QA (Y7 (by omega) (by omega)) Z Z (.inr Z) (Qh Z Z (Qb Z ?_)))))
  refine Qv (g := 11) Z (fun h2 => ?_) (fun h2 => ?_)
  ·try rw [h2]
   try simp only [qB] at h2
   refine Qf Z (Qg Z Z (Qf Z (QB (cs := [_, _, _, _, _, _, _]) Z Z Z Z (Qf Z (QB (cs := [_, _, _, _, _]) Z Z Z Z (Qf Z (QA (QfN (by omega) (by omega) (by omega) (by omega)) Z Z (.inr Z) (Qh Z Z (Qb Z ?_)))))))))
   refine Qv (g := 17) Z (fun h3 => ?_) (fun h3 => ?_)
   ·try rw [h3]
    try simp only [qB] at h3
    refine Qf Z (Qg Z Z (Qf Z (QB (cs := [_, _, _, _, _, _, _]) Z Z Z Z (Qf Z (QB (cs := [_, _, _, _, _]) Z Z Z Z (Qf Z (QA (QfN (by omega) (by omega) (by omega) (by omega)) Z Z (.inr Z) (Qf Z (ZP Z (Qh Z Z (Qb Z ?_)))))))))))
    refine hK _ _ (Qa (kp1 Z) ?_)
    refine Qt (Ql Z ?_)
    (repeat clear hK K); first | (simp [XE, h1, h2, h3]; done) | (simp_all [XE]; done)
   ·try rw [h3]
    try simp only [qB] at h3
    refine Qq Z (Qq Z (Qq Z (Qq Z (Qq Z (Qh Z Z (Qb Z (hK _ _ (Qa (kp1 Z) ?_))))))))
    refine Qt (Ql Z ?_)
    (repeat clear hK K); first | (simp [XE, h1, h2, h3]; done) | (simp_all [XE]; done)
  ·try rw [h2]
   try simp only [qB] at h2
   refine Qq Z (Qq Z (Qq Z (Qq Z (Qh Z Z (Qb Z (Qq Z (Qq Z (Qq Z (Qq Z (Qq Z (Qh Z Z ?_)))))))))))
   refine Qb Z (hK _ _ (Qa (kp1 Z) ?_))
   refine Qt (Ql Z ?_)
   (repeat clear hK K); first | (simp [XE, h1, h2]; done) | (simp_all [XE]; done)
 ·try rw [h1]
  try simp only [qB] at h1
  refine Qq Z (Qq Z (Qh Z Z (Qb Z (Qq Z (Qq Z (Qq Z (Qq Z (Qh Z Z (Qb Z (Qq Z (Qq Z ?_)))))))))))
  refine Qq Z (Qq Z (Qq Z (Qh Z Z (Qb Z (hK _ _ (Qa (kp1 Z) ?_))))))
  refine Qt (Ql Z ?_)
  (repeat clear hK K); first | (simp [XE, h1]; done) | (simp_all [XE]; done)
end Go.Proofs
namespace M3
open Go Go.Abs
end M3
namespace M3
open Go Go.Abs
end M3
namespace M3
open Go Go.Abs
end M3
namespace M25
open Go Go.Abs M3
def Qe3 (a b c : Int) : Bool := decide (a = 0) && decide (b = 0) && decide (c = 0)
def Qao (a b c : Int) (p q : List UInt8) (part : Int) : Option (Int × Int × Int) :=
 if QbO a b c p q = false \/ part < 0 \/ 2 < part then none
 else
  let o := if part = 0 then (a + 1, 0, 0) else if part = 1 then (a, b + 1, 0) else (a, b, c + 1)
  if QbO o.1 o.2.1 o.2.2 [] [] = true then some o else none
def dOV (o : Option (Int × Int × Int)) : D := .tup [.agg [.int .i64 (o.getD (0, 0, 0)).1, .int .i64 (o.getD (0, 0, 0)).2.1, .int .i64 (o.getD (0, 0, 0)).2.2, .str [], .str []], .bool o.isSome]
def XV (a b c : Int) (p q : List UInt8) : Nat -> Option (Int × Int × Int)
 | 0 => none
 | n + 1 => if (Qao a b c p q n).isSome = true then Qao a b c p q n else XV a b c p q n
def Qjo (a b c : Int) (p q : List UInt8) : Option (Int × Int × Int) :=
 if QbO a b c p q = false then none else if p ≠ [] then some (a, b, c) else XV a b c p q 3
theorem QcU {a b c : Int} {p q : List UInt8} (h : QbO a b c p q = true) : (0 <= a /\ a <= 9999) /\ (0 <= b /\ b <= 9999) /\ (0 <= c /\ c <= 9999) := by
 simp only [QbO, QgU, Qvh, decide_eq_true_eq] at h
 omega
theorem Qj3 {a b c : Int} {p q : List UInt8} {m : Nat} (hm : 0 < m) (h : (Qao a b c p q ((m : Int) - 1)).isSome = false) : XV a b c p q m = XV a b c p q (m - 1) := by
 obtain ⟨n, rfl⟩ : ∃ n, m = n + 1 := ⟨m - 1, by omega⟩
 rw [show ((n + 1 : Nat) : Int) - 1 = (n : Int) by omega] at h
 rw [XV, if_neg (by rw [h]; simp)]; rfl
theorem QiS {a b c : Int} {p q : List UInt8} {m : Nat} (hm : 0 < m) (h : (Qao a b c p q ((m : Int) - 1)).isSome = true) : XV a b c p q m = Qao a b c p q ((m : Int) - 1) := by
 obtain ⟨n, rfl⟩ : ∃ n, m = n + 1 := ⟨m - 1, by omega⟩
 rw [show ((n + 1 : Nat) : Int) - 1 = (n : Int) by omega] at h ⊢
 rw [XV, if_pos h]
def dCu (x : Cu) : List D := [.int .i64 x.e, .int .i64 x.a, .int .i64 x.b, .int .i64 x.c, .str x.p, .str x.q, .bool x.f]
def Qfd (s : Cu × Cu) : List D := dCu s.1 ++ dCu s.2
def Zl (l : List (Cu × Cu)) : D := .sl (l.map Qfd)
def QfU (s : List (Cu × Cu) × List (Cu × Cu)) : D := .agg [Zl s.1, Zl s.2]
def Qdg : Cu := ⟨-1, 0, 0, 0, [], [], false⟩
def QgT : Cu := ⟨1, 0, 0, 0, [], [], false⟩
def Qgh (a b c : Int) : Cu := if Qe3 a b c = true then Qdg else ⟨0, a, b, c, [], [], false⟩
def Qee (a b c : Int) : Cu := match Qjo a b c [] [] with
 | none => QgT
 | some o => ⟨0, o.1, o.2.1, o.2.2, [], [], false⟩
def Xw (a b c : Int) (p q : List UInt8) : List (Cu × Cu) × List (Cu × Cu) :=
 if QbO a b c p q = false then ([], []) else if p ≠ [] then ([], [(⟨0, a, b, c, p, [], false⟩, ⟨0, a, b, c, p, [], true⟩)]) else ([(Qgh a b c, Qee a b c)], [])
def Qe4 (e a b c : Int) (p q : List UInt8) (f : Bool) : Bool := !decide (e = 0) || (!f && decide (p = []) && !Qe3 a b c)
def Cu.sm (x : Cu) : Prop := x.p.length <= 1000000 /\ x.q.length <= 1000000
def Sm (l : List (Cu × Cu)) : Prop := l.length <= 1000000 /\ ∀ s ∈ l, Cu.sm s.1 /\ Cu.sm s.2
theorem Sm.at {l : List (Cu × Cu)} (h : Sm l) {i : Nat} (hi : i < l.length) : (l[i].1.p.length <= 1000000 /\ l[i].1.q.length <= 1000000) /\ (l[i].2.p.length <= 1000000 /\ l[i].2.q.length <= 1000000) := h.2 _ (Qvi hi)
def Qdk (s : Cu × Cu) : Bool := Qcv s.1.e s.1.a s.1.b s.1.c s.1.p s.1.q s.1.f s.2.e s.2.a s.2.b s.2.c s.2.p s.2.q s.2.f
def QbN (x y : Cu) : Int := YL x.e x.a x.b x.c x.p x.q x.f y.e y.a y.b y.c y.p y.q y.f
def QqU (l : List (Cu × Cu)) (i : Nat) : Bool := match l[i]? with
 | none => true
 | some s => Qdk s && (decide (i = 0) || match l[i - 1]? with | none => true | some r => decide (QbN r.2 s.1 < 0))
theorem Qks {l : List (Cu × Cu)} {i : Nat} (h : i < l.length) : QqU l i = (Qdk l[i] && (decide (i = 0) || decide (QbN (l[i - 1]'(by omega)).2 l[i].1 < 0))) := by
 unfold QqU
 rw [List.getElem?_eq_getElem h, List.getElem?_eq_getElem (show i - 1 < l.length by omega)]
theorem Qlu {l : List (Cu × Cu)} {i : Nat} (h : i < l.length) (h1 : Qdk l[i] = true) (h2 : i = 0 \/ QbN (l[i - 1]'(by omega)).2 l[i].1 < 0) : QqU l i = true := by
 rw [Qks h, h1]; simpa using h2
theorem Qb0 {l : List (Cu × Cu)} {i : Nat} (h : i < l.length) (h1 : Qdk l[i] = false \/ (i ≠ 0 /\ 0 <= QbN (l[i - 1]'(by omega)).2 l[i].1)) : QqU l i = false := by
 rw [Qks h]
 rcases h1 with h1 | ⟨h1, h2⟩
 ·rw [h1]; rfl
 ·simp only [Qvq, Bool.or_eq_false_iff, decide_eq_false_iff_not]
  exact .inr ⟨h1, by omega⟩
def Qb5 (l : List (Cu × Cu)) : Bool := (List.range l.length).all (QqU l)
theorem YV {n i : Nat} {p : Nat -> Bool} (h : i < n) (hp : p i = false) : (List.range n).all p = false := by
 rw [Bool.eq_false_iff]; intro ha
 rw [Qvn] at ha
 rw [ha i (QvA.2 h)] at hp; cases hp
theorem QcY {i : Nat} {p : Nat -> Bool} (h : (List.range i).all p = true) (hp : p i = true) : (List.range (i + 1)).all p = true := by
 rw [List.range_succ, List.all_append, h]; simp [hp]
theorem QcX {i : Nat} {p : Nat -> Bool} {n : Nat} (h : (List.range i).all p = true) (hn : n <= i) : (List.range n).all p = true := by
 rw [Qvn] at h ⊢
 exact fun x hx => h x (QvA.2 (Nat.lt_of_lt_of_le (QvA.1 hx) hn))
def Qgj (s : Cu × Cu) (a b c : Int) (p q : List UInt8) : Bool := XE s.1.e s.1.a s.1.b s.1.c s.1.p s.1.q s.1.f s.2.e s.2.a s.2.b s.2.c s.2.p s.2.q s.2.f a b c p q
def QgV (l : List (Cu × Cu)) (a b c : Int) (p q : List UInt8) : Bool := Qb5 l && l.any fun s => Qgj s a b c p q
theorem QcP {l : List (Cu × Cu)} {a b c : Int} {p q : List UInt8} {i : Nat} (hi : l.length <= i) (h : (l.take i).any (fun s => Qgj s a b c p q) = false) : QgV l a b c p q = false := by
 rw [Qvt hi] at h; rw [QgV, h, Bool.and_false]
theorem QcQ {l : List (Cu × Cu)} {a b c : Int} {p q : List UInt8} (h : Qb5 l = false) : QgV l a b c p q = false := by rw [QgV, h]; rfl
theorem QcR {l : List (Cu × Cu)} {a b c : Int} {p q : List UInt8} {i : Nat} (h : Qb5 l = true) (hi : i < l.length) (hp : Qgj l[i] a b c p q = true) : QgV l a b c p q = true := by
 rw [QgV, h, Bool.true_and]; exact List.any_eq_true.2 ⟨_, Qvi hi, hp⟩
def inC (x y : Cu) (s : Cu × Cu) : Bool := decide (QbN s.1 x <= 0) && decide (QbN y s.2 <= 0)
theorem Qr2 {x y : Cu} {s : Cu × Cu} (h1 : QbN s.1 x <= 0) (h2 : QbN y s.2 <= 0) : inC x y s = true := by simp [inC, h1, h2]
theorem Qr1 {x y : Cu} {s : Cu × Cu} (h : ¬ QbN s.1 x <= 0 \/ ¬ QbN y s.2 <= 0) : inC x y s = false := by
 simp only [inC, Qvq, decide_eq_false_iff_not]; exact h
def mIn (l : List (Cu × Cu)) (x y : Cu) : Bool := l.any (inC x y)
theorem Qj1 {α : Type} {s : List α} {p : α -> Bool} {i : Nat} (h : i < s.length) (hp : p s[i] = true) : s.any p = true := List.any_eq_true.2 ⟨_, Qvi h, hp⟩
theorem QpE {α : Type} {s : List α} {p : α -> Bool} {i : Nat} (hi : s.length <= i) (h : (s.take i).any p = false) : s.any p = false := by rwa [Qvt hi] at h
theorem Qg5 {α : Type} {s : List α} {p : α -> Bool} {i : Nat} (h : i < s.length) (ha : (s.take i).any p = false) (hp : p s[i] = false) : (s.take (i + 1)).any p = false := by
 rw [List.take_succ_eq_append_getElem h, List.any_append, ha]; simp [hp]
def Xy (x : Cu) : Bool := Qe4 x.e x.a x.b x.c x.p x.q x.f
def Qdz (s : List (Cu × Cu) × List (Cu × Cu)) : Bool := Qb5 s.1 && Qb5 s.2 && s.1.all fun x => Xy x.1 && Xy x.2
def Qgi (s : List (Cu × Cu) × List (Cu × Cu)) (a b c : Int) (p q : List UInt8) : Bool :=
 Qdz s && QbO a b c p q && (if p = [] then QgV s.1 a b c p q else QgV s.2 a b c p q)
theorem Qbg {s : List (Cu × Cu) × List (Cu × Cu)} (h : Qb5 s.1 = false \/ Qb5 s.2 = false) : Qdz s = false := by
 rw [Qdz]; rcases h with h | h <;> simp [h]
theorem QaE {s : List (Cu × Cu) × List (Cu × Cu)} {i : Nat} (hi : i < s.1.length) (h : Xy s.1[i].1 = false \/ Xy s.1[i].2 = false) : Qdz s = false := by
 have : (s.1.all fun x => Xy x.1 && Xy x.2) = false := Yt hi (by rcases h with h | h <;> simp [h])
 rw [Qdz, this, Bool.and_false]
theorem Qej {s : List (Cu × Cu) × List (Cu × Cu)} {i : Nat} (h1 : Qb5 s.1 = true) (h2 : Qb5 s.2 = true) (hi : s.1.length <= i) (h : (s.1.take i).all (fun x => Xy x.1 && Xy x.2) = true) : Qdz s = true := by
 rw [Qvt hi] at h
 rw [Qdz, h1, h2, h]; rfl
def QhR (l : List Cu) : D := .sl (l.map dCu)
theorem QjF {l : List Cu} : ∀ r ∈ l.map dCu, r.length = 7 := fun r hr => by obtain ⟨x, _, rfl⟩ := Qvr.1 hr; rfl
theorem Qpm {l : List Cu} {a b : Nat} : ∀ r ∈ ((l.map dCu).take a).drop b, r.length = 7 := fun r hr => QjF r (Qvx (List.mem_of_mem_drop hr))
def Qcu : List Cu -> Cu -> List Cu
 | [], c => [c]
 | x :: r, c => if QbN x c < 0 then x :: Qcu r c else if QbN x c = 0 then x :: r else c :: x :: r
theorem Qnx {l : List Cu} {c : Cu} {k : Nat} (hk : k < l.length) (h : QbN l[k] c < 0) (hi : Qcu l c = l.take k ++ Qcu (l.drop k) c) : Qcu l c = l.take (k + 1) ++ Qcu (l.drop (k + 1)) c := by
 rw [hi, Qvu hk, Qcu, if_pos h, List.take_succ_eq_append_getElem hk, List.append_assoc]; rfl
theorem Qnw {l : List Cu} {c : Cu} {k : Nat} (hk : k < l.length) (h : QbN l[k] c = 0) (hi : Qcu l c = l.take k ++ Qcu (l.drop k) c) : Qcu l c = l := by
 rw [hi, Qvu hk, Qcu, if_neg (by omega), if_pos h, <- Qvu hk, List.take_append_drop]
theorem Qlo {l : List Cu} {c : Cu} {k : Nat} (h : l.length <= k \/ ∃ hk : k < l.length, ¬ QbN l[k] c < 0 /\ QbN l[k] c ≠ 0) (hi : Qcu l c = l.take k ++ Qcu (l.drop k) c) : Qcu l c = l.take k ++ c :: l.drop k := by
 rw [hi]
 rcases h with h | ⟨hk, h1, h2⟩
 ·rw [Qvy h, Qcu]
 ·rw [Qvu hk, Qcu, if_neg h1, if_neg h2]
theorem Qfp : ∀ (l : List Cu) (c : Cu), (Qcu l c).length <= l.length + 1
 | [], c => by simp [Qcu]
 | x :: r, c => by
  have := Qfp r c
  simp only [Qcu]
  (repeat' split) <;> simp <;> omega
theorem Qic : ∀ {l : List Cu} {c : Cu}, (∀ x ∈ l, Cu.sm x) -> Cu.sm c -> ∀ x ∈ Qcu l c, Cu.sm x
 | [], c, _, hc, x, hx => by simp [Qcu] at hx; exact hx ▸ hc
 | y :: r, c, hl, hc, x, hx => by
  simp only [Qcu] at hx
  split at hx
  ·rcases Qvf.1 hx with rfl | hx
   ·exact hl _ (by simp)
   ·exact Qic (fun z hz => hl z (by simp [hz])) hc x hx
  ·split at hx
   ·exact hl x hx
   ·rcases Qvf.1 hx with rfl | hx
    ·exact hc
    ·exact hl x hx
def Xb (l : List (Cu × Cu)) : List Cu := l.foldl (fun out s => Qcu (Qcu out s.1) s.2) [Qdg, QgT]
theorem QoV {l : List (Cu × Cu)} {i : Nat} (h : i < l.length) : Xb (l.take (i + 1)) = Qcu (Qcu (Xb (l.take i)) l[i].1) l[i].2 := by
 rw [List.take_succ_eq_append_getElem h, Xb, List.foldl_append]; rfl
theorem Qhp : ∀ (l : List (Cu × Cu)) (out : List Cu), (l.foldl (fun out s => Qcu (Qcu out s.1) s.2) out).length <= out.length + 2 * l.length
 | [], out => by simp
 | s :: l, out => by
  have h1 := Qfp out s.1
  have h2 := Qfp (Qcu out s.1) s.2
  have := Qhp l (Qcu (Qcu out s.1) s.2)
  simp only [List.foldl_cons, List.length_cons]; omega
theorem Qcr (l : List (Cu × Cu)) : (Xb l).length <= 2 + 2 * l.length := Qhp l _
theorem Qjl : ∀ {l : List (Cu × Cu)} {out : List Cu}, (∀ s ∈ l, Cu.sm s.1 /\ Cu.sm s.2) -> (∀ x ∈ out, Cu.sm x) -> ∀ x ∈ l.foldl (fun out s => Qcu (Qcu out s.1) s.2) out, Cu.sm x
 | [], _, _, h => h
 | s :: l, out, hl, h => by
  rw [List.foldl_cons]
  exact Qjl (fun t ht => hl t (by simp [ht])) (Qic (Qic h (hl s (by simp)).1) (hl s (by simp)).2)
theorem Qlk {l : List (Cu × Cu)} (hl : ∀ s ∈ l, Cu.sm s.1 /\ Cu.sm s.2) : ∀ x ∈ Xb l, Cu.sm x := Qjl hl (by
 intro x hx
 simp only [Qvf, Qve, or_false] at hx
 rcases hx with rfl | rfl <;> exact ⟨Qvp _, Qvp _⟩)
theorem Qfn {l : List (Cu × Cu)} (hl : Sm l) (i : Nat) : (Xb (l.take i)).length <= 2000002 /\ ∀ x ∈ Xb (l.take i), Cu.sm x := by
 refine ⟨?_, Qlk fun s hs => hl.2 s (Qvx hs)⟩
 have := Qcr (l.take i)
 have h2 : (l.take i).length <= l.length := List.length_take_le' ..
 have := hl.1
 omega
def Qct (l : List (Cu × Cu)) (x y : Cu) : List (Cu × Cu) := match l.getLast? with
 | some s => if QbN s.2 x = 0 then l.dropLast ++ [(s.1, y)] else l ++ [(x, y)]
 | none => l ++ [(x, y)]
theorem Qjm {l : List (Cu × Cu)} {x y : Cu} {i : Nat} (hi : i + 1 = l.length) (h : QbN (l[i]'(by omega)).2 x = 0) : Qct l x y = l.set i ((l[i]'(by omega)).1, y) := by
 have hg : l.getLast? = some (l[i]'(by omega)) := by
  rw [List.getLast?_eq_getElem?, show l.length - 1 = i by omega, List.getElem?_eq_getElem]
 rw [Qct, hg]
 simp only [h, if_true]
 rw [List.dropLast_eq_take, show l.length - 1 = i by omega, List.set_eq_take_append_cons_drop, if_pos (by omega), Qvy (by omega)]
theorem Qeh {l : List (Cu × Cu)} {x y : Cu} (h : l = [] \/ ∃ i, ∃ hi : i + 1 = l.length, QbN (l[i]'(by omega)).2 x ≠ 0) : Qct l x y = l ++ [(x, y)] := by
 rcases h with rfl | ⟨i, hi, h⟩
 ·rfl
 ·have hg : l.getLast? = some (l[i]'(by omega)) := by
   rw [List.getLast?_eq_getElem?, show l.length - 1 = i by omega, List.getElem?_eq_getElem]
  rw [Qct, hg]
  simp only [if_neg h]
theorem Qjn (l : List (Cu × Cu)) (x y : Cu) : (Qct l x y).length <= l.length + 1 := by
 unfold Qct
 split
 ·split
  ·simp
  ·simp
 ·simp
theorem Qll {l : List (Cu × Cu)} {x y : Cu} (hl : ∀ s ∈ l, Cu.sm s.1 /\ Cu.sm s.2) (hx : Cu.sm x) (hy : Cu.sm y) : ∀ s ∈ Qct l x y, Cu.sm s.1 /\ Cu.sm s.2 := by
 intro s hs
 unfold Qct at hs
 split at hs
 ·rename_i t ht
  have ht' := List.mem_of_getLast? ht
  split at hs
  ·rcases Qvo.1 hs with hs | hs
   ·exact hl s (List.dropLast_subset _ hs)
   ·simp at hs; subst hs; exact ⟨(hl t ht').1, hy⟩
  ·rcases Qvo.1 hs with hs | hs
   ·exact hl s hs
   ·simp at hs; subst hs; exact ⟨hx, hy⟩
 ·rcases Qvo.1 hs with hs | hs
  ·exact hl s hs
  ·simp at hs; subst hs; exact ⟨hx, hy⟩
theorem Qlb {α β : Type} {l : List α} {f : α -> β} {i : Nat} (h : i + 1 < l.length) : (l.map f)[((i : Int) + 1).toNat]? = some (f l[i + 1]) := by
 rw [show ((i : Int) + 1).toNat = i + 1 by omega, List.getElem?_map, List.getElem?_eq_getElem h]; rfl
def Qcs (f : Cu -> Cu -> Bool) : List Cu -> List (Cu × Cu) -> List (Cu × Cu)
 | x :: y :: r, out => Qcs f (y :: r) (if f x y = true then Qct out x y else out)
 | _, out => out
def Qko (l : List (Cu × Cu)) : List (Cu × Cu) := if l.all Qdk = true then Qcs (mIn l) (Xb l) [] else []
theorem Qhq {f : Cu -> Cu -> Bool} {c : List Cu} {out : List (Cu × Cu)} {i : Nat} (h : i + 1 < c.length) : Qcs f (c.drop i) out = Qcs f (c.drop (i + 1)) (if f c[i] c[i + 1] = true then Qct out c[i] c[i + 1] else out) := by
 rw [Qvu (show i < c.length by omega), Qvu h, Qcs]
theorem Qnu {f : Cu -> Cu -> Bool} {c : List Cu} {out : List (Cu × Cu)} {i : Nat} (h : c.length <= i + 1) : Qcs f (c.drop i) out = out := by
 have : (c.drop i).length <= 1 := by simp; omega
 match hd : c.drop i with
 | [] => rfl
 | [x] => rfl
 | x :: y :: r => rw [hd] at this; simp at this
def FillI (f : Cu -> Cu -> Bool) (c : List Cu) (i : Nat) (out : List (Cu × Cu)) : Prop :=
 out.length <= i /\ (∀ s ∈ out, Cu.sm s.1 /\ Cu.sm s.2) /\ Qcs f c [] = Qcs f (c.drop i) out
theorem FillI.zero {f : Cu -> Cu -> Bool} {c : List Cu} : FillI f c 0 [] := ⟨Qvp _, by simp, by simp⟩
theorem FillI.take {f : Cu -> Cu -> Bool} {c : List Cu} {i : Nat} {out : List (Cu × Cu)} (h : FillI f c i out) (hc : ∀ x ∈ c, Cu.sm x) (hi : i + 1 < c.length) (ht : f c[i] c[i + 1] = true) : FillI f c (i + 1) (Qct out c[i] c[i + 1]) := by
 obtain ⟨h1, h2, h3⟩ := h
 refine ⟨Qvw (Qjn ..) (by omega), Qll h2 (hc _ (Qvi _)) (hc _ (Qvi _)), ?_⟩
 rw [h3, Qhq hi, if_pos ht]
theorem FillI.skip {f : Cu -> Cu -> Bool} {c : List Cu} {i : Nat} {out : List (Cu × Cu)} (h : FillI f c i out) (hi : i + 1 < c.length) (ht : f c[i] c[i + 1] = false) : FillI f c (i + 1) out := by
 obtain ⟨h1, h2, h3⟩ := h
 exact ⟨by omega, h2, by rw [h3, Qhq hi, if_neg (by rw [ht]; simp)]⟩
theorem FillI.done {f : Cu -> Cu -> Bool} {c : List Cu} {i : Nat} {out : List (Cu × Cu)} (h : FillI f c i out) (hi : c.length <= i + 1) : Qcs f c [] = out := by rw [h.2.2, Qnu hi]
theorem Qp8 {i : Nat} : ((i : Int) + 1).toNat = i + 1 := by omega
theorem YM {l : List (Cu × Cu)} (hl : Sm l) : ∀ x ∈ Xb l, Cu.sm x := Qlk hl.2
def QpU (a b : List (Cu × Cu)) : List (Cu × Cu) := if Qb5 a = true /\ Qb5 b = true then Qko (a ++ b) else []
def Qkp (a : List (Cu × Cu)) : List (Cu × Cu) := if Qb5 a = true then Qcs (fun x y => !mIn a x y) (Xb a) [] else []
theorem QpZ {l : List (Cu × Cu)} : ∀ r ∈ l.map Qfd, r.length = 14 := fun r hr => by obtain ⟨x, _, rfl⟩ := Qvr.1 hr; rfl
theorem Sm.app {a b : List (Cu × Cu)} (ha : Sm a) (hb : Sm b) (h : a.length + b.length <= 1000000) : Sm (a ++ b) := by
 refine ⟨by simp; omega, fun s hs => ?_⟩
 rcases Qvo.1 hs with hs | hs
 ·exact ha.2 s hs
 ·exact hb.2 s hs
theorem Qs1 {H : List (Nat × Box)} {S : Nat -> Bool} {k n : Nat} {b : Box} (hS : S k = true) (hb : lk H k = some b) (hp : b.pr = true) (hn : n = b.rows.length) : (D.osl k n).fz H S = .sl b.rows := by
 simp only [D.fz, D.fzS, hS, hb, if_true, hp, hn, and_self]
abbrev QeW := List (Cu × Cu) × List (Cu × Cu)
def QpV (a b : QeW) : QeW := if Qdz a = true /\ Qdz b = true then (QpU a.1 b.1, QpU a.2 b.2) else ([], [])
def Qib (a : QeW) : QeW := if Qdz a = true then (Qkp a.1, Qkp a.2) else ([], [])
def mPl (v n : Int) : Int := if n < 1 then 0 else Qgk v n
theorem Qln {v n : Int} : 0 <= mPl v n := by
 unfold mPl; split
 ·omega
 ·exact Qpe (by omega)
theorem Qlm {v n : Int} (h : 1 <= n) : mPl v n < n := by
 rw [mPl, if_neg (by omega)]; exact Qpd (by omega)
def Qmk (l : List Int) (i : Int) : Int := if i < 0 \/ (l.length : Int) <= i then i.tmod 3 else l.getD i.toNat 0
theorem Qnt {l : List Int} {i : Int} (h0 : 0 <= i) (h : i < l.length) : Qmk l i = l[i.toNat]'(by omega) := by
 rw [Qmk, if_neg (by omega), List.getD_eq_getElem?_getD, List.getElem?_eq_getElem (by omega)]; rfl
def I64 (x : Int) : Prop := -9223372036854775808 <= x /\ x <= 9223372036854775807
theorem Qlj {l : List Int} {i : Int} (hl : ∀ x ∈ l, I64 x) (hi : I64 i) : I64 (Qmk l i) := by
 by_cases h : i < 0 \/ (l.length : Int) <= i
 ·rw [Qmk, if_pos h]
  have h1 := Int.tmod_lt_of_pos i (show (0 : Int) < 3 by omega)
  have h2 := Int.lt_tmod_of_pos i (show (0 : Int) < 3 by omega)
  exact ⟨by omega, by omega⟩
 ·rw [Qnt (by omega) (by omega)]
  exact hl _ (Qvi _)
theorem QgG (x : Int) : I64 (IntKind.i64.wrap x) := by
 unfold IntKind.wrap I64
 simp only [IntKind.bits, IntKind.signed, Bool.true_and]
 split
 ·rename_i h
  have := of_decide_eq_true h
  omega
 ·rename_i h
  have : ¬ (x % 2 ^ 64 >= 2 ^ (64 - 1)) := fun hh => h (decide_eq_true hh)
  omega
theorem QeK {α : Type} {k : Nat} {v : α} {l : List (Nat × α)} : lk ((k, v) :: l) k = some v := by rw [Qn, if_pos rfl]
theorem Qfm {α : Type} {k : Nat} {v : α} {l : List (Nat × α)} : (lk ((k, v) :: l) k).isSome = true := by rw [QeK]; rfl
def gB (L : List Int) (I : Int) (et : Nat) : Box := ⟨[[QX L, .int .i64 I]], 2, et, true⟩
def nxI (I : Int) : Int := IntKind.i64.wrap (I + 1)
def nx (L : List Int) (I n : Int) : Int := mPl (Qmk L (IntKind.i64.wrap (nxI I - 1))) n
def Qjq (h m : Int) : Int := if Qck .and .i64 h m = h then 2 else if Qck .and .i64 h m = 0 then 0 else 1
theorem Qik {i : Nat} (h : i <= 62) : 1 <= (2 : Int) ^ i /\ (2 : Int) ^ i <= 4611686018427387904 := by
 have h1 : (2 : Nat) ^ i <= 2 ^ 62 := Nat.pow_le_pow_right (by omega) h
 have h2 : 1 <= (2 : Nat) ^ i := Nat.one_le_two_pow
 have h3 : ((2 ^ i : Nat) : Int) = (2 : Int) ^ i := by simp
 rw [<- h3]
 have h4 : (2 : Nat) ^ 62 = 4611686018427387904 := by decide
 omega
structure Vr where
 a : Int
 b : Int
 c : Int
 p : List UInt8
 q : List UInt8
def dVr (v : Vr) : List D := [.int .i64 v.a, .int .i64 v.b, .int .i64 v.c, .str v.p, .str v.q]
def Vr.sm (v : Vr) : Prop := v.p.length <= 100 /\ v.q.length <= 100
def versions : List Vr := [⟨1, 0, 0, [], []⟩, ⟨1, 2, 0, [], []⟩, ⟨2, 0, 0, [97, 46, 49], []⟩, ⟨2, 0, 0, [], []⟩]
theorem QkI : ∀ v ∈ versions, v.sm := by
 intro v hv
 simp only [versions, Qvf, Qve, or_false] at hv
 rcases hv with rfl | rfl | rfl | rfl <;> exact ⟨by decide, by decide⟩
theorem XY {i : Nat} : ((i : Int) - 1).toNat = i - 1 := by omega
end M25
namespace Go.Proofs
open Go Go.Abs M3 M25
theorem Qaw {a b c : Int} {p q : List UInt8} : Ok Tryz.prog 88 [.agg [.int .i64 a, .int .i64 b, .int .i64 c, .str p, .str q]] (.agg [.int .i64 a, .int .i64 b, .int .i64 c, .str p, .str []]) := by
 refine Ok.ofT Z4 Tryz.func88 Qu0 (Qvd Z) ?_
 show TW _ _ tf88.body _ _
 refine Qe fun K hK => Zy Z Z Z (ZJ Z (hK _ _ (Qa (kp2 Z Z) ?_)))
 refine Qe fun K hK => Qg Z Z (Q5 Z Z Z Z Z Z Z Z (hK _ _ (Qa (kp2 Z Z) ?_)))
 refine Qe fun K hK => QB (cs := [_, _, _, _, _]) Z Z Z Z (Q5 Z Z Z Z Z Z Z Z (hK _ _ (Qa (kp1 Z) ?_)))
 refine Qt (ZN (cs := [_, _, _, _, _]) Z Z Z Z ?_)
 exact rfl
theorem Xj  : Ok Tryz.prog 90 [] (.agg [.int .i64 (-1), .int .i64 0, .int .i64 0, .int .i64 0, .str [], .str [], .bool false]) := by
 refine Ok.ofT Z4 Tryz.func90 Qu2 (Qvd Z) ?_
 show TW _ _ tf90.body _ _
 refine Qe fun K hK => ZJ Z (hK _ _ (Qa (kp1 Z) ?_))
 refine Qe fun K hK => Q2 Z Z (Q5 Z Z Z Z Z Z Z Z (hK _ _ (Qa (kp1 Z) ?_)))
 refine Qt (ZN (cs := [_, _, _, _, _, _, _]) Z Z Z Z ?_)
 exact rfl
theorem Xt  : Ok Tryz.prog 92 [] (.agg [.int .i64 1, .int .i64 0, .int .i64 0, .int .i64 0, .str [], .str [], .bool false]) := by
 refine Ok.ofT Z4 Tryz.func92 Qu4 (Qvd Z) ?_
 show TW _ _ tf92.body _ _
 refine Qe fun K hK => ZJ Z (hK _ _ (Qa (kp1 Z) ?_))
 refine Qe fun K hK => Q2 Z Z (Q5 Z Z Z Z Z Z Z Z (hK _ _ (Qa (kp1 Z) ?_)))
 refine Qt (ZN (cs := [_, _, _, _, _, _, _]) Z Z Z Z ?_)
 exact rfl
theorem YY {a b c : Int} {p q : List UInt8} : Ok Tryz.prog 63 [.agg [.int .i64 a, .int .i64 b, .int .i64 c, .str p, .str q]] (.agg [.int .i64 0, .int .i64 a, .int .i64 b, .int .i64 c, .str p, .str [], .bool false]) := by
 refine Ok.ofT Z4 Tryz.func63 QuH (Qvd Z) ?_
 show TW _ _ tf63.body _ _
 refine Qe fun K hK => Zy Z Z Z (ZJ Z (hK _ _ (Qa (kp2 Z Z) ?_)))
 refine Qe fun K hK => QB (cs := [_, _, _, _, _]) Z Z Z Z (QA (Qaw) Z Z (.inl Z) (Q2 Z Z (Q5 Z Z Z Z Z Z Z Z (hK _ _ (Qa (kp1 Z) ?_)))))
 refine Qt (ZN (cs := [_, _, _, _, _, _, _]) Z Z Z Z ?_)
 exact rfl
theorem Qce {a b c : Int} {p q : List UInt8} : Ok Tryz.prog 64 [.agg [.int .i64 a, .int .i64 b, .int .i64 c, .str p, .str q]] (.agg [.int .i64 0, .int .i64 a, .int .i64 b, .int .i64 c, .str p, .str [], .bool true]) := by
 refine Ok.ofT Z4 Tryz.func64 QuI (Qvd Z) ?_
 show TW _ _ tf64.body _ _
 refine Qe fun K hK => Zy Z Z Z (ZJ Z (hK _ _ (Qa (kp2 Z Z) ?_)))
 refine Qe fun K hK => QB (cs := [_, _, _, _, _]) Z Z Z Z (QA (Qaw) Z Z (.inl Z) (Q2 Z Z (Q5 Z Z Z Z Z Z Z Z (hK _ _ (Qa (kp1 Z) ?_)))))
 refine Qt (ZN (cs := [_, _, _, _, _, _, _]) Z Z Z Z ?_)
 exact rfl
theorem Qad {a b c : Int} {p q : List UInt8} : Ok Tryz.prog 89 [.agg [.int .i64 a, .int .i64 b, .int .i64 c, .str p, .str q]] (.bool (Qe3 a b c)) := by
 refine Ok.ofT Z4 Tryz.func89 Qu1 (Qvd Z) ?_
 show TW _ _ tf89.body _ _
 refine Qe fun K hK => Zy Z Z Z (Qb Z (hK _ _ (Qa (kp1 Z) ?_)))
 refine Qe fun K hK => Qg Z Z (QC Z Z Z (YI Z Z (Qb Z ?_)))
 refine Qv (g := 6) Z (fun h1 => ?_) (fun h1 => ?_)
 ·try rw [h1]
  try simp only [qB] at h1
  refine Qf Z (Qg Z Z (Qf Z (QC Z Z Z (Qf Z (YI Z Z (Qh Z Z (Qb Z ?_)))))))
  refine Qv (g := 11) Z (fun h2 => ?_) (fun h2 => ?_)
  ·try rw [h2]
   try simp only [qB] at h2
   refine Qf Z (Qg Z Z (Qf Z (QC Z Z Z (Qf Z (YI Z Z (Qh Z Z (Qb Z (hK _ _ (Qa (kp1 Z) ?_)))))))))
   refine Qt (Ql Z ?_)
   (repeat clear hK K); simp_all [Qe3]
  ·try rw [h2]
   try simp only [qB] at h2
   refine Qq Z (Qq Z (Qq Z (Qh Z Z (Qb Z (hK _ _ (Qa (kp1 Z) ?_))))))
   refine Qt (Ql Z ?_)
   (repeat clear hK K); simp_all [Qe3]
 ·try rw [h1]
  try simp only [qB] at h1
  refine Qq Z (Qq Z (Qq Z (Qh Z Z (Qb Z (Qq Z (Qq Z (Qq Z (Qh Z Z (Qb Z (hK _ _ (Qa (kp1 Z) ?_)))))))))))
  refine Qt (Ql Z ?_)
  (repeat clear hK K); simp_all [Qe3]
end Go.Proofs
namespace Go.Proofs
open Go Go.Abs M3 M25
theorem Qdr {a b c : Int} {p q : List UInt8} (hp : p.length <= 1000000) (hq : q.length <= 1000000) {part : Int} : Ok Tryz.prog 109 [.agg [.int .i64 a, .int .i64 b, .int .i64 c, .str p, .str q], .int .i64 part] (dOV (Qao a b c p q part)) := by
 refine Ok.ofT Z4 Tryz.func109 Qth (Qvd Z) ?_
 show TW _ _ tf109.body _ _
 refine Qe fun K hK => Zy Z Z Z (ZJ Z (Qb Z (hK _ _ (Qa (kp3 Z Z Z) ?_))))
 refine QF ?_ -- 0
 refine Qe fun K hK => QB (cs := [_, _, _, _, _]) Z Z Z Z (QA (Zi (by omega) (by omega)) Z Z (.inr Z) (ZP Z (Qb Z ?_)))
 refine Qv (g := 10) Z (fun h1 => ?_) (fun h1 => ?_)
 ·try rw [h1]
  try simp only [qB] at h1
  refine Qq Z (Qq Z (Qh Z Z (Qb Z (Qq Z (Qq Z (Qh Z Z (hK _ _ (Qa (kp4 Z Z Z Z) ?_))))))))
  refine Zn Z (Qe fun K hK => Q2 Z Z (Q5 Z Z Z Z Z Z Z Z (Qb Z (hK _ _ (Qa (kp2 Z Z) ?_)))))
  refine Qt (Qk (Post.eq (XR (ds := [.int .i64 _, .int .i64 _, .int .i64 _, .str _, .str _]) (d' := .bool _) (cs := [_, _, _, _, _]) Z Z Z Z Z ⟨rfl, rfl⟩) ?_))
  (repeat clear hK K); first | (simp [Qao, dOV, h1]; done) | (simp_all [Qao, dOV]; done)
 ·try rw [h1]
  try simp only [qB] at h1
  refine Qf Z (Qb Z (Qf Z (Z8 Z Z (Qh Z Z (Qb Z ?_)))))
  refine Qv (g := 14) Z (fun h2 => ?_) (fun h2 => ?_)
  ·try rw [h2]
   try simp only [qB] at h2
   refine Qq Z (Qq Z (Qh Z Z (hK _ _ (Qa (kp4 Z Z Z Z) ?_))))
   refine Zn Z (Qe fun K hK => Q2 Z Z (Q5 Z Z Z Z Z Z Z Z (Qb Z (hK _ _ (Qa (kp2 Z Z) ?_)))))
   refine Qt (Qk (Post.eq (XR (ds := [.int .i64 _, .int .i64 _, .int .i64 _, .str _, .str _]) (d' := .bool _) (cs := [_, _, _, _, _]) Z Z Z Z Z ⟨rfl, rfl⟩) ?_))
   (repeat clear hK K); first | (simp [Qao, dOV, h1, h2]; done) | (simp_all [Qao, dOV]; done)
  ·try rw [h2]
   try simp only [qB] at h2
   refine Qf Z (Qb Z (Qf Z (Qdd Z Z (Qh Z Z (hK _ _ (Qa (kp4 Z Z Z Z) ?_))))))
   refine Qx Z (fun h3 => ?_) (fun h3 => ?_)
   ·try rw [h3]
    try simp only [qB] at h3
    refine Qe fun K hK => Q2 Z Z (Q5 Z Z Z Z Z Z Z Z (Qb Z (hK _ _ (Qa (kp2 Z Z) ?_))))
    refine Qt (Qk (Post.eq (XR (ds := [.int .i64 _, .int .i64 _, .int .i64 _, .str _, .str _]) (d' := .bool _) (cs := [_, _, _, _, _]) Z Z Z Z Z ⟨rfl, rfl⟩) ?_))
    (repeat clear hK K); first | (simp [Qao, dOV, h1, h2, h3]; done) | (simp_all [Qao, dOV]; done)
   ·try rw [h3]
    try simp only [qB] at h3
    refine Qu (Qd (kp3 Z Z Z) (Qe fun K hK => ZJ Z (hK _ _ (Qa (kp4 Z Z Z Z) ?_))))
    refine QF ?_ -- 1
    refine Qe fun K hK => Qb Z (hK _ _ (Qa (kp4 Z Z Z Z) ?_))
    refine QG (Qe fun K hK => YI Z Z (Qb Z (hK _ _ (Qa (kp5 Z Z Z Z Z) ?_))))
    refine Qx Z (fun h4 => ?_) (fun h4 => ?_)
    ·try rw [h4]
     try simp only [qB] at h4
     refine QR fun K hK => Qg Z Z (QC Z Z Z (Q9 Z Z (Qs (by have := QcU (by simpa using h1); omega) (by have := QcU (by simpa using h1); omega)) (Q2 Z Z (Q5 Z Z Z Z Z Z Z Z (hK _ ?_)))))
     refine Qj (Qd (kp2 Z Z) ?_)
     refine QF ?_ -- 2
     refine Qe fun K hK => QB (cs := [_, _, _, _, _]) Z Z Z Z (QA (Zi (by simp) (by simp)) Z Z (.inr Z) (ZP Z (hK _ _ (Qa (kp3 Z Z Z) ?_))))
     refine Qx Z (fun h5 => ?_) (fun h5 => ?_)
     ·try rw [h5]
      try simp only [qB] at h5
      refine Qe fun K hK => Q2 Z Z (Q5 Z Z Z Z Z Z Z Z (Qb Z (hK _ _ (Qa (kp2 Z Z) ?_))))
      refine Qt (Qk (Post.eq (XR (ds := [.int .i64 _, .int .i64 _, .int .i64 _, .str _, .str _]) (d' := .bool _) (cs := [_, _, _, _, _]) Z Z Z Z Z ⟨rfl, rfl⟩) ?_))
      (repeat clear hK K); first | (simp [Qao, dOV, h1, h2, h3, h4, h5]; done) | (simp_all [Qao, dOV]; done)
     ·try rw [h5]
      try simp only [qB] at h5
      refine Qu (Qd (kp2 Z Z) (Qe fun K hK => QB (cs := [_, _, _, _, _]) Z Z Z Z (Q5 Z Z Z Z Z Z Z Z (Qb Z (hK _ _ (Qa (kp2 Z Z) ?_))))))
      refine Qt (Post.eq (XR (ds := [.int .i64 _, .int .i64 _, .int .i64 _, .str _, .str _]) (d' := .bool _) (cs := [_, _, _, _, _]) Z Z Z Z Z ⟨rfl, rfl⟩) ?_)
      (repeat clear hK K); first | (simp [Qao, dOV, h1, h2, h3, h4, h5]; done) | (simp_all [Qao, dOV]; done)
    ·try rw [h4]
     try simp only [qB] at h4
     refine Qe fun K hK => YI Z Z (Qb Z (hK _ _ (Qa (kp4 Z Z Z Z) ?_)))
     refine Qx Z (fun h6 => ?_) (fun h6 => ?_)
     ·try rw [h6]
      try simp only [qB] at h6
      refine QR fun K hK => Qg Z Z (QC Z Z Z (Qg Z Z (QC Z Z Z (Q9 Z Z (Qs (by have := QcU (by simpa using h1); omega) (by have := QcU (by simpa using h1); omega)) (Q2 Z Z (Q5 Z Z Z Z Z Z Z Z (hK _ ?_)))))))
      refine Qj (Qd (kp2 Z Z) ?_)
      refine QF ?_ -- 2
      refine Qe fun K hK => QB (cs := [_, _, _, _, _]) Z Z Z Z (QA (Zi (by simp) (by simp)) Z Z (.inr Z) (ZP Z (hK _ _ (Qa (kp3 Z Z Z) ?_))))
      refine Qx Z (fun h7 => ?_) (fun h7 => ?_)
      ·try rw [h7]
       try simp only [qB] at h7
       refine Qe fun K hK => Q2 Z Z (Q5 Z Z Z Z Z Z Z Z (Qb Z (hK _ _ (Qa (kp2 Z Z) ?_))))
       refine Qt (Qk (Post.eq (XR (ds := [.int .i64 _, .int .i64 _, .int .i64 _, .str _, .str _]) (d' := .bool _) (cs := [_, _, _, _, _]) Z Z Z Z Z ⟨rfl, rfl⟩) ?_))
       (repeat clear hK K); first | (simp [Qao, dOV, h1, h2, h3, h4, h6, h7]; done) | (simp_all [Qao, dOV]; done)
      ·try rw [h7]
       try simp only [qB] at h7
       refine Qu (Qd (kp2 Z Z) (Qe fun K hK => QB (cs := [_, _, _, _, _]) Z Z Z Z (Q5 Z Z Z Z Z Z Z Z (Qb Z (hK _ _ (Qa (kp2 Z Z) ?_))))))
       refine Qt (Post.eq (XR (ds := [.int .i64 _, .int .i64 _, .int .i64 _, .str _, .str _]) (d' := .bool _) (cs := [_, _, _, _, _]) Z Z Z Z Z ⟨rfl, rfl⟩) ?_)
       (repeat clear hK K); first | (simp [Qao, dOV, h1, h2, h3, h4, h6, h7]; done) | (simp_all [Qao, dOV]; done)
     ·try rw [h6]
      try simp only [qB] at h6
      refine QR fun K hK => Qg Z Z (QC Z Z Z (Qg Z Z (QC Z Z Z (Qg Z Z (QC Z Z Z (Q9 Z Z (Qs (by have := QcU (by simpa using h1); omega) (by have := QcU (by simpa using h1); omega)) (Q2 Z Z (Q5 Z Z Z Z Z Z Z Z (hK _ ?_)))))))))
      refine Qj (Qd (kp2 Z Z) ?_)
      refine QF ?_ -- 2
      refine Qe fun K hK => QB (cs := [_, _, _, _, _]) Z Z Z Z (QA (Zi (by simp) (by simp)) Z Z (.inr Z) (ZP Z (hK _ _ (Qa (kp3 Z Z Z) ?_))))
      refine Qx Z (fun h8 => ?_) (fun h8 => ?_)
      ·try rw [h8]
       try simp only [qB] at h8
       refine Qe fun K hK => Q2 Z Z (Q5 Z Z Z Z Z Z Z Z (Qb Z (hK _ _ (Qa (kp2 Z Z) ?_))))
       refine Qt (Qk (Post.eq (XR (ds := [.int .i64 _, .int .i64 _, .int .i64 _, .str _, .str _]) (d' := .bool _) (cs := [_, _, _, _, _]) Z Z Z Z Z ⟨rfl, rfl⟩) ?_))
       (repeat clear hK K); first | (simp [Qao, dOV, h1, h2, h3, h4, h6, h8]; done) | (simp_all [Qao, dOV]; done)
      ·try rw [h8]
       try simp only [qB] at h8
       refine Qu (Qd (kp2 Z Z) (Qe fun K hK => QB (cs := [_, _, _, _, _]) Z Z Z Z (Q5 Z Z Z Z Z Z Z Z (Qb Z (hK _ _ (Qa (kp2 Z Z) ?_))))))
       refine Qt (Post.eq (XR (ds := [.int .i64 _, .int .i64 _, .int .i64 _, .str _, .str _]) (d' := .bool _) (cs := [_, _, _, _, _]) Z Z Z Z Z ⟨rfl, rfl⟩) ?_)
       (repeat clear hK K); first | (simp [Qao, dOV, h1, h2, h3, h4, h6, h8]; done) | (simp_all [Qao, dOV]; done)
theorem Qds {a b c : Int} {p q : List UInt8} (hp : p.length <= 1000000) (hq : q.length <= 1000000) : Ok Tryz.prog 91 [.agg [.int .i64 a, .int .i64 b, .int .i64 c, .str p, .str q]] (dOV (Qjo a b c p q)) := by
 refine Ok.ofT Z4 Tryz.func91 Qu3 (Qvd Z) ?_
 show TW _ _ tf91.body _ _
 refine Qe fun K hK => Zy Z Z Z (ZJ Z (Qb Z (hK _ _ (Qa (kp2 Z Z) ?_))))
 refine QF ?_ -- 0
 refine Qe fun K hK => QB (cs := [_, _, _, _, _]) Z Z Z Z (QA (Zi (by omega) (by omega)) Z Z (.inr Z) (ZP Z (hK _ _ (Qa (kp3 Z Z Z) ?_))))
 refine Qx Z (fun h1 => ?_) (fun h1 => ?_)
 ·try rw [h1]
  try simp only [qB] at h1
  refine Qe fun K hK => Q2 Z Z (Q5 Z Z Z Z Z Z Z Z (Qb Z (hK _ _ (Qa (kp2 Z Z) ?_))))
  refine Qt (Qk (Post.eq (XR (ds := [.int .i64 _, .int .i64 _, .int .i64 _, .str _, .str _]) (d' := .bool _) (cs := [_, _, _, _, _]) Z Z Z Z Z ⟨rfl, rfl⟩) ?_))
  simp [Qjo, dOV, h1]
 ·try rw [h1]
  try simp only [qB] at h1
  refine Qu (Qd (kp2 Z Z) ?_)
  refine QF ?_ -- 1
  refine Qe fun K hK => Qg Z Z (QC Z Z Z (QlR Z Z (hK _ _ (Qa (kp3 Z Z Z) ?_))))
  refine Qx Z (fun h2 => ?_) (fun h2 => ?_)
  ·try rw [h2]
   try simp only [qB] at h2
   refine Qe fun K hK => Qg Z Z (QC Z Z Z (Qg Z Z (QC Z Z Z (Qg Z Z (QC Z Z Z (Q2 Z Z (Q5 Z Z Z Z Z Z Z Z (Qb Z (hK _ _ (Qa (kp2 Z Z) ?_))))))))))
   refine Qt (Qk (Post.eq (XR (ds := [.int .i64 _, .int .i64 _, .int .i64 _, .str _, .str _]) (d' := .bool _) (cs := [_, _, _, _, _]) Z Z Z Z Z ⟨rfl, rfl⟩) ?_))
   simp [Qjo, dOV, h1, h2]
  ·try rw [h2]
   try simp only [qB] at h2
   refine Qu (Qd (kp2 Z Z) ?_)
   refine QF ?_ -- 2
   refine Qe fun K hK => Qb Z (hK _ _ (Qa (kp3 Z Z Z) ?_))
   refine QG ?_
   refine ZH (ι := Nat) (fun m => ⟨[(1, .ref 1 0 0), (2, .ref 2 0 0), (4, .int .i64 ((m : Int) - 1))], [(1, ⟨[[.int .i64 a, .int .i64 b, .int .i64 c, .str p, .str q]], 5, 59, true⟩), (2, ⟨[[.int .i64 0, .int .i64 0, .int .i64 0, .str [], .str []]], 5, 59, true⟩)]⟩) (fun m => m <= 3 /\ XV a b c p q 3 = XV a b c p q m) (fun m => m) 3 ?_ ?_ ?_
   ·exact Q1 (l := [1, 2, 4]) (lH := [1, 2]) (kp3 rfl rfl rfl) (Qi rfl (Qi rfl Qp)) rfl rfl rfl
   ·exact ⟨by omega, rfl⟩
   intro m hI
   obtain ⟨hI1, hI2⟩ := hI
   try dsimp only
   refine QF ?_ -- 3
   refine Qe fun K hK => Qb Z (QeV Z Z (hK _ _ (Qa (kp4 Z Z Z Z) ?_)))
   refine Qx Z (fun h3 => ?_) (fun h3 => ?_)
   ·try rw [h3]
    try simp only [qB] at h3
    rcases Nat.eq_zero_or_pos m with hm | hm <;> first | omega | skip
    refine Qu (Qd (kp3 Z Z Z) ?_)
    refine QF ?_ -- 4
    refine QG (Qe fun K hK => QB (cs := [_, _, _, _, _]) Z Z Z Z (Qb Z (QA (Qdr (by omega) (by omega)) Z Z (.inl Z) (Qb Z (Q6 Z Z (Q6 Z Z (ZJ Z (Q5 Z Z Z Z Z Z Z Z (Qb Z (hK _ _ (Qa (kp5 Z Z Z Z Z) ?_)))))))))))
    refine Qe fun K hK => Qb Z (hK _ _ (Qa (kp5 Z Z Z Z Z) ?_))
    refine Qx Z (fun h4 => ?_) (fun h4 => ?_)
    ·try rw [h4]
     try simp only [qB] at h4
     refine Qe fun K hK => QB (cs := [_, _, _, _, _]) Z Z Z Z (Q5 Z Z Z Z Z Z Z Z (Qb Z (hK _ _ (Qa (kp2 Z Z) ?_))))
     refine Qt (Qw (Qk (Q4 (Qw (Qk (Post.eq (XR (ds := [.int .i64 _, .int .i64 _, .int .i64 _, .str _, .str _]) (d' := .bool _) (cs := [_, _, _, _, _]) Z Z Z Z Z ⟨rfl, rfl⟩) ?_))))))
     subst h2
     simp [Qjo, dOV, h1, hI2, QiS hm h4, h4]
    ·try rw [h4]
     try simp only [qB] at h4
     refine Qu (Qj (Qd (kp3 Z Z Z) (QR fun K hK => Qb Z (Qdm Z Z (by first | exact Qs (by omega) (by omega) | rfl) (Qb Z (hK _ ?_))))))
     refine Qm (m - 1) ?_ ?_ ?_
     ·refine Q1 (l := [1, 2, 4]) (lH := [1, 2]) (kp3 Z Z Z) (Qi Z (Qi Z Qp)) ?_ Z rfl; simp only [List.cons.injEq, Prod.mk.injEq, D.int.injEq, and_true, true_and]; omega
     ·exact ⟨by omega, by rw [hI2]; exact Qj3 hm h4⟩
     ·show m - 1 < m; omega
   ·try rw [h3]
    try simp only [qB] at h3
    rcases Nat.eq_zero_or_pos m with hm | hm <;> first | omega | skip
    refine Zf (QK (Qz (QH (Qd (kp1 Z) (Qe fun K hK => Q2 Z Z (Q5 Z Z Z Z Z Z Z Z (Qb Z (hK _ _ (Qa (kp2 Z Z) ?_)))))))))
    refine Qt (Post.eq (XR (ds := [.int .i64 _, .int .i64 _, .int .i64 _, .str _, .str _]) (d' := .bool _) (cs := [_, _, _, _, _]) Z Z Z Z Z ⟨rfl, rfl⟩) ?_)
    subst h2
    subst hm
    have hb : XV a b c [] q 3 = none := hI2
    simp [Qjo, dOV, h1, hb]
end Go.Proofs
namespace Go.Proofs
open Go Go.Abs M3 M25
theorem Qae {e a b c : Int} {p q : List UInt8} {f : Bool} : Ok Tryz.prog 103 [.agg [.int .i64 e, .int .i64 a, .int .i64 b, .int .i64 c, .str p, .str q, .bool f]] (.bool (Qe4 e a b c p q f)) := by
 refine Ok.ofT Z4 Tryz.func103 Qtb (Qvd Z) ?_
 show TW _ _ tf103.body _ _
 refine Qe fun K hK => Zy Z Z Z (Qb Z (hK _ _ (Qa (kp1 Z) ?_)))
 refine Qe fun K hK => Qg Z Z (QC Z Z Z (YN Z Z (Qb Z ?_)))
 refine Qv (g := 6) Z (fun h1 => ?_) (fun h1 => ?_)
 ·try rw [h1]
  try simp only [qB] at h1
  refine Qq Z (Qq Z (Qq Z (Qq Z (QJ Z (QJ Z (QJ Z (QJ Z (Qq Z (Qq Z (QJ Z (QJ Z ?_)))))))))))
  refine QJ Z (QJ Z (Qq Z (Qh Z Z (Qb Z (hK _ _ (Qa (kp1 Z) ?_))))))
  refine Qt (Ql Z ?_)
  (repeat clear hK K); simp_all [Qe4]
 ·try rw [h1]
  try simp only [qB] at h1
  refine Qf Z (Qg Z Z (Qf Z (QC Z Z Z (Qf Z (ZP Z (Qf Z (Qb Z ?_)))))))
  refine Qv (g := 10) Z (fun h2 => ?_) (fun h2 => ?_)
  ·try rw [h2]
   try simp only [qB] at h2
   refine Qf Z (Qg Z Z (Qf Z (Qg Z Z (Qf Z (QC Z Z Z (Qf Z (Qb2 Z Z (Qf Z (Qh Z Z (Qf Z (Qb Z ?_)))))))))))
   refine Qv (g := 16) Z (fun h3 => ?_) (fun h3 => ?_)
   ·try rw [h3]
    try simp only [qB] at h3
    refine Qf Z (Qg Z Z (Qf Z (QB (cs := [_, _, _, _, _]) Z Z Z Z (Qf Z (QA (Qad) Z Z (.inr Z) (Qf Z (ZP Z (Qf Z (Qh Z Z (Qh Z Z (Qb Z ?_)))))))))))
    refine hK _ _ (Qa (kp1 Z) ?_)
    refine Qt (Ql Z ?_)
    (repeat clear hK K); simp_all [Qe4]
   ·try rw [h3]
    try simp only [qB] at h3
    refine Qq Z (Qq Z (Qq Z (Qq Z (Qf Z (Qh Z Z (Qh Z Z (Qb Z (hK _ _ (Qa (kp1 Z) ?_)))))))))
    refine Qt (Ql Z ?_)
    (repeat clear hK K); simp_all [Qe4]
  ·try rw [h2]
   try simp only [qB] at h2
   refine Qq Z (Qq Z (Qq Z (Qq Z (Qf Z (Qh Z Z (Qf Z (Qb Z (Qq Z (Qq Z (Qq Z (Qq Z ?_)))))))))))
   refine Qf Z (Qh Z Z (Qh Z Z (Qb Z (hK _ _ (Qa (kp1 Z) ?_)))))
   refine Qt (Ql Z ?_)
   (repeat clear hK K); simp_all [Qe4]
theorem Qda {a b c : Int} {p q : List UInt8} : Ok Tryz.prog 65 [.agg [.int .i64 a, .int .i64 b, .int .i64 c, .str p, .str q]] (.agg (dCu (Qgh a b c))) := by
 refine Ok.ofT Z4 Tryz.func65 QuJ (Qvd Z) ?_
 show TW _ _ tf65.body _ _
 refine Qe fun K hK => Zy Z Z Z (ZJ Z (hK _ _ (Qa (kp2 Z Z) ?_)))
 refine QF ?_ -- 0
 refine Qe fun K hK => QB (cs := [_, _, _, _, _]) Z Z Z Z (QA (Qad) Z Z (.inr Z) (hK _ _ (Qa (kp3 Z Z Z) ?_)))
 refine Qx Z (fun h1 => ?_) (fun h1 => ?_)
 ·try rw [h1]
  try simp only [qB] at h1
  refine Qe fun K hK => QA (Xj) Z Z (.inl Z) (Q5 Z Z Z Z Z Z Z Z (hK _ _ (Qa (kp1 Z) ?_)))
  refine Qt (Qk (Post.eq (ZN (ds := [.int .i64 _, .int .i64 _, .int .i64 _, .int .i64 _, .str _, .str _, .bool _]) (cs := [_, _, _, _, _, _, _]) Z Z Z Z Z) ?_))
  simp [Qgh, dCu, Qdg, h1]
 ·try rw [h1]
  try simp only [qB] at h1
  refine Qu (Qd (kp2 Z Z) (Qe fun K hK => Qg Z Z (QC Z Z Z (Qg Z Z (QC Z Z Z (Qg Z Z (QC Z Z Z (Q2 Z Z (QA (YY) Z Z (.inl Z) (Q5 Z Z Z Z Z Z Z Z ?_))))))))))
  refine hK _ _ (Qa (kp1 Z) ?_)
  refine Qt (Post.eq (ZN (ds := [.int .i64 _, .int .i64 _, .int .i64 _, .int .i64 _, .str _, .str _, .bool _]) (cs := [_, _, _, _, _, _, _]) Z Z Z Z Z) ?_)
  simp [Qgh, dCu, Qdg, h1]
theorem Qcf {a b c : Int} {p q : List UInt8} : Ok Tryz.prog 66 [.agg [.int .i64 a, .int .i64 b, .int .i64 c, .str p, .str q]] (.agg (dCu (Qee a b c))) := by
 refine Ok.ofT Z4 Tryz.func66 QuK (Qvd Z) ?_
 show TW _ _ tf66.body _ _
 refine Qe fun K hK => Zy Z Z Z (ZJ Z (hK _ _ (Qa (kp2 Z Z) ?_)))
 refine Qe fun K hK => Qg Z Z (QC Z Z Z (Qg Z Z (QC Z Z Z (Qg Z Z (QC Z Z Z (Q2 Z Z (QA (Qds (by simp) (by simp)) Z Z (.inl Z) (Qb Z (Q6 Z Z (Q6 Z Z ?_))))))))))
 refine ZJ Z (Q5 Z Z Z Z Z Z Z Z (Qb Z (hK _ _ (Qa (kp3 Z Z Z) ?_))))
 refine QF ?_ -- 0
 refine Qe fun K hK => Qb Z (ZP Z (hK _ _ (Qa (kp3 Z Z Z) ?_)))
 refine Qx Z (fun h1 => ?_) (fun h1 => ?_)
 ·try rw [h1]
  try simp only [qB] at h1
  refine Qe fun K hK => QA (Xt) Z Z (.inl Z) (Q5 Z Z Z Z Z Z Z Z (hK _ _ (Qa (kp1 Z) ?_)))
  refine Qt (Qk (Post.eq (ZN (ds := [.int .i64 _, .int .i64 _, .int .i64 _, .int .i64 _, .str _, .str _, .bool _]) (cs := [_, _, _, _, _, _, _]) Z Z Z Z Z) ?_))
  cases hn : Qjo a b c [] [] <;> simp [Qee, dCu, QgT, hn] at *
 ·try rw [h1]
  try simp only [qB] at h1
  refine Qu (Qd (kp2 Z Z) (Qe fun K hK => QB (cs := [_, _, _, _, _]) Z Z Z Z (QA (YY) Z Z (.inl Z) (Q5 Z Z Z Z Z Z Z Z (hK _ _ (Qa (kp1 Z) ?_))))))
  refine Qt (Post.eq (ZN (ds := [.int .i64 _, .int .i64 _, .int .i64 _, .int .i64 _, .str _, .str _, .bool _]) (cs := [_, _, _, _, _, _, _]) Z Z Z Z Z) ?_)
  cases hn : Qjo a b c [] [] <;> simp [Qee, dCu, QgT, hn] at *
theorem Qaf  : Ok Tryz.prog 85 [] (Zl [(Qdg, QgT)]) := by
 refine Ok.ofT Z4 Tryz.func85 QuX (Qvd Z) ?_
 show TW _ _ tf85.body _ _
 refine Qe fun K hK => Qb Z (hK _ _ (Qa (ZC) ?_))
 refine Qe fun K hK => QA (Xj) Z Z (.inl Z) (QA (Xt) Z Z (.inl Z) (Q2 Z Z (QP Z Z (Qb Z (hK _ _ (Qa (kp1 Z) ?_))))))
 refine Qt (Z7 Z ?_)
 rfl
theorem Yj  : Ok Tryz.prog 62 [] (QfU ([], [])) := by
 refine Ok.ofT Z4 Tryz.func62 QuG (Qvd Z) ?_
 show TW _ _ tf62.body _ _
 refine Qe fun K hK => ZJ Z (hK _ _ (Qa (kp1 Z) ?_))
 refine Qe fun K hK => Q2 Z Z (Q5 Z Z Z Z Z Z Z Z (hK _ _ (Qa (kp1 Z) ?_)))
 refine Qt (Post.eq (ZN (ds := [.sl _, .sl _]) (cs := [_, _]) Z Z Z Z Z) ?_)
 rfl
theorem QaU  : Ok Tryz.prog 60 [] (QfU ([(Qdg, QgT)], [(Qdg, QgT)])) := by
 refine Ok.ofT Z4 Tryz.func60 QuE (Qvd Z) ?_
 show TW _ _ tf60.body _ _
 refine Qe fun K hK => ZJ Z (hK _ _ (Qa (kp1 Z) ?_))
 refine Qe fun K hK => QA (Qaf) Z Z (.inl Z) (QA (Qaf) Z Z (.inl Z) (Q2 Z Z (Q5 Z Z Z Z Z Z Z Z (hK _ _ (Qa (kp1 Z) ?_)))))
 refine Qt (Post.eq (ZN (ds := [.sl _, .sl _]) (cs := [_, _]) Z Z Z Z Z) ?_)
 rfl
theorem Qac {a b c : Int} {p q : List UInt8} (hp : p.length <= 1000000) (hq : q.length <= 1000000) : Ok Tryz.prog 32 [.agg [.int .i64 a, .int .i64 b, .int .i64 c, .str p, .str q]] (QfU (Xw a b c p q)) := by
 refine Ok.ofT Z4 Tryz.func32 Quk (Qvd Z) ?_
 show TW _ _ tf32.body _ _
 refine Qe fun K hK => Zy Z Z Z (ZJ Z (hK _ _ (Qa (kp2 Z Z) ?_)))
 refine QF ?_ -- 0
 refine Qe fun K hK => QB (cs := [_, _, _, _, _]) Z Z Z Z (QA (Zi (by omega) (by omega)) Z Z (.inr Z) (ZP Z (hK _ _ (Qa (kp3 Z Z Z) ?_))))
 refine Qx Z (fun h1 => ?_) (fun h1 => ?_)
 ·try rw [h1]
  try simp only [qB] at h1
  refine Qe fun K hK => QA (Yj) Z Z (.inl Z) (Q5 Z Z Z Z Z Z Z Z (hK _ _ (Qa (kp1 Z) ?_)))
  refine Qt (Qk (Post.eq (ZN (ds := [.sl _, .sl _]) (cs := [_, _]) Z Z Z Z Z) ?_))
  simp [Xw, QfU, Zl, Qfd, dCu, h1]
 ·try rw [h1]
  try simp only [qB] at h1
  refine Qu (Qd (kp2 Z Z) ?_)
  refine QF ?_ -- 1
  refine Qe fun K hK => Qg Z Z (QC Z Z Z (QlR Z Z (hK _ _ (Qa (kp3 Z Z Z) ?_))))
  refine Qx Z (fun h2 => ?_) (fun h2 => ?_)
  ·try rw [h2]
   try simp only [qB] at h2
   refine Qe fun K hK => QQ (ds0 := [6, 3, 2, 1, 0]) (cs := [_, _, _, _, _]) Z Z Z Z Z Z (Ze (ds0 := [3, 2, 1, 0]) (YY) Z Z (.inl Z) Z Z (QQ (ds0 := [4, 3, 2, 1, 0]) (cs := [_, _, _, _, _]) Z Z Z Z Z Z (Ze (ds0 := [3, 2, 1, 0]) (Qce) Z Z (.inl Z) Z Z (Q2 Z Z (QP Z Z (Q2 Z Z (Xo (ds0 := []) Z Z Z Z Z Z Z Z Z Z (hK _ _ (Qa (kp1 Z) ?_)))))))))
   refine Qt (Qk (Post.eq (ZN (ds := [.sl _, .sl _]) (cs := [_, _]) Z Z Z Z Z) ?_))
   simp [Xw, QfU, Zl, Qfd, dCu, h1, h2]
  ·try rw [h2]
   try simp only [qB] at h2
   refine Qu (Qd (kp2 Z Z) (Qe fun K hK => QQ (ds0 := [6, 3, 2, 1, 0]) (cs := [_, _, _, _, _]) Z Z Z Z Z Z (Ze (ds0 := [3, 2, 1, 0]) (Qda) Z Z (.inl Z) Z Z (QQ (ds0 := [4, 3, 2, 1, 0]) (cs := [_, _, _, _, _]) Z Z Z Z Z Z (Ze (ds0 := [3, 2, 1, 0]) (Qcf) Z Z (.inl Z) Z Z (Q2 Z Z (QP Z Z (Q2 Z Z (Xo (ds0 := []) Z Z Z Z Z Z Z Z Z Z (hK _ _ (Qa (kp1 Z) ?_)))))))))))
   refine Qt (Post.eq (ZN (ds := [.sl _, .sl _]) (cs := [_, _]) Z Z Z Z Z) ?_)
   subst h2
   simp [Xw, QfU, Zl, Qfd, dCu, h1]
end Go.Proofs
namespace Go.Proofs
open Go Go.Abs M3 M25
theorem Z9 {l : List (Cu × Cu)} (hl : Sm l) : Ok Tryz.prog 102 [Zl l] (.bool (Qb5 l)) := by
 refine Ok.ofT Z4 Tryz.func102 Qta (Qvd Z) ?_
 show TW _ _ tf102.body _ _
 have hn := hl.1
 refine Qe fun K hK => Qb Z (hK _ _ (Qa (kp1 Z) ?_))
 refine QF ?_ -- 0
 refine Qe fun K hK => Qb Z (hK _ _ (Qa (kp2 Z Z) ?_))
 refine QG ?_
 refine ZH (ι := Nat) (fun i => ⟨[(0, Zl l), (3, .int .i64 i)], []⟩) (fun i => i <= l.length /\ (List.range i).all (QqU l) = true) (fun i => l.length - i) 0 ?_ ?_ ?_
 ·exact Q7 (kp2 rfl rfl)
 ·exact ⟨Qvp _, rfl⟩
 intro i hI
 try dsimp only
 refine QF ?_ -- 1
 refine Qe fun K hK => Qb Z (Qb Z (Q0 Z Z (Z8 Z Z (hK _ _ (Qa (kp3 Z Z Z) ?_)))))
 refine Qx Z (fun h1 => ?_) (fun h1 => ?_)
 ·try rw [h1]
  try simp only [qA] at h1
  refine Qu (Qd (kp2 Z Z) ?_)
  refine QF ?_ -- 2
  refine QG (Qe fun K hK => Qb Z (Qb Z (QM Z Z Z (by omega) (Zk (by omega)) Z (QQ (ds0 := [20, 19, 18, 17, 16, 15, 14, 13, 12, 11, 10, 9, 8, 7, 6, 5, 4, 3, 2, 1, 0]) (cs := [_, _, _, _, _, _, _, _, _, _, _, _, _, _]) Z Z Z Z Z Z (Ze (ds0 := [19, 18, 17, 16, 15, 14, 13, 12, 11, 10, 9, 8, 7, 6, 5, 4, 3, 2, 1, 0]) (YP (hl.at (i := i) (by omega)).1.1 (hl.at (i := i) (by omega)).1.2 (hl.at (i := i) (by omega)).2.1 (hl.at (i := i) (by omega)).2.2) Z Z (.inr Z) Z Z (ZP Z (Qb Z ?_)))))))
  refine Qv (g := 16) Z (fun h2 => ?_) (fun h2 => ?_)
  ·try rw [h2]
   try simp only [qA] at h2
   refine Qq Z (Qq Z (Qq Z (QJ Z (QJ Z (QJ Z (QJ Z (QJ Z (QJ Z (QJ Z (QJ Z (QJ Z ?_)))))))))))
   refine QJ Z (QJ Z (QJ Z (QJ Z (Qq Z (Qh Z Z (hK _ _ (Qa (kp3 Z Z Z) ?_)))))))
   refine Zn Z (Qe fun K hK => Qb Z (hK _ _ (Qa (kp1 Z) ?_)))
   refine Qt (Qw (Qk (Q4 (Qw (Qk (Ql Z ?_))))))
   first
    | exact (QcX hI.2 (by omega)).symm
    | exact (YV (i := i) (by omega) (Qb0 (by omega) (.inl h2))).symm
    | (simp only [XY] at *; exact (YV (i := i) (by omega) (Qb0 (by omega) (.inr ⟨by omega, h4⟩))).symm)
  ·try rw [h2]
   try simp only [qA] at h2
   refine Qf Z (Qb Z (Qf Z (Qdd Z Z (Qf Z (Qb Z ?_)))))
   refine Qv (g := 19) Z (fun h3 => ?_) (fun h3 => ?_)
   ·try rw [h3]
    try simp only [qA] at h3
    refine Qf Z (Qb Z (Qf Z (Qb Z (Qf Z (Qdm Z Z (by first | exact Qs (by omega) (by omega) | rfl) (Qf Z (QM Z Z Z (by omega) (Zz (by omega) (by omega)) Z (Qf Z (Zd Z Z (Qf Z (QQ (ds0 := [3, 2, 1, 0]) (cs := [_, _, _, _, _, _, _]) Z Z Z Z Z Z ?_)))))))))))
    refine Qf Z (Qb Z (Qf Z (Qb Z (Qf Z (QM Z Z Z (by omega) (Zk (by omega)) Z (Qf Z (Zd Z Z (Qf Z (QQ (ds0 := [3, 2, 1, 0]) (cs := [_, _, _, _, _, _, _]) Z Z Z Z Z Z (Qf Z (Ze (ds0 := [2, 1, 0]) (ZG (hl.at (i := ((i : Int) - 1).toNat) (by omega)).2.1 (hl.at (i := ((i : Int) - 1).toNat) (by omega)).2.2 (hl.at (i := i) (by omega)).1.1 (hl.at (i := i) (by omega)).1.2) Z Z (.inr Z) Z Z ?_)))))))))))
    refine Qf Z (QeV Z Z (Qf Z (Qh Z Z (Qh Z Z (hK _ _ (Qa (kp3 Z Z Z) ?_))))))
    refine Qx Z (fun h4 => ?_) (fun h4 => ?_)
    ·try rw [h4]
     try simp only [qA] at h4
     refine Qe fun K hK => Qb Z (hK _ _ (Qa (kp1 Z) ?_))
     refine Qt (Qw (Qk (Q4 (Qw (Qk (Ql Z ?_))))))
     first
      | exact (QcX hI.2 (by omega)).symm
      | exact (YV (i := i) (by omega) (Qb0 (by omega) (.inl h2))).symm
      | (simp only [XY] at *; exact (YV (i := i) (by omega) (Qb0 (by omega) (.inr ⟨by omega, h4⟩))).symm)
    ·try rw [h4]
     try simp only [qA] at h4
     refine Qu (Qj (Qd (kp2 Z Z) (QR fun K hK => Qb Z (Q9 Z Z (by first | exact Qs (by omega) (by omega) | rfl) (Qb Z (hK _ ?_))))))
     refine Qm (i + 1) ?_ ?_ ?_
     ·exact Q7 (kp2 rfl rfl)
     ·exact ⟨by omega, QcY hI.2 (Qlu (by omega) h2 (by first | exact .inl (by omega) | (simp only [XY] at *; exact .inr (Int.not_le.1 h4))))⟩
     ·first | omega | (simp only; omega) | (dsimp only; omega)
   ·try rw [h3]
    try simp only [qA] at h3
    refine Qq Z (Qq Z (Qq Z (Qq Z (Qq Z (Qq Z (Qq Z (Qq Z (Qq Z (Qq Z (Qq Z (Qq Z ?_)))))))))))
    refine Qq Z (Qf Z (Qh Z Z (Qh Z Z (hK _ _ (Qa (kp3 Z Z Z) ?_)))))
    refine Zq Z (Qu (Qj (Qd (kp2 Z Z) (QR fun K hK => Qb Z (Q9 Z Z (by first | exact Qs (by omega) (by omega) | rfl) (Qb Z (hK _ ?_)))))))
    refine Qm (i + 1) ?_ ?_ ?_
    ·exact Q7 (kp2 rfl rfl)
    ·exact ⟨by omega, QcY hI.2 (Qlu (by omega) h2 (by first | exact .inl (by omega) | (simp only [XY] at *; exact .inr (Int.not_le.1 h4))))⟩
    ·first | omega | (simp only; omega) | (dsimp only; omega)
 ·try rw [h1]
  try simp only [qA] at h1
  refine Zf (QK (Qz (QH (Qd (ZC) (Qe fun K hK => Qb Z (hK _ _ (Qa (kp1 Z) ?_)))))))
  refine Qt (Ql Z ?_)
  first
   | exact (QcX hI.2 (by omega)).symm
   | exact (YV (i := i) (by omega) (Qb0 (by omega) (.inl h2))).symm
   | (simp only [XY] at *; exact (YV (i := i) (by omega) (Qb0 (by omega) (.inr ⟨by omega, h4⟩))).symm)
theorem Qbn {l : List (Cu × Cu)} (hl : Sm l) {x y : Cu} (hx : Cu.sm x) (hy : Cu.sm y) : Ok Tryz.prog 127 [Zl l, .agg (dCu x), .agg (dCu y)] (.bool (mIn l x y)) := by
 refine Ok.ofT Z4 Tryz.func127 Qtx (Qvd Z) ?_
 show TW _ _ tf127.body _ _
 have hn := hl.1
 refine Qe fun K hK => Zy Z Z Z (Zy Z Z Z (Qb Z (hK _ _ (Qa (kp3 Z Z Z) ?_))))
 refine QF ?_ -- 0
 refine Qe fun K hK => Qb Z (hK _ _ (Qa (kp4 Z Z Z Z) ?_))
 refine QG ?_
 refine ZH (ι := Nat) (fun i => ⟨[(0, Zl l), (4, .ref 4 0 0), (5, .ref 5 0 0), (7, .int .i64 i)], [(4, ⟨[dCu x], 7, 113, true⟩), (5, ⟨[dCu y], 7, 113, true⟩)]⟩) (fun i => i <= l.length /\ (l.take i).any (inC x y) = false) (fun i => l.length - i) 0 ?_ ?_ ?_
 ·exact Q1 (l := [0, 4, 5, 7]) (lH := [4, 5]) (kp4 rfl rfl rfl rfl) (Qi rfl (Qi rfl Qp)) rfl rfl rfl
 ·exact ⟨Qvp _, by simp⟩
 intro i hI
 try dsimp only
 refine QF ?_ -- 1
 refine Qe fun K hK => Qb Z (Qb Z (Q0 Z Z (Z8 Z Z (hK _ _ (Qa (kp5 Z Z Z Z Z) ?_)))))
 refine Qx Z (fun h1 => ?_) (fun h1 => ?_)
 ·try rw [h1]
  try simp only [qA] at h1
  refine Qu (Qd (kp4 Z Z Z Z) ?_)
  refine QF ?_ -- 2
  refine QG (Qe fun K hK => Qb Z (Qb Z (QM Z Z Z (by omega) (Zk (by omega)) Z (Zd Z Z (QQ (ds0 := [11, 10, 9, 8, 7, 6, 5, 4, 3, 2, 1, 0]) (cs := [_, _, _, _, _, _, _]) Z Z Z Z Z Z (QQ (ds0 := [11, 10, 9, 8, 7, 6, 5, 4, 3, 2, 1, 0]) (cs := [_, _, _, _, _, _, _]) Z Z Z Z Z Z (Ze (ds0 := [10, 9, 8, 7, 6, 5, 4, 3, 2, 1, 0]) (ZG (hl.at (i := i) (by omega)).1.1 (hl.at (i := i) (by omega)).1.2 hx.1 hx.2) Z Z (.inr Z) Z Z (Qoc Z Z (Qb Z ?_)))))))))
  refine Qv (g := 22) Z (fun h2 => ?_) (fun h2 => ?_)
  ·try rw [h2]
   try simp only [qA] at h2
   refine Qf Z (QQ (ds0 := [2, 1, 0]) (cs := [_, _, _, _, _, _, _]) Z Z Z Z Z Z (Qf Z (Qb Z (Qf Z (Qb Z (Qf Z (QM Z Z Z (by omega) (Zk (by omega)) Z (Qf Z (Zd Z Z (Qf Z (QQ (ds0 := [2, 1, 0]) (cs := [_, _, _, _, _, _, _]) Z Z Z Z Z Z ?_)))))))))))
   refine Qf Z (Ze (ds0 := [1, 0]) (ZG hy.1 hy.2 (hl.at (i := i) (by omega)).2.1 (hl.at (i := i) (by omega)).2.2) Z Z (.inr Z) Z Z (Qf Z (Qoc Z Z (Qh Z Z (hK _ _ (Qa (kp5 Z Z Z Z Z) ?_))))))
   refine Qx Z (fun h3 => ?_) (fun h3 => ?_)
   ·try rw [h3]
    try simp only [qA] at h3
    refine Qe fun K hK => Qb Z (hK _ _ (Qa (kp1 Z) ?_))
    refine Qt (Qw (Qk (Q4 (Qw (Qk (Ql Z ?_))))))
    first
     | exact (QpE (i := i) (by omega) hI.2).symm
     | exact (Qj1 (i := i) (by omega) (Qr2 h2 h3)).symm
   ·try rw [h3]
    try simp only [qA] at h3
    refine Qu (Qj (Qd (kp4 Z Z Z Z) (QR fun K hK => Qb Z (Q9 Z Z (by first | exact Qs (by omega) (by omega) | rfl) (Qb Z (hK _ ?_))))))
    refine Qm (i + 1) ?_ ?_ ?_
    ·exact Q1 (l := [0, 4, 5, 7]) (lH := [4, 5]) (kp4 rfl rfl rfl rfl) (Qi rfl (Qi rfl Qp)) rfl rfl rfl
    ·exact ⟨by omega, Qg5 (by omega) hI.2 (Qr1 (by first | exact .inl h2 | exact .inr h3))⟩
    ·first | omega | (simp only; omega) | (dsimp only; omega)
  ·try rw [h2]
   try simp only [qA] at h2
   refine Qq Z (Qq Z (Qq Z (Qq Z (Qq Z (Qq Z (Qq Z (Qq Z (Qh Z Z (hK _ _ (Qa (kp5 Z Z Z Z Z) ?_))))))))))
   refine Zq Z (Qu (Qj (Qd (kp4 Z Z Z Z) (QR fun K hK => Qb Z (Q9 Z Z (by first | exact Qs (by omega) (by omega) | rfl) (Qb Z (hK _ ?_)))))))
   refine Qm (i + 1) ?_ ?_ ?_
   ·exact Q1 (l := [0, 4, 5, 7]) (lH := [4, 5]) (kp4 rfl rfl rfl rfl) (Qi rfl (Qi rfl Qp)) rfl rfl rfl
   ·exact ⟨by omega, Qg5 (by omega) hI.2 (Qr1 (by first | exact .inl h2 | exact .inr h3))⟩
   ·first | omega | (simp only; omega) | (dsimp only; omega)
 ·try rw [h1]
  try simp only [qA] at h1
  refine Zf (QK (Qz (QH (Qd (ZC) (Qe fun K hK => Qb Z (hK _ _ (Qa (kp1 Z) ?_)))))))
  refine Qt (Ql Z ?_)
  first
   | exact (QpE (i := i) (by omega) hI.2).symm
   | exact (Qj1 (i := i) (by omega) (Qr2 h2 h3)).symm
end Go.Proofs
namespace Go.Proofs
open Go Go.Abs M3 M25
theorem QaR {l : List (Cu × Cu)} (hl : Sm l) {a b c : Int} {p q : List UInt8} (hp : p.length <= 1000000) (hq : q.length <= 1000000) : Ok Tryz.prog 84 [Zl l, .agg [.int .i64 a, .int .i64 b, .int .i64 c, .str p, .str q]] (.bool (QgV l a b c p q)) := by
 refine Ok.ofT Z4 Tryz.func84 QuW (Qvd Z) ?_
 show TW _ _ tf84.body _ _
 have hn := hl.1
 refine Qe fun K hK => Zy Z Z Z (Qb Z (hK _ _ (Qa (kp2 Z Z) ?_)))
 refine QF ?_ -- 0
 refine Qe fun K hK => Qb Z (hK _ _ (Qa (kp3 Z Z Z) ?_))
 refine QG ?_
 refine ZH (ι := Nat) (fun i => ⟨[(0, Zl l), (3, .ref 3 0 0), (5, .int .i64 i)], [(3, ⟨[[.int .i64 a, .int .i64 b, .int .i64 c, .str p, .str q]], 5, 59, true⟩)]⟩) (fun i => i <= l.length /\ (l.take i).any (fun s => Qgj s a b c p q) = false) (fun i => l.length - i) 0 ?_ ?_ ?_
 ·exact Q1 (l := [0, 3, 5]) (lH := [3]) (kp3 rfl rfl rfl) (Qi rfl Qp) rfl rfl rfl
 ·exact ⟨Qvp _, by simp⟩
 intro i hI
 try dsimp only
 refine QF ?_ -- 1
 refine Qe fun K hK => Qb Z (Qb Z (Q0 Z Z (Z8 Z Z (Qb Z ?_))))
 refine Qv (g := 10) Z (fun h1 => ?_) (fun h1 => ?_)
 ·try rw [h1]
  try simp only [qA] at h1
  refine Qf Z (Qb Z (Qf Z (QA (Z9 hl) Z Z (.inr Z) (Qh Z Z (hK _ _ (Qa (kp4 Z Z Z Z) ?_))))))
  refine Qx Z (fun h2 => ?_) (fun h2 => ?_)
  ·try rw [h2]
   try simp only [qA] at h2
   refine Qu (Qd (kp3 Z Z Z) ?_)
   refine QF ?_ -- 2
   refine QG (Qe fun K hK => Qb Z (Qb Z (QM Z Z Z (by omega) (Zk (by omega)) Z (QQ (ds0 := [0]) (cs := [_, _, _, _, _, _, _, _, _, _, _, _, _, _]) Z Z Z Z Z Z (QQ (ds0 := [0]) (cs := [_, _, _, _, _]) Z Z Z Z Z Z (Ze (ds0 := []) (Qc9 (hl.at (i := i) (by omega)).1.1 (hl.at (i := i) (by omega)).1.2 (hl.at (i := i) (by omega)).2.1 (hl.at (i := i) (by omega)).2.2 hp hq) Z Z (.inr Z) Z Z (hK _ _ (Qa (kp4 Z Z Z Z) ?_))))))))
   refine Qx Z (fun h3 => ?_) (fun h3 => ?_)
   ·try rw [h3]
    try simp only [qA] at h3
    refine Qe fun K hK => Qb Z (hK _ _ (Qa (kp1 Z) ?_))
    refine Qt (Qw (Qk (Q4 (Qw (Qk (Ql Z ?_))))))
    first
     | exact (QcP (i := i) (by omega) hI.2).symm
     | exact (QcQ h2).symm
     | exact (QcR h2 (i := i) (by omega) h3).symm
   ·try rw [h3]
    try simp only [qA] at h3
    refine Qu (Qj (Qd (kp3 Z Z Z) (QR fun K hK => Qb Z (Q9 Z Z (by first | exact Qs (by omega) (by omega) | rfl) (Qb Z (hK _ ?_))))))
    refine Qm (i + 1) ?_ ?_ ?_
    ·exact Q1 (l := [0, 3, 5]) (lH := [3]) (kp3 rfl rfl rfl) (Qi rfl Qp) rfl rfl rfl
    ·exact ⟨by omega, Qg5 (by omega) hI.2 h3⟩
    ·first | omega | (simp only; omega) | (dsimp only; omega)
  ·try rw [h2]
   try simp only [qA] at h2
   refine Zf (QK (Qz (QH (Qd (ZC) (Qe fun K hK => Qb Z (hK _ _ (Qa (kp1 Z) ?_)))))))
   refine Qt (Ql Z ?_)
   first
    | exact (QcP (i := i) (by omega) hI.2).symm
    | exact (QcQ h2).symm
    | exact (QcR h2 (i := i) (by omega) h3).symm
 ·try rw [h1]
  try simp only [qA] at h1
  refine Qq Z (Qq Z (Qh Z Z (hK _ _ (Qa (kp4 Z Z Z Z) ?_))))
  refine Zq Z (Zf (QK (Qz (QH (Qd (ZC) (Qe fun K hK => Qb Z (hK _ _ (Qa (kp1 Z) ?_))))))))
  refine Qt (Ql Z ?_)
  first
   | exact (QcP (i := i) (by omega) hI.2).symm
   | exact (QcQ h2).symm
   | exact (QcR h2 (i := i) (by omega) h3).symm
theorem YR {s : List (Cu × Cu) × List (Cu × Cu)} (h1s : Sm s.1) (h2s : Sm s.2) : Ok Tryz.prog 83 [QfU s] (.bool (Qdz s)) := by
 refine Ok.ofT Z4 Tryz.func83 QuV (Qvd Z) ?_
 show TW _ _ tf83.body _ _
 have hn := h1s.1
 refine Qe fun K hK => Zy Z Z Z (Qb Z (hK _ _ (Qa (kp1 Z) ?_)))
 refine QF ?_ -- 0
 refine Qe fun K hK => Qg Z Z (QC Z Z Z (QA (Z9 h1s) Z Z (.inr Z) (ZP Z (Qb Z ?_))))
 refine Qv (g := 8) Z (fun h1 => ?_) (fun h1 => ?_)
 ·try rw [h1]
  try simp only [qA] at h1
  refine Qq Z (Qq Z (Qq Z (Qq Z (Qh Z Z (hK _ _ (Qa (kp2 Z Z) ?_))))))
  refine Zn Z (Qe fun K hK => Qb Z (hK _ _ (Qa (kp1 Z) ?_)))
  refine Qt (Qk (Ql Z ?_))
  first
   | exact (Qej (i := i) h1 h2 (by omega) hI.2).symm
   | exact (QaE (i := i) (by omega) (.inl h4)).symm
   | exact (QaE (i := i) (by omega) (.inr h5)).symm
   | exact (Qbg (.inl h1)).symm
   | exact (Qbg (.inr h2)).symm
 ·try rw [h1]
  try simp only [qA] at h1
  refine Qf Z (Qg Z Z (Qf Z (QC Z Z Z (Qf Z (QA (Z9 h2s) Z Z (.inr Z) (Qf Z (ZP Z (Qh Z Z (hK _ _ (Qa (kp2 Z Z) ?_))))))))))
  refine Qx Z (fun h2 => ?_) (fun h2 => ?_)
  ·try rw [h2]
   try simp only [qA] at h2
   refine Qe fun K hK => Qb Z (hK _ _ (Qa (kp1 Z) ?_))
   refine Qt (Qk (Ql Z ?_))
   first
    | exact (Qej (i := i) h1 h2 (by omega) hI.2).symm
    | exact (QaE (i := i) (by omega) (.inl h4)).symm
    | exact (QaE (i := i) (by omega) (.inr h5)).symm
    | exact (Qbg (.inl h1)).symm
    | exact (Qbg (.inr h2)).symm
  ·try rw [h2]
   try simp only [qA] at h2
   refine Qu (Qd (kp1 Z) ?_)
   refine QF ?_ -- 1
   refine Qe fun K hK => Qb Z (hK _ _ (Qa (kp2 Z Z) ?_))
   refine QG ?_
   refine ZH (ι := Nat) (fun i => ⟨[(1, .ref 1 0 0), (3, .int .i64 i)], [(1, ⟨[[Zl s.1, Zl s.2]], 2, 66, true⟩)]⟩) (fun i => i <= s.1.length /\ (s.1.take i).all (fun x => Xy x.1 && Xy x.2) = true) (fun i => s.1.length - i) 0 ?_ ?_ ?_
   ·exact Q1 (l := [1, 3]) (lH := [1]) (kp2 rfl rfl) (Qi rfl Qp) rfl rfl rfl
   ·exact ⟨Qvp _, by simp⟩
   intro i hI
   try dsimp only
   refine QF ?_ -- 2
   refine Qe fun K hK => Qb Z (Qg Z Z (QC Z Z Z (Q0 Z Z (Z8 Z Z (hK _ _ (Qa (kp3 Z Z Z) ?_))))))
   refine Qx Z (fun h3 => ?_) (fun h3 => ?_)
   ·try rw [h3]
    try simp only [qA] at h3
    refine Qu (Qd (kp2 Z Z) ?_)
    refine QF ?_ -- 3
    refine QG (Qe fun K hK => Qg Z Z (QC Z Z Z (Qb Z (QM Z Z Z (by omega) (Zk (by omega)) Z (Zd Z Z (QB (cs := [_, _, _, _, _, _, _]) Z Z Z Z (QA (Qae) Z Z (.inr Z) (ZP Z (Qb Z ?_)))))))))
    refine Qv (g := 29) Z (fun h4 => ?_) (fun h4 => ?_)
    ·try rw [h4]
     try simp only [qA] at h4
     refine Qq Z (Qq Z (Qq Z (Qq Z (Qq Z (Qq Z (Qq Z (Qq Z (Qh Z Z (hK _ _ (Qa (kp3 Z Z Z) ?_))))))))))
     refine Zn Z (Qe fun K hK => Qb Z (hK _ _ (Qa (kp1 Z) ?_)))
     refine Qt (Qw (Qk (Q4 (Qw (Qk (Ql Z ?_))))))
     first
      | exact (Qej (i := i) h1 h2 (by omega) hI.2).symm
      | exact (QaE (i := i) (by omega) (.inl h4)).symm
      | exact (QaE (i := i) (by omega) (.inr h5)).symm
      | exact (Qbg (.inl h1)).symm
      | exact (Qbg (.inr h2)).symm
    ·try rw [h4]
     try simp only [qA] at h4
     refine Qf Z (Qg Z Z (Qf Z (QC Z Z Z (Qf Z (Qb Z (Qf Z (QM Z Z Z (by omega) (Zk (by omega)) Z (Qf Z (Zd Z Z (Qf Z (QB (cs := [_, _, _, _, _, _, _]) Z Z Z Z ?_)))))))))))
     refine Qf Z (QA (Qae) Z Z (.inr Z) (Qf Z (ZP Z (Qh Z Z (hK _ _ (Qa (kp3 Z Z Z) ?_))))))
     refine Qx Z (fun h5 => ?_) (fun h5 => ?_)
     ·try rw [h5]
      try simp only [qA] at h5
      refine Qe fun K hK => Qb Z (hK _ _ (Qa (kp1 Z) ?_))
      refine Qt (Qw (Qk (Q4 (Qw (Qk (Ql Z ?_))))))
      first
       | exact (Qej (i := i) h1 h2 (by omega) hI.2).symm
       | exact (QaE (i := i) (by omega) (.inl h4)).symm
       | exact (QaE (i := i) (by omega) (.inr h5)).symm
       | exact (Qbg (.inl h1)).symm
       | exact (Qbg (.inr h2)).symm
     ·try rw [h5]
      try simp only [qA] at h5
      refine Qu (Qj (Qd (kp2 Z Z) (QR fun K hK => Qb Z (Q9 Z Z (by first | exact Qs (by omega) (by omega) | rfl) (Qb Z (hK _ ?_))))))
      refine Qm (i + 1) ?_ ?_ ?_
      ·exact Q1 (l := [1, 3]) (lH := [1]) (kp2 rfl rfl) (Qi rfl Qp) rfl rfl rfl
      ·exact ⟨by omega, Zo (by omega) hI.2 (by rw [show Xy s.1[i].1 = true from h4, show Xy s.1[i].2 = true from h5]; rfl)⟩
      ·first | omega | (simp only; omega) | (dsimp only; omega)
   ·try rw [h3]
    try simp only [qA] at h3
    refine Zf (QK (Qz (QH (Qd (ZC) (Qe fun K hK => Qb Z (hK _ _ (Qa (kp1 Z) ?_)))))))
    refine Qt (Ql Z ?_)
    first
     | exact (Qej (i := i) h1 h2 (by omega) hI.2).symm
     | exact (QaE (i := i) (by omega) (.inl h4)).symm
     | exact (QaE (i := i) (by omega) (.inr h5)).symm
     | exact (Qbg (.inl h1)).symm
     | exact (Qbg (.inr h2)).symm
theorem QdT {s : List (Cu × Cu) × List (Cu × Cu)} (h1s : Sm s.1) (h2s : Sm s.2) {a b c : Int} {p q : List UInt8} (hp : p.length <= 1000000) (hq : q.length <= 1000000) : Ok Tryz.prog 57 [QfU s, .agg [.int .i64 a, .int .i64 b, .int .i64 c, .str p, .str q]] (.bool (Qgi s a b c p q)) := by
 refine Ok.ofT Z4 Tryz.func57 QuB (Qvd Z) ?_
 show TW _ _ tf57.body _ _
 refine Qe fun K hK => Zy Z Z Z (Zy Z Z Z (Qb Z (hK _ _ (Qa (kp2 Z Z) ?_))))
 refine QF ?_ -- 0
 refine Qe fun K hK => QB (cs := [_, _]) Z Z Z Z (QA (YR h1s h2s) Z Z (.inr Z) (ZP Z (Qb Z ?_)))
 refine Qv (g := 8) Z (fun h1 => ?_) (fun h1 => ?_)
 ·try rw [h1]
  try simp only [qB] at h1
  refine Qq Z (Qq Z (Qq Z (Qh Z Z (hK _ _ (Qa (kp3 Z Z Z) ?_)))))
  refine Zn Z (Qe fun K hK => Qb Z (hK _ _ (Qa (kp1 Z) ?_)))
  refine Qt (Qk (Ql Z ?_))
  (repeat clear hK K); simp_all [Qgi]
 ·try rw [h1]
  try simp only [qB] at h1
  refine Qf Z (QB (cs := [_, _, _, _, _]) Z Z Z Z (Qf Z (QA (Zi hp hq) Z Z (.inr Z) (Qf Z (ZP Z (Qh Z Z (hK _ _ (Qa (kp3 Z Z Z) ?_))))))))
  refine Qx Z (fun h2 => ?_) (fun h2 => ?_)
  ·try rw [h2]
   try simp only [qB] at h2
   refine Qe fun K hK => Qb Z (hK _ _ (Qa (kp1 Z) ?_))
   refine Qt (Qk (Ql Z ?_))
   (repeat clear hK K); simp_all [Qgi]
  ·try rw [h2]
   try simp only [qB] at h2
   refine Qu (Qd (kp2 Z Z) ?_)
   refine QF ?_ -- 1
   refine Qe fun K hK => Qg Z Z (QC Z Z Z (Qb2 Z Z (hK _ _ (Qa (kp3 Z Z Z) ?_))))
   refine Qx Z (fun h3 => ?_) (fun h3 => ?_)
   ·try rw [h3]
    try simp only [qB] at h3
    refine Qe fun K hK => Qg Z Z (QC Z Z Z (QB (cs := [_, _, _, _, _]) Z Z Z Z (QA (QaR h1s hp hq) Z Z (.inr Z) (Qb Z (hK _ _ (Qa (kp1 Z) ?_))))))
    refine Qt (Qk (Ql Z ?_))
    (repeat clear hK K); simp_all [Qgi]
   ·try rw [h3]
    try simp only [qB] at h3
    refine Qu (Qd (kp2 Z Z) (Qe fun K hK => Qg Z Z (QC Z Z Z (QB (cs := [_, _, _, _, _]) Z Z Z Z (QA (QaR h2s hp hq) Z Z (.inr Z) (Qb Z (hK _ _ (Qa (kp1 Z) ?_))))))))
    refine Qt (Ql Z ?_)
    (repeat clear hK K); simp_all [Qgi]
end Go.Proofs
namespace Go.Proofs
open Go Go.Abs M3 M25
theorem QaT {l : List Cu} {c : Cu} (hl : l.length <= 3000000) (hs : ∀ x ∈ l, Cu.sm x) (hc : Cu.sm c) : Ok Tryz.prog 140 [QhR l, .agg (dCu c)] (QhR (Qcu l c)) := by
 refine Ok.ofT Z4 Tryz.func140 QtI (Qvd Z) ?_
 show TW _ _ tf140.body _ _
 refine Qe fun K hK => Zy Z Z Z (Qb Z (hK _ _ (Qa (kp2 Z Z) ?_)))
 refine Qe fun K hK => Qb Z (hK _ _ (Qa (kp3 Z Z Z) ?_))
 refine QF ?_ -- 0
 refine QG ?_
 refine ZH (ι := Nat) (fun k => ⟨[(0, QhR l), (3, .ref 3 0 0), (5, .int .i64 k)], [(3, ⟨[dCu c], 7, 113, true⟩)]⟩) (fun k => k <= l.length /\ Qcu l c = l.take k ++ Qcu (l.drop k) c) (fun k => l.length - k) 0 ?_ ?_ ?_
 ·exact Q1 (l := [0, 3, 5]) (lH := [3]) (kp3 rfl rfl rfl) (Qi rfl Qp) rfl rfl rfl
 ·exact ⟨Qvp _, by simp⟩
 intro k hI
 try dsimp only
 refine QF ?_ -- 1
 refine Qe fun K hK => Qb Z (Qb Z (Q0 Z Z (Z8 Z Z (Qb Z ?_))))
 refine Qv (g := 10) Z (fun h1 => ?_) (fun h1 => ?_)
 ·try rw [h1]
  try simp only [qA] at h1
  refine Qf Z (Qb Z (Qf Z (Qb Z (Qf Z (QM Z Z Z (by omega) (Zk (by omega)) Z (Qf Z (QQ (ds0 := [2, 1, 0]) (cs := [_, _, _, _, _, _, _]) Z Z Z Z Z Z (Qf Z (QQ (ds0 := [2, 1, 0]) (cs := [_, _, _, _, _, _, _]) Z Z Z Z Z Z (Qf Z (Ze (ds0 := [1, 0]) (ZG (hs _ (Qvi (by omega))).1 (hs _ (Qvi (by omega))).2 hc.1 hc.2) Z Z (.inr Z) Z Z ?_)))))))))))
  refine Qf Z (Z8 Z Z (Qh Z Z (hK _ _ (Qa (kp4 Z Z Z Z) ?_))))
  refine Qx Z (fun h2 => ?_) (fun h2 => ?_)
  ·try rw [h2]
   try simp only [qA] at h2
   refine Qu (Qd (kp3 Z Z Z) (QG (QR fun K hK => Qb Z (Q9 Z Z (by first | exact Qs (by omega) (by omega) | rfl) (Qb Z (hK _ ?_))))))
   refine Qj ?_
   refine Qm (k + 1) ?_ ?_ ?_
   ·exact Q1 (l := [0, 3, 5]) (lH := [3]) (kp3 rfl rfl rfl) (Qi rfl Qp) rfl rfl rfl
   ·exact ⟨by omega, Qnx (by omega) h2 hI.2⟩
   ·first | omega | (simp only; omega) | (dsimp only; omega)
  ·try rw [h2]
   try simp only [qA] at h2
   refine Zf (QK (Qz (QH (Qd (kp3 Z Z Z) ?_))))
   refine QF ?_ -- 2
   refine Qe fun K hK => Qb Z (Qb Z (Q0 Z Z (Z8 Z Z (Qb Z ?_))))
   refine Qv (g := 25) Z (fun h3 => ?_) (fun h3 => ?_)
   ·try rw [h3]
    try simp only [qA] at h3
    refine Qf Z (Qb Z (Qf Z (Qb Z (Qf Z (QM Z Z Z (by omega) (Zk (by omega)) Z (Qf Z (QQ (ds0 := [2, 1, 0]) (cs := [_, _, _, _, _, _, _]) Z Z Z Z Z Z (Qf Z (QQ (ds0 := [2, 1, 0]) (cs := [_, _, _, _, _, _, _]) Z Z Z Z Z Z (Qf Z (Ze (ds0 := [1, 0]) (ZG (hs _ (Qvi (by omega))).1 (hs _ (Qvi (by omega))).2 hc.1 hc.2) Z Z (.inr Z) Z Z ?_)))))))))))
    refine Qf Z (YI Z Z (Qh Z Z (hK _ _ (Qa (kp4 Z Z Z Z) ?_))))
    refine Qx Z (fun h4 => ?_) (fun h4 => ?_)
    ·try rw [h4]
     try simp only [qA] at h4
     refine Qe fun K hK => Qb Z (Qb Z (hK _ _ (Qa (kp1 Z) ?_)))
     refine Qt (Qk (Z7 Z ?_))
     rw [Qnw (k := k) (by omega) (by assumption) hI.2]; rfl
    ·try rw [h4]
     try simp only [qA] at h4
     refine Qu (Qd (kp3 Z Z Z) (Qe fun K hK => Qb Z (Qb Z (QhF Z Z Z Z (by omega) (by omega) (by simp; omega) QjF Z (QjV (ds0 := [5, 1, 0]) Z Z (fun _ h => ⟨Qpm, h⟩) Z (.inl Z) (by simp) (by simp; omega) (by simp; omega) Z Z (QQ (ds0 := [6, 5, 1, 0]) (cs := [_, _, _, _, _, _, _]) Z Z Z Z Z Z (QP Z Z (QeA (ds0 := [1, 0]) Z Z (by simp [D.ids, D.sid]) ⟨_, rfl, rfl, rfl, rfl, rfl⟩ Z Z (by simp) Z Z (by simp; omega) (by simp; omega) Z Z (Qb Z (Qb Z ?_))))))))))
     refine QhF Z Z Z Z (by omega) (by simp; omega) (by simp) QjF Z (QeA (ds0 := [0]) Z Z (by simp [D.ids, D.sid]) ⟨rfl, Qpm, rfl⟩ Z Z (by simp) Z Z (by simp; omega) (by simp; omega) Z Z (Qb Z (hK _ _ (Qa (kp1 Z) ?_))))
     refine Qt (Z7 Z ?_)
     rw [Qlo (k := k) (by first | exact .inl (by omega) | exact .inr ⟨by omega, by assumption, by assumption⟩) hI.2]; simp [XB, D.fz, D.fzS, Qdn, lk, D.can, D.canS, QhR, D.sid, (show ∀ a b : Nat, a + 1 + b = a + (b + 1) from fun a b => by omega), Qvt (show (l.map dCu).length <= l.length by simp)] <;> rfl
   ·try rw [h3]
    try simp only [qA] at h3
    exact absurd h1 h3
 ·try rw [h1]
  try simp only [qA] at h1
  refine Qq Z (Qq Z (Qq Z (Qq Z (Qq Z (Qq Z (Qq Z (Qh Z Z (hK _ _ (Qa (kp4 Z Z Z Z) ?_)))))))))
  refine Zq Z (Zf (QK (Qz (QH (Qd (kp3 Z Z Z) ?_)))))
  refine QF ?_ -- 2
  refine Qe fun K hK => Qb Z (Qb Z (Q0 Z Z (Z8 Z Z (Qb Z ?_))))
  refine Qv (g := 25) Z (fun h5 => ?_) (fun h5 => ?_)
  ·try rw [h5]
   try simp only [qA] at h5
   exact absurd h5 h1
  ·try rw [h5]
   try simp only [qA] at h5
   refine Qq Z (Qq Z (Qq Z (Qq Z (Qq Z (Qq Z (Qq Z (Qh Z Z (hK _ _ (Qa (kp4 Z Z Z Z) ?_)))))))))
   refine Zq Z (Qu (Qd (kp3 Z Z Z) (Qe fun K hK => Qb Z (Qb Z (QhF Z Z Z Z (by omega) (by omega) (by simp; omega) QjF Z (QjV (ds0 := [5, 1, 0]) Z Z (fun _ h => ⟨Qpm, h⟩) Z (.inl Z) (by simp) (by simp; omega) (by simp; omega) Z Z (QQ (ds0 := [6, 5, 1, 0]) (cs := [_, _, _, _, _, _, _]) Z Z Z Z Z Z (QP Z Z (QeA (ds0 := [1, 0]) Z Z (by simp [D.ids, D.sid]) ⟨_, rfl, rfl, rfl, rfl, rfl⟩ Z Z (by simp) Z Z (by simp; omega) (by simp; omega) Z Z (Qb Z ?_))))))))))
   refine Qb Z (QhF Z Z Z Z (by omega) (by simp; omega) (by simp) QjF Z (QeA (ds0 := [0]) Z Z (by simp [D.ids, D.sid]) ⟨rfl, Qpm, rfl⟩ Z Z (by simp) Z Z (by simp; omega) (by simp; omega) Z Z (Qb Z (hK _ _ (Qa (kp1 Z) ?_)))))
   refine Qt (Z7 Z ?_)
   rw [Qlo (k := k) (by first | exact .inl (by omega) | exact .inr ⟨by omega, by assumption, by assumption⟩) hI.2]; simp [XB, D.fz, D.fzS, Qdn, lk, D.can, D.canS, QhR, D.sid, (show ∀ a b : Nat, a + 1 + b = a + (b + 1) from fun a b => by omega), Qvt (show (l.map dCu).length <= l.length by simp)] <;> rfl
theorem Qay {l : List (Cu × Cu)} (hl : Sm l) : Ok Tryz.prog 126 [Zl l] (QhR (Xb l)) := by
 refine Ok.ofT Z4 Tryz.func126 Qtw (Qvd Z) ?_
 show TW _ _ tf126.body _ _
 have hn := hl.1
 refine Qe fun K hK => Qb Z (hK _ _ (Qa (kp1 Z) ?_))
 refine Qe fun K hK => QA (Xj) Z Z (.inl Z) (QA (Xt) Z Z (.inl Z) (QP Z Z (Qb Z (hK _ _ (Qa (kp2 Z Z) ?_)))))
 refine QF ?_ -- 0
 refine Qe fun K hK => Qb Z (hK _ _ (Qa (kp3 Z Z Z) ?_))
 refine QG ?_
 refine ZH (ι := Nat) (fun i => ⟨[(0, Zl l), (3, QhR (Xb (l.take i))), (4, .int .i64 i)], []⟩) (fun i => i <= l.length) (fun i => l.length - i) 0 ?_ ?_ ?_
 ·exact le_trans (Qcn 7 _ (by decide)) (Q1 (l := [0, 3, 4]) (lH := []) (kp3 rfl rfl rfl) Qp rfl rfl rfl)
 ·exact Qvp _
 intro i hI
 try dsimp only
 refine QF ?_ -- 1
 refine Qe fun K hK => Qb Z (Qb Z (Q0 Z Z (Z8 Z Z (hK _ _ (Qa (kp4 Z Z Z Z) ?_)))))
 refine Qx Z (fun h1 => ?_) (fun h1 => ?_)
 ·try rw [h1]
  try simp only [qA] at h1
  refine Qu (Qd (kp3 Z Z Z) ?_)
  refine QF ?_ -- 2
  refine QG (QR fun K hK => Qb Z (Qb Z (Qb Z (QM Z Z Z (by omega) (Zk (by omega)) Z (Zd Z Z (QQ (ds0 := [7, 1, 0]) (cs := [_, _, _, _, _, _, _]) Z Z Z Z Z Z (Ze (ds0 := [1, 0]) (QaT (Qvw (Qfn hl i).1 (by omega)) (Qfn hl i).2 (hl.2 _ (Qvi (by omega))).1) Z Z (.inl Z) Z Z (Qb Z (Qb Z (QM Z Z Z (by omega) (Zk (by omega)) Z ?_))))))))))
  refine Zd Z Z (QQ (ds0 := [1, 0]) (cs := [_, _, _, _, _, _, _]) Z Z Z Z Z Z (Ze (ds0 := [0]) (QaT (Qvw (Qfp _ _) (by have := (Qfn hl i).1; omega)) (Qic (Qfn hl i).2 (hl.2 _ (Qvi (by omega))).1) (hl.2 _ (Qvi (by omega))).2) Z Z (.inl Z) Z Z (Qb Z (hK _ ?_))))
  refine Qj (Qd (kp3 Z Z Z) (QR fun K hK => Qb Z (Q9 Z Z (by first | exact Qs (by omega) (by omega) | rfl) (Qb Z (hK _ ?_)))))
  refine Qm (i + 1) ?_ ?_ ?_
  ·exact Q1 (l := [0, 3, 4]) (lH := []) (kp3 rfl rfl rfl) Qp (by rw [QoV (by omega)]; rfl) rfl rfl
  ·omega
  ·first | omega | (simp only; omega) | (dsimp only; omega)
 ·try rw [h1]
  try simp only [qA] at h1
  refine Zf (QK (Qz (QH (Qd (kp1 Z) (Qe fun K hK => Qb Z (Qb Z (hK _ _ (Qa (kp1 Z) ?_))))))))
  refine Qt (Z7 Z ?_)
  rw [Qvt (show l.length <= i by omega)]; rfl
end Go.Proofs
namespace Go.Proofs
open Go Go.Abs M3 M25
theorem Qaz {l : List (Cu × Cu)} {x y : Cu} (hn : l.length <= 3000000) (hl : ∀ s ∈ l, Cu.sm s.1 /\ Cu.sm s.2) (hx : Cu.sm x) (hy : Cu.sm y) : OkH Tryz.prog 128 [.osl 500000 l.length, .agg (dCu x), .agg (dCu y)] [(500000, ⟨l.map Qfd, 14, 116, true⟩)] (.osl 500000 (Qct l x y).length) [(500000, ⟨(Qct l x y).map Qfd, 14, 116, true⟩)] := by
 refine OkH.mv Z4 Tryz.func128 Qty (Qvd Z) Z ?_
 show TW _ _ tf128.body _ _
 refine Qe fun K hK => Zy Z Z Z (Zy Z Z Z (Qb Z (hK _ _ (Qa (kp3 Z Z Z) ?_))))
 refine QF ?_ -- 0
 refine Qe fun K hK => Qb Z (Q0 Z Z (Qdm Z Z (by first | exact Qs (by omega) (by omega) | rfl) (Qb Z (hK _ _ (Qa (kp4 Z Z Z Z) ?_)))))
 refine Qe fun K hK => Qb Z (QeV Z Z (Qb Z ?_))
 refine Qv (g := 13) Z (fun h1 => ?_) (fun h1 => ?_)
 ·try rw [h1]
  try simp only [qA] at h1
  refine Qf Z (Qb Z (Qf Z (Qb Z (Qf Z (QdI (ds0 := [5, 4, 2, 1, 0]) Z Z Z (by simp) (by omega) (by omega) Z Z Z (Qf Z (Qg Z Z (Qf Z (QQ (ds0 := [2, 1, 0]) (cs := [_, _, _, _, _, _, _]) Z (Yu Z (Zz (by omega) (by omega))) Z Z Z Z (Qf Z (QQ (ds0 := [2, 1, 0]) (cs := [_, _, _, _, _, _, _]) Z Z Z Z Z Z ?_)))))))))))
  refine Qf Z (Ze (ds0 := [1, 0]) (ZG (hl _ (Qvi (by omega))).2.1 (hl _ (Qvi (by omega))).2.2 hx.1 hx.2) Z Z (.inr Z) Z Z (Qf Z (YI Z Z (Qh Z Z (hK _ _ (Qa (kp5 Z Z Z Z Z) ?_))))))
  refine Qx Z (fun h2 => ?_) (fun h2 => ?_)
  ·try rw [h2]
   try simp only [qA] at h2
   refine Qe fun K hK => Qb Z (Qb Z (QB (cs := [_, _, _, _, _, _, _]) Z Z Z Z (Qby Z Z Z (by simp) (by omega) (by omega) Z (Qg Z Z (Q5 Z Z (Zz (by omega) (by omega)) Z Z Z Z Z (hK _ _ (Qa (kp1 Z) ?_)))))))
   refine Qe fun K hK => Qb Z (Qb Z (hK _ _ (Qa (kp1 Z) ?_)))
   refine Qt (Qk ?_)
   refine QaF Z ?_ (QkD ?_)
   ·rw [Qjm (i := ((l.length : Int) - 1).toNat) (by omega) h2]; simp [Qod, D.fz, D.fzS, Qg1, D.can, D.canS]
   ·rw [Qjm (i := ((l.length : Int) - 1).toNat) (by omega) h2]; simp [lk, List.map_set, Qfd, dCu, setRow, D.sid]
  ·try rw [h2]
   try simp only [qA] at h2
   refine Qu (Qd (kp3 Z Z Z) (Qe fun K hK => Qb Z (QB (cs := [_, _, _, _, _, _, _]) Z Z Z Z (QB (cs := [_, _, _, _, _, _, _]) Z Z Z Z (Q2 Z Z (QP Z Z (QaN Z Z (fun _ h => Qah Z Z Z h) Z (by simp) Z Z Z (by simp; omega) (by simp; omega) (Qb Z (hK _ _ (Qa (kp1 Z) ?_))))))))))
   refine Qt ?_
   refine QaF Z ?_ (QkD ?_)
   ·rw [Qeh (.inr ⟨((l.length : Int) - 1).toNat, by omega, h2⟩)]; simp [Qod, D.fz, D.fzS, Qg1, D.can, D.canS]
   ·rw [Qeh (.inr ⟨((l.length : Int) - 1).toNat, by omega, h2⟩)]; simp [lk, Qfd, dCu, D.sid]
 ·try rw [h1]
  try simp only [qA] at h1
  refine Qq Z (Qq Z (Qq Z (Qq Z (Qq Z (Qq Z (Qq Z (Qq Z (Qh Z Z (hK _ _ (Qa (kp5 Z Z Z Z Z) ?_))))))))))
  refine Zq Z (Qu (Qd (kp3 Z Z Z) (Qe fun K hK => Qb Z (QB (cs := [_, _, _, _, _, _, _]) Z Z Z Z (QB (cs := [_, _, _, _, _, _, _]) Z Z Z Z (Q2 Z Z (QP Z Z (QaN Z Z (fun _ h => Qah Z Z Z h) Z (by simp) Z Z Z (by simp; omega) (by simp; omega) (Qb Z (hK _ _ (Qa (kp1 Z) ?_)))))))))))
  refine Qt ?_
  have h0 : l = [] := List.eq_nil_of_length_eq_zero (by omega)
  refine QaF Z ?_ (QkD ?_)
  ·rw [Qeh (.inl h0)]; simp [Qod, D.fz, D.fzS, Qg1, D.can, D.canS]
  ·rw [Qeh (.inl h0)]; simp [lk, Qfd, dCu, D.sid]
end Go.Proofs
namespace Go.Proofs
open Go Go.Abs M3 M25
theorem Qdu {l : List (Cu × Cu)} (hl : Sm l) : Ok Tryz.prog 125 [Zl l] (.tup [Zl (Qko l), .bool (l.all Qdk)]) := by
  refine Ok.ofT Z4 Tryz.func125 Qtv (Qvd Z) ?_
  show TW _ _ tf125.body _ _
  have hn := hl.1
  have hc1 := Qcr l
  refine Qe fun K hK => Qb Z (Qb Z (hK _ _ (Qa (kp1 Z) ?_)))
  refine QF ?_ -- 0
  refine Qe fun K hK => Qb Z (hK _ _ (Qa (kp2 Z Z) ?_))
  refine QG ?_
  refine ZH (ι := Nat) (fun i => ⟨[(0, Zl l), (4, .int .i64 i)], []⟩) (fun i => i <= l.length /\ (l.take i).all Qdk = true) (fun i => l.length - i) 0 ?_ ?_ ?_
  · exact Q7 (kp2 rfl rfl)
  · exact ⟨Qvp _, by simp⟩
  intro i hI
  try dsimp only
  refine QF ?_ -- 1
  refine Qe fun K hK => Qb Z (Qb Z (Q0 Z Z (Z8 Z Z (hK _ _ (Qa (kp3 Z Z Z) ?_)))))
  refine Qx Z (fun h1 => ?_) (fun h1 => ?_)
  · try rw [h1]
    try simp only [qA] at h1
    refine Qu (Qd (kp2 Z Z) ?_)
    refine QF ?_ -- 2
    refine QG (Qe fun K hK => Qb Z (Qb Z (QM Z Z Z (by omega) (Zk (by omega)) Z (QB (cs := [_, _, _, _, _, _, _, _, _, _, _, _, _, _]) Z Z Z Z (QA (YP (hl.at (i := i) (by omega)).1.1 (hl.at (i := i) (by omega)).1.2 (hl.at (i := i) (by omega)).2.1 (hl.at (i := i) (by omega)).2.2) Z Z (.inr Z) (ZP Z (hK _ _ (Qa (kp3 Z Z Z) ?_))))))))
    refine Qx Z (fun h2 => ?_) (fun h2 => ?_)
    · try rw [h2]
      try simp only [qA] at h2
      refine Qe fun K hK => Qb Z (Qb Z (hK _ _ (Qa (kp2 Z Z) ?_)))
      refine Qt (Qw (Qk (Q4 (Qw (Qk ?_)))))
      first
        | exact ZU rfl rfl ⟨by rw [Qko, if_neg (by rw [Yt (i := i) (by omega) (by assumption)]; simp)]; rfl, by rw [Yt (i := i) (by omega) (by assumption)]; rfl⟩
        | (have ha : l.all Qdk = true := Xs (by omega) hI.2
           exact ZU rfl rfl ⟨by rw [Qko, if_pos ha, hI2.done (by omega)]; simp [XB, D.fz, D.fzS, Qdn, lk, D.can, D.canS, Zl], by rw [ha]; rfl⟩)
    · try rw [h2]
      try simp only [qA] at h2
      refine Qu (Qj (Qd (kp2 Z Z) (QR fun K hK => Qb Z (Q9 Z Z (by first | exact Qs (by omega) (by omega) | rfl) (Qb Z (hK _ ?_))))))
      refine Qm (i + 1) ?_ ?_ ?_
      · exact Q7 (kp2 rfl rfl)
      · exact ⟨by omega, Zo (by omega) hI.2 (by assumption)⟩
      · first | omega | (simp only; omega) | (dsimp only; omega)
  · try rw [h1]
    try simp only [qA] at h1
    refine Zf (QK (Qz (QH (Qd (kp1 Z) (Qe fun K hK => Qb Z (hK _ _ (Qa (kp2 Z Z) ?_)))))))
    refine Qe fun K hK => Qb Z (QA (Qay hl) Z Z (.inl Z) (Qb Z (hK _ _ (Qa (kp3 Z Z Z) ?_))))
    refine QF ?_ -- 3
    refine Qe fun K hK => Qb Z (hK _ _ (Qa (kp4 Z Z Z Z) ?_))
    refine QG ?_
    refine ZH (ι := Nat × List (Cu × Cu)) (fun ⟨i, out⟩ => ⟨[(0, Zl l), (5, .osl 5 out.length), (6, QhR (Xb l)), (7, .int .i64 i)], [(5, ⟨out.map Qfd, 14, 116, true⟩)]⟩) (fun ⟨i, out⟩ => i <= (Xb l).length /\ FillI (mIn l) (Xb l) i out) (fun ⟨i, out⟩ => (Xb l).length - i) (0, []) ?_ ?_ ?_
    · exact le_trans (Y0 5 5 14 116 rfl rfl) (Q1 (l := [0, 5, 6, 7]) (lH := [5]) (kp4 rfl rfl rfl rfl) (Qi rfl Qp) rfl rfl rfl)
    · exact ⟨Qvp _, FillI.zero⟩
    intro ⟨i, out⟩ hI
    obtain ⟨hI1, hI2⟩ := hI
    have hI3 := hI2.1
    try dsimp only
    refine QF ?_ -- 4
    refine Qe fun K hK => Qb Z (Q9 Z Z (by first | exact Qs (by omega) (by omega) | rfl) (Qb Z (Q0 Z Z (Z8 Z Z (hK _ _ (Qa (kp5 Z Z Z Z Z) ?_))))))
    refine Qx Z (fun h3 => ?_) (fun h3 => ?_)
    · try rw [h3]
      try simp only [qA] at h3
      refine Qu (Qd (kp4 Z Z Z Z) ?_)
      refine QF ?_ -- 5
      refine QG (Qe fun K hK => Qb Z (Qb Z (Qb Z (QM Z Z Z (by omega) (Zk (by omega)) Z (QQ (ds0 := [0]) (cs := [_, _, _, _, _, _, _]) Z Z Z Z Z Z (Qb Z (Qb Z (Q9 Z Z (by first | exact Qs (by omega) (by omega) | rfl) (QM Z Z Z (by omega) (Qlb (by omega)) Z (QQ (ds0 := [0]) (cs := [_, _, _, _, _, _, _]) Z Z Z Z Z Z ?_))))))))))
      refine Ze (ds0 := []) (Qbn hl (YM hl _ (Qvi (by omega))) (YM hl _ (Qvi (by omega)))) Z Z (.inr Z) Z Z (hK _ _ (Qa (kp5 Z Z Z Z Z) ?_))
      refine Qx Z (fun h4 => ?_) (fun h4 => ?_)
      · try rw [h4]
        try simp only [qA] at h4
        refine QR fun K hK => Qb rfl (Qb rfl (Qb rfl (QM rfl rfl rfl (by omega) (Zk (by omega)) rfl (QQ (ds0 := [1, 0]) (cs := [_, _, _, _, _, _, _]) rfl rfl rfl rfl rfl rfl (Qb rfl (Qb rfl (Q9 rfl rfl (by first | exact Qs (by omega) (by omega) | rfl) (QM rfl rfl rfl (by omega) (Qlb (by omega)) rfl (QQ (ds0 := [1, 0]) (cs := [_, _, _, _, _, _, _]) rfl rfl rfl rfl rfl rfl (QkO (ds0 := [0]) (QpI (k := 5) rfl rfl rfl (by decide) rfl (by decide) (by simp [D.ids, D.sid, dCu]) ⟨.osl 5 out.length, by simp, by simp [D.ids, D.sid]⟩ rfl rfl (Qaz (by omega) hI2.2.1 (YM hl _ (Qvi (by omega))) (YM hl _ (Qvi (by omega))))) (fun _ h => by cases h) rfl rfl ?_))))))))))
        refine Qb Z (hK _ ?_)
        refine Qj (Qd (kp4 Z Z Z Z) (QR fun K hK => Qb Z (Q9 Z Z (by first | exact Qs (by omega) (by omega) | rfl) (Qb Z (hK _ ?_)))))
        refine Qm (i + 1, Qct out (Xb l)[i] (Xb l)[i + 1]) ?_ ?_ ?_
        · exact le_trans (Qnq (l := [0, 6, 7]) (t := 50) (u := 5) 5 (kp3 rfl rfl rfl) rfl rfl rfl rfl) (Q1 (l := [0, 5, 6, 7]) (lH := [5]) (kp4 rfl rfl rfl rfl) (Qi rfl Qp) rfl rfl rfl)
        · exact ⟨by omega, hI2.take (YM hl) (by omega) (by assumption)⟩
        · show (Xb l).length - (i + 1) < (Xb l).length - i; omega
      · try rw [h4]
        try simp only [qA] at h4
        refine Qu (Qj (Qd (kp4 Z Z Z Z) (QR fun K hK => Qb Z (Q9 Z Z (by first | exact Qs (by omega) (by omega) | rfl) (Qb Z (hK _ ?_))))))
        refine Qm (i + 1, out) ?_ ?_ ?_
        · exact Q1 (l := [0, 5, 6, 7]) (lH := [5]) (kp4 rfl rfl rfl rfl) (Qi rfl Qp) rfl rfl rfl
        · exact ⟨by omega, hI2.skip (by omega) (by assumption)⟩
        · show (Xb l).length - (i + 1) < (Xb l).length - i; omega
    · try rw [h3]
      try simp only [qA] at h3
      refine Zf (QK (Qz (QH (Qd (kp1 Z) (Qe fun K hK => Qb Z (Qb Z (Qb Z (hK _ _ (Qa (kp2 Z Z) ?_)))))))))
      refine Qt ?_
      first
        | exact ZU rfl rfl ⟨by rw [Qko, if_neg (by rw [Yt (i := i) (by omega) (by assumption)]; simp)]; rfl, by rw [Yt (i := i) (by omega) (by assumption)]; rfl⟩
        | (have ha : l.all Qdk = true := Xs (by omega) hI.2
           exact ZU rfl rfl ⟨by rw [Qko, if_pos ha, hI2.done (by omega)]; simp [XB, D.fz, D.fzS, Qdn, lk, D.can, D.canS, Zl], by rw [ha]; rfl⟩)
end Go.Proofs
namespace Go.Proofs
open Go Go.Abs M3 M25
theorem Qbm {a b : List (Cu × Cu)} (ha : Sm a) (hb : Sm b) (hab : a.length + b.length <= 1000000) : Ok Tryz.prog 110 [Zl a, Zl b] (Zl (QpU a b)) := by
 refine Ok.ofT Z4 Tryz.func110 Qti (Qvd Z) ?_
 show TW _ _ tf110.body _ _
 refine Qe fun K hK => Qb Z (hK _ _ (Qa (kp2 Z Z) ?_))
 refine QF ?_ -- 0
 refine Qe fun K hK => Qb Z (QA (Z9 ha) Z Z (.inr Z) (ZP Z (Qb Z ?_)))
 refine Qv (g := 10) Z (fun h1 => ?_) (fun h1 => ?_)
 ·try rw [h1]
  try simp only [qB] at h1
  refine Qq Z (Qq Z (Qq Z (Qh Z Z (hK _ _ (Qa (kp3 Z Z Z) ?_)))))
  refine Zn Z (Qe fun K hK => Qb Z (hK _ _ (Qa (kp1 Z) ?_)))
  refine Qt (Qk (Z7 Z ?_))
  rw [QpU, if_neg (by simp [h1])]; rfl
 ·try rw [h1]
  try simp only [qB] at h1
  refine Qf Z (Qb Z (Qf Z (QA (Z9 hb) Z Z (.inr Z) (Qf Z (ZP Z (Qh Z Z (hK _ _ (Qa (kp3 Z Z Z) ?_))))))))
  refine Qx Z (fun h2 => ?_) (fun h2 => ?_)
  ·try rw [h2]
   try simp only [qB] at h2
   refine Qe fun K hK => Qb Z (hK _ _ (Qa (kp1 Z) ?_))
   refine Qt (Qk (Z7 Z ?_))
   rw [QpU, if_neg (by simp [h1, h2])]; rfl
  ·try rw [h2]
   try simp only [qB] at h2
   refine Qu (Qd (kp2 Z Z) (Qe fun K hK => Qb Z (QpB Z Z (fun _ h => Qp5 QpZ h) Z (.inl Z) (by simp) (by simp; omega) (by simp; omega) (Qb Z (QaN Z Z (fun _ h => Qp5 QpZ h) Z (by simp) Z Z Z (by simp; omega) (by simp; omega) ?_)))))
   apply Qqh [17] (by simp)
   ·simp [St.freezeL, St.freeze, rem, D.fz, D.fzS, Box.fz, lk, D.scrub]; exact ⟨rfl, rfl⟩
   ·exact Qdu (ha.app hb hab)
   ·rfl
   ·simp [XB, D.fz, D.fzS, Qdn, D.can, D.canS, Zl]
   ·exact .inl rfl
   refine Qb Z (Q6 Z Z (Q6 Z Z (Qb Z (Qb Z (hK _ _ (Qa (kp1 Z) ?_))))))
   refine Qe fun K hK => Qb Z (Qb Z (hK _ _ (Qa (kp1 Z) ?_)))
   refine Qt (Z7 Z ?_)
   rw [QpU, if_pos ⟨h1, h2⟩]; rfl
theorem QaS {a : List (Cu × Cu)} (ha : Sm a) : Ok Tryz.prog 111 [Zl a] (Zl (Qkp a)) := by
 refine Ok.ofT Z4 Tryz.func111 Qtj (Qvd Z) ?_
 show TW _ _ tf111.body _ _
 have hn := ha.1
 have hc1 := Qcr a
 refine Qe fun K hK => Qb Z (hK _ _ (Qa (kp1 Z) ?_))
 refine QF ?_ -- 0
 refine Qe fun K hK => Qb Z (QA (Z9 ha) Z Z (.inr Z) (ZP Z (hK _ _ (Qa (kp2 Z Z) ?_))))
 refine Qx Z (fun h1 => ?_) (fun h1 => ?_)
 ·try rw [h1]
  try simp only [qA] at h1
  refine Qe fun K hK => Qb Z (hK _ _ (Qa (kp1 Z) ?_))
  refine Qt (Qk (Z7 Z ?_))
  rw [Qkp, if_neg (by simp [h1])]; rfl
 ·try rw [h1]
  try simp only [qA] at h1
  refine Qu (Qd (kp1 Z) (Qe fun K hK => Qb Z (hK _ _ (Qa (kp2 Z Z) ?_))))
  refine Qe fun K hK => Qb Z (QA (Qay ha) Z Z (.inl Z) (Qb Z (hK _ _ (Qa (kp3 Z Z Z) ?_))))
  refine QF ?_ -- 1
  refine Qe fun K hK => Qb Z (hK _ _ (Qa (kp4 Z Z Z Z) ?_))
  refine QG ?_
  refine ZH (ι := Nat × List (Cu × Cu)) (fun ⟨i, out⟩ => ⟨[(0, Zl a), (3, .osl 3 out.length), (4, QhR (Xb a)), (5, .int .i64 i)], [(3, ⟨out.map Qfd, 14, 116, true⟩)]⟩) (fun ⟨i, out⟩ => i <= (Xb a).length /\ FillI (fun x y => !mIn a x y) (Xb a) i out) (fun ⟨i, out⟩ => (Xb a).length - i) (0, []) ?_ ?_ ?_
  ·exact le_trans (Y0 3 3 14 116 rfl rfl) (Q1 (l := [0, 3, 4, 5]) (lH := [3]) (kp4 rfl rfl rfl rfl) (Qi rfl Qp) rfl rfl rfl)
  ·exact ⟨Qvp _, FillI.zero⟩
  intro ⟨i, out⟩ hI
  obtain ⟨hI1, hI2⟩ := hI
  have hI3 := hI2.1
  try dsimp only
  refine QF ?_ -- 2
  refine Qe fun K hK => Qb Z (Q9 Z Z (by first | exact Qs (by omega) (by omega) | rfl) (Qb Z (Q0 Z Z (Z8 Z Z (hK _ _ (Qa (kp5 Z Z Z Z Z) ?_))))))
  refine Qx Z (fun h2 => ?_) (fun h2 => ?_)
  ·try rw [h2]
   try simp only [qA] at h2
   refine Qu (Qd (kp4 Z Z Z Z) ?_)
   refine QF ?_ -- 3
   refine QG (Qe fun K hK => Qb Z (Qb Z (Qb Z (QM Z Z Z (by omega) (Zk (by omega)) Z (QQ (ds0 := [1, 0]) (cs := [_, _, _, _, _, _, _]) Z Z Z Z Z Z (Qb Z (Qb Z (Q9 Z Z (by first | exact Qs (by omega) (by omega) | rfl) (QM Z Z Z (by omega) (Qlb (by omega)) Z (QQ (ds0 := [1, 0]) (cs := [_, _, _, _, _, _, _]) Z Z Z Z Z Z ?_))))))))))
   refine Ze (ds0 := [0]) (Qbn ha (YM ha _ (Qvi (by omega))) (YM ha _ (Qvi (by omega)))) Z Z (.inr Z) Z Z (ZP Z (hK _ _ (Qa (kp5 Z Z Z Z Z) ?_)))
   refine Qx Z (fun h3 => ?_) (fun h3 => ?_)
   ·try rw [h3]
    try simp only [qA] at h3
    refine QR fun K hK => Qb rfl (Qb rfl (Qb rfl (QM rfl rfl rfl (by omega) (Zk (by omega)) rfl (QQ (ds0 := [1, 0]) (cs := [_, _, _, _, _, _, _]) rfl rfl rfl rfl rfl rfl (Qb rfl (Qb rfl (Q9 rfl rfl (by first | exact Qs (by omega) (by omega) | rfl) (QM rfl rfl rfl (by omega) (Qlb (by omega)) rfl (QQ (ds0 := [1, 0]) (cs := [_, _, _, _, _, _, _]) rfl rfl rfl rfl rfl rfl (QkO (ds0 := [0]) (QpI (k := 3) rfl rfl rfl (by decide) rfl (by decide) (by simp [D.ids, D.sid, dCu]) ⟨.osl 3 out.length, by simp, by simp [D.ids, D.sid]⟩ rfl rfl (Qaz (by omega) hI2.2.1 (YM ha _ (Qvi (by omega))) (YM ha _ (Qvi (by omega))))) (fun _ h => by cases h) rfl rfl ?_))))))))))
    refine Qb Z (hK _ ?_)
    refine Qj (Qd (kp4 Z Z Z Z) (QR fun K hK => Qb Z (Q9 Z Z (by first | exact Qs (by omega) (by omega) | rfl) (Qb Z (hK _ ?_)))))
    refine Qm (i + 1, Qct out (Xb a)[i] (Xb a)[i + 1]) ?_ ?_ ?_
    ·exact le_trans (Qnq (l := [0, 4, 5]) (t := 40) (u := 3) 3 (kp3 rfl rfl rfl) rfl rfl rfl rfl) (Q1 (l := [0, 3, 4, 5]) (lH := [3]) (kp4 rfl rfl rfl rfl) (Qi rfl Qp) rfl rfl rfl)
    ·exact ⟨by omega, hI2.take (YM ha) (by omega) (by simp; assumption)⟩
    ·show (Xb a).length - (i + 1) < (Xb a).length - i; omega
   ·try rw [h3]
    try simp only [qA] at h3
    refine Qu (Qj (Qd (kp4 Z Z Z Z) (QR fun K hK => Qb Z (Q9 Z Z (by first | exact Qs (by omega) (by omega) | rfl) (Qb Z (hK _ ?_))))))
    refine Qm (i + 1, out) ?_ ?_ ?_
    ·exact Q1 (l := [0, 3, 4, 5]) (lH := [3]) (kp4 rfl rfl rfl rfl) (Qi rfl Qp) rfl rfl rfl
    ·exact ⟨by omega, hI2.skip (by omega) (by simp; assumption)⟩
    ·show (Xb a).length - (i + 1) < (Xb a).length - i; omega
  ·try rw [h2]
   try simp only [qA] at h2
   refine Zf (QK (Qz (QH (Qd (kp1 Z) (Qe fun K hK => Qb Z (Qb Z (hK _ _ (Qa (kp1 Z) ?_))))))))
   refine Qt (Z7 Z ?_)
   rw [Qkp, if_pos h1, hI2.done (by omega)]; simp [XB, D.fz, D.fzS, Qdn, lk, D.can, D.canS, Zl]
end Go.Proofs
namespace Go.Proofs
open Go Go.Abs M3 M25
theorem QeB {a b : QeW} (h1a : Sm a.1) (h2a : Sm a.2) (h1b : Sm b.1) (h2b : Sm b.2) (hl1 : a.1.length + b.1.length <= 1000000) (hl2 : a.2.length + b.2.length <= 1000000) : Ok Tryz.prog 93 [QfU a, QfU b] (QfU (QpV a b)) := by
 refine Ok.ofT Z4 Tryz.func93 Qu5 (Qvd Z) ?_
 show TW _ _ tf93.body _ _
 refine Qe fun K hK => Zy Z Z Z (Zy Z Z Z (ZJ Z (hK _ _ (Qa (kp3 Z Z Z) ?_))))
 refine QF ?_ -- 0
 refine Qe fun K hK => QB (cs := [_, _]) Z Z Z Z (QA (YR h1a h2a) Z Z (.inr Z) (ZP Z (Qb Z ?_)))
 refine Qv (g := 8) Z (fun h1 => ?_) (fun h1 => ?_)
 ·try rw [h1]
  try simp only [qB] at h1
  refine Qq Z (Qq Z (Qq Z (Qh Z Z (hK _ _ (Qa (kp4 Z Z Z Z) ?_)))))
  refine Zn Z (Qe fun K hK => QA (Yj) Z Z (.inl Z) (Q5 Z Z Z Z Z Z Z Z (hK _ _ (Qa (kp1 Z) ?_))))
  refine Qt (Qk (Post.eq (ZN (ds := [.sl _, .sl _]) (cs := [_, _]) Z Z Z Z Z) ?_))
  rw [QpV, if_neg (by simp [h1])]; rfl
 ·try rw [h1]
  try simp only [qB] at h1
  refine Qf Z (QB (cs := [_, _]) Z Z Z Z (Qf Z (QA (YR h1b h2b) Z Z (.inr Z) (Qf Z (ZP Z (Qh Z Z (hK _ _ (Qa (kp4 Z Z Z Z) ?_))))))))
  refine Qx Z (fun h2 => ?_) (fun h2 => ?_)
  ·try rw [h2]
   try simp only [qB] at h2
   refine Qe fun K hK => QA (Yj) Z Z (.inl Z) (Q5 Z Z Z Z Z Z Z Z (hK _ _ (Qa (kp1 Z) ?_)))
   refine Qt (Qk (Post.eq (ZN (ds := [.sl _, .sl _]) (cs := [_, _]) Z Z Z Z Z) ?_))
   rw [QpV, if_neg (by simp [h1, h2])]; rfl
  ·try rw [h2]
   try simp only [qB] at h2
   refine Qu (Qd (kp3 Z Z Z) (Qe fun K hK => Qg Z Z (QU (ds0 := [7, 1, 0]) Z Z Z Z Z (Qg Z Z (QU (ds0 := [7, 1, 0]) Z Z Z Z Z (Ze (ds0 := [1, 0]) (Qbm h1a h1b hl1) Z Z (.inl Z) Z Z (Qg Z Z (QU (ds0 := [2, 1, 0]) Z Z Z Z Z (Qg Z Z (QU (ds0 := [2, 1, 0]) Z Z Z Z Z ?_))))))))))
   refine Ze (ds0 := [1, 0]) (Qbm h2a h2b hl2) Z Z (.inl Z) Z Z (Q2 Z Z (Xo (ds0 := []) Z Z Z Z Z Z Z Z Z Z (hK _ _ (Qa (kp1 Z) ?_))))
   refine Qt (Post.eq (ZN (ds := [.sl _, .sl _]) (cs := [_, _]) Z Z Z Z Z) ?_)
   rw [QpV, if_pos ⟨h1, h2⟩]; rfl
theorem QdU {a : QeW} (h1a : Sm a.1) (h2a : Sm a.2) : Ok Tryz.prog 94 [QfU a] (QfU (Qib a)) := by
 refine Ok.ofT Z4 Tryz.func94 Qu6 (Qvd Z) ?_
 show TW _ _ tf94.body _ _
 refine Qe fun K hK => Zy Z Z Z (ZJ Z (hK _ _ (Qa (kp2 Z Z) ?_)))
 refine QF ?_ -- 0
 refine Qe fun K hK => QB (cs := [_, _]) Z Z Z Z (QA (YR h1a h2a) Z Z (.inr Z) (ZP Z (hK _ _ (Qa (kp3 Z Z Z) ?_))))
 refine Qx Z (fun h1 => ?_) (fun h1 => ?_)
 ·try rw [h1]
  try simp only [qB] at h1
  refine Qe fun K hK => QA (Yj) Z Z (.inl Z) (Q5 Z Z Z Z Z Z Z Z (hK _ _ (Qa (kp1 Z) ?_)))
  refine Qt (Qk (Post.eq (ZN (ds := [.sl _, .sl _]) (cs := [_, _]) Z Z Z Z Z) ?_))
  rw [Qib, if_neg (by simp [h1])]; rfl
 ·try rw [h1]
  try simp only [qB] at h1
  refine Qu (Qd (kp2 Z Z) (Qe fun K hK => Qg Z Z (QU (ds0 := [5, 1, 0]) Z Z Z Z Z (Ze (ds0 := [1, 0]) (QaS h1a) Z Z (.inl Z) Z Z (Qg Z Z (QU (ds0 := [2, 1, 0]) Z Z Z Z Z (Ze (ds0 := [1, 0]) (QaS h2a) Z Z (.inl Z) Z Z (Q2 Z Z (Xo (ds0 := []) Z Z Z Z Z Z Z Z Z Z (hK _ _ (Qa (kp1 Z) ?_)))))))))))
  refine Qt (Post.eq (ZN (ds := [.sl _, .sl _]) (cs := [_, _]) Z Z Z Z Z) ?_)
  rw [Qib, if_pos h1]; rfl
end Go.Proofs
namespace Go.Proofs
open Go Go.Abs M3 M25
theorem Xh {v n : Int} (hn : n <= 9223372036854775807) (hv : I64 v) : Ok Tryz.prog 13 [.int .i64 v, .int .i64 n] (.int .i64 (mPl v n)) := by
 refine Ok.ofT Z4 Tryz.func13 Qub (Qvd Z) ?_
 show TW _ _ tf13.body _ _
 refine Qe fun K hK => Qb Z (hK _ _ (Qa (kp2 Z Z) ?_))
 refine QF ?_ -- 0
 refine Qe fun K hK => Qb Z (Z8 Z Z (hK _ _ (Qa (kp3 Z Z Z) ?_)))
 refine Qx Z (fun h1 => ?_) (fun h1 => ?_)
 ·try rw [h1]
  try simp only [qB] at h1
  refine Qe fun K hK => Qb Z (hK _ _ (Qa (kp1 Z) ?_))
  refine Qt (Qk (Qy Z ?_))
  rw [mPl, if_pos h1]
 ·try rw [h1]
  try simp only [qB] at h1
  refine Qu (Qd (kp2 Z Z) (Qe fun K hK => Qb Z (Qb Z (Qol Z Z (by omega) (Qb Z (hK _ _ (Qa (kp2 Z Z) ?_)))))))
  refine QF ?_ -- 1
  refine Qe fun K hK => Qb Z (Z8 Z Z (hK _ _ (Qa (kp3 Z Z Z) ?_)))
  refine Qx Z (fun h2 => ?_) (fun h2 => ?_)
  ·try rw [h2]
   try simp only [qB] at h2
   refine Qe fun K hK => Qb Z (Qb Z (Q9 Z Z (Qs (by have := Int.lt_tmod_of_pos v (show 0 < n by omega); omega) (by have := Int.tmod_lt_of_pos v (show 0 < n by omega); omega)) (Qb Z (hK _ _ (Qa (kp1 Z) ?_)))))
   refine Qt (Qk (Qy Z ?_))
   rw [mPl, if_neg h1, Qgk, if_pos h2]
  ·try rw [h2]
   try simp only [qB] at h2
   refine Qu (Qd (kp1 Z) (Qe fun K hK => Qb Z (Qb Z (hK _ _ (Qa (kp1 Z) ?_)))))
   refine Qt (Qy Z ?_)
   rw [mPl, if_neg h1, Qgk, if_neg h2]
theorem Qbl {l : List Int} {i : Int} : Ok Tryz.prog 36 [QX l, .int .i64 i] (.int .i64 (Qmk l i)) := by
 refine Ok.ofT Z4 Tryz.func36 Quo (Qvd Z) ?_
 show TW _ _ tf36.body _ _
 refine Qe fun K hK => Qb Z (hK _ _ (Qa (kp2 Z Z) ?_))
 refine QF ?_ -- 0
 refine Qe fun K hK => Qb Z (Z8 Z Z (Qb Z ?_))
 refine Qv (g := 7) Z (fun h1 => ?_) (fun h1 => ?_)
 ·try rw [h1]
  try simp only [qA] at h1
  refine Qq Z (Qq Z (Qq Z (Qq Z (Qh Z Z (hK _ _ (Qa (kp3 Z Z Z) ?_))))))
  refine Zn Z (Qe fun K hK => Qb Z (Qol Z Z (by omega) (Qb Z (hK _ _ (Qa (kp1 Z) ?_)))))
  refine Qt (Qk (Qy Z ?_))
  rw [Qmk, if_pos (by omega)]
 ·try rw [h1]
  try simp only [qA] at h1
  refine Qf Z (Qb Z (Qf Z (Qb Z (Qf Z (Q0 Z Z (Qf Z (QeV Z Z (Qh Z Z (hK _ _ (Qa (kp3 Z Z Z) ?_))))))))))
  refine Qx Z (fun h2 => ?_) (fun h2 => ?_)
  ·try rw [h2]
   try simp only [qA] at h2
   refine Qe fun K hK => Qb Z (Qol Z Z (by omega) (Qb Z (hK _ _ (Qa (kp1 Z) ?_))))
   refine Qt (Qk (Qy Z ?_))
   rw [Qmk, if_pos (by omega)]
  ·try rw [h2]
   try simp only [qA] at h2
   refine Qu (Qd (kp2 Z Z) (Qe fun K hK => Qb Z (Qb Z (QM Z Z Z (by omega) (Zz (by omega) (by omega)) Z (QC Z Z Z (Qb Z (hK _ _ (Qa (kp1 Z) ?_))))))))
   refine Qt (Qy Z ?_)
   exact (Qnt (by omega) (by omega)).symm
theorem X1 {k : Nat} {L : List Int} {I n : Int} (hk : 1000000 <= k) (hL : ∀ x ∈ L, I64 x) (hn : n <= 9223372036854775807) (et : Nat) : OkH Tryz.prog 33 [.ref k 0 0, .int .i64 n] [(k, gB L I et)] (.int .i64 (nx L I n)) ((k, gB L (nxI I) et) :: [(k, gB L I et)]) := by
 refine OkH.lent hk Z4 Tryz.func33 Qul (Qvd Z) Z ?_
 show TW _ _ tf33.body _ _
 refine Qe fun K hK => Qb Z (hK _ _ (Qa (kp2 Z Z) ?_))
 refine Qe fun K hK => Qb Z (Yn Z Z (Qg Z Qfm (QC Z (Yu QeK Z) Z (Q9 Z Z Z (Yn Z Z (Qg Z Qfm (Q5 Z QeK Z Z Z Z Z Z (hK _ _ (Qa (kp2 Z Z) ?_)))))))))
 refine Qe fun K hK => Qb Z (Yn Z Z (Qg Z Qfm (QU (ds0 := [3, 1, 0]) Z (Yu QeK Z) Z Z Z (Qb Z (Yn Z Z (Qg Z Qfm (QU (ds0 := [4, 3, 1, 0]) Z (Yu QeK Z) Z Z Z (Qdm Z Z Z (Ze (ds0 := [1, 0]) (Qbl) Z Z (.inr Z) Z Z (Qb Z ?_))))))))))
 refine Ze (ds0 := [0]) (Xh hn (Qlj hL (QgG _))) Z Z (.inr Z) Z Z (Qb Z (hK _ _ (Qa (kp1 Z) ?_)))
 refine Qt ?_
 exact QaF rfl rfl (Qrb QeK)
end Go.Proofs
namespace Go.Proofs
open Go Go.Abs M3 M25
theorem Qav {v : Int} (h0 : 0 <= v) (h1v : v <= 61) : Ok Tryz.prog 58 [.int .i64 v] (.int .i64 (2 ^ v.toNat)) := by
 refine Ok.ofT Z4 Tryz.func58 QuC (Qvd Z) ?_
 show TW _ _ tf58.body _ _
 refine Qe fun K hK => Qb Z (hK _ _ (Qa (kp1 Z) ?_))
 refine Qe fun K hK => Qb Z (hK _ _ (Qa (kp2 Z Z) ?_))
 refine QF ?_ -- 0
 refine Qe fun K hK => Qb Z (hK _ _ (Qa (kp3 Z Z Z) ?_))
 refine QG ?_
 refine ZH (ι := Nat) (fun i => ⟨[(0, .int .i64 v), (3, .int .i64 (2 ^ i)), (4, .int .i64 i)], []⟩) (fun i => (i : Int) <= v) (fun i => v.toNat - i) 0 ?_ ?_ ?_
 ·exact Q7 (kp3 rfl rfl rfl)
 ·exact h0
 intro i hI
 have hp := Qik (i := i + 1) (by omega)
 rw [Int.pow_succ] at hp
 try dsimp only
 refine QF ?_ -- 1
 refine Qe fun K hK => Qb Z (Qb Z (Z8 Z Z (hK _ _ (Qa (kp4 Z Z Z Z) ?_))))
 refine Qx Z (fun h1 => ?_) (fun h1 => ?_)
 ·try rw [h1]
  try simp only [qB] at h1
  refine Qu (Qd (kp3 Z Z Z) ?_)
  refine QF ?_ -- 2
  refine QG (QR fun K hK => Qb rfl (Qmq rfl rfl (Qs (by obtain ⟨p1, p2⟩ := hp; generalize (2 : Int) ^ i = z at *; omega) (by obtain ⟨p1, p2⟩ := hp; generalize (2 : Int) ^ i = z at *; omega)) (Qb rfl (hK _ ?_))))
  refine Qj (Qd (kp3 Z Z Z) (QR fun K hK => Qb Z (Q9 Z Z (Qs (by omega) (by omega)) (Qb Z (hK _ ?_)))))
  refine Qm (i + 1) ?_ ?_ ?_
  ·exact Q1 (l := [0, 3, 4]) (lH := []) (kp3 rfl rfl rfl) Qp (by rw [Int.pow_succ]; rfl) rfl rfl
  ·show ((i + 1 : Nat) : Int) <= v; omega
  ·first | omega | (simp only; omega) | (dsimp only; omega)
 ·try rw [h1]
  try simp only [qB] at h1
  refine Zf (QK (Qz (QH (Qd (kp1 Z) (Qe fun K hK => Qb Z (Qb Z (hK _ _ (Qa (kp1 Z) ?_))))))))
  refine Qt (Qy Z ?_)
  rw [show v.toNat = i by omega]
end Go.Proofs
namespace Go.Proofs
open Go Go.Abs M3 M25
theorem XC  : Ok Tryz.prog 59 [] (.sl (versions.map dVr)) := by
 refine Ok.ofT Z4 Tryz.func59 QuD (Qvd Z) ?_
 show TW _ _ tf59.body _ _
 refine Qe fun K hK => Qb Z (hK _ _ (Qa (ZC) ?_))
 refine Qe fun K hK => Q2 Z Z (Q2 Z Z (Q2 Z Z (Q2 Z Z (QP Z Z (Qb Z (hK _ _ (Qa (kp1 Z) ?_)))))))
 refine Qt (Z7 Z ?_)
 rfl
end Go.Proofs
namespace M25
open Go Go.Abs M3
structure WantT where
 u : Int
 s : QeW
structure CandT where
 v : Vr
 sh : Int
 ns : List (List WantT)
 bs : List WantT
structure QjY where
 n : List UInt8
 f : List UInt8
 cs : List CandT
abbrev QE := List QjY
def Qbd (x : WantT) : List D := [.int .i64 x.u, Zl x.s.1, Zl x.s.2]
def Za (l : List WantT) : D := .sl (l.map Qbd)
def QY (l : List (List WantT)) : D := .sl (l.map fun r => [Za r])
def QsX (c : CandT) : List D := [.int .i64 c.v.a, .int .i64 c.v.b, .int .i64 c.v.c, .str c.v.p, .str c.v.q, .int .i64 c.sh, QY c.ns, Za c.bs]
def QkV (l : List CandT) : D := .sl (l.map QsX)
def YJ (u : QjY) : List D := [.str u.n, .str u.f, QkV u.cs]
def Xk (w : QE) : D := .agg [.sl (w.map YJ)]
structure ZY where
 u : Int
 m : Int
 deriving DecidableEq
structure Qbz where
 u : Int
 m : Int
 l : Int
 c : Int
 deriving DecidableEq
structure RowT where
 k : Int
 u : Int
 a : Int
 b : Int
 t : List ZY
def XK (t : ZY) : List D := [.int .i64 t.u, .int .i64 t.m]
def QT (l : List ZY) : D := .sl (l.map XK)
abbrev Qb9 (a b : Int) : Int := Qck .and .i64 a b
abbrev bor (a b : Int) : Int := Qck .or .i64 a b
abbrev Qg6 (a b : Int) : Int := Qck .andNot .i64 a b
def uAt (w : QE) (u : Int) : Option QjY := if u < 0 then none else w[u.toNat]?
theorem QgE {w : QE} {u : Int} (h0 : 0 <= u) (h : u < w.length) : uAt w u = some (w[u.toNat]'(by omega)) := by
 rw [uAt, if_neg (by omega), List.getElem?_eq_getElem (by omega)]
theorem Qit {w : QE} {u : Int} (h : u < 0 \/ (w.length : Int) <= u) : uAt w u = none := by
 unfold uAt
 split
 ·rfl
 ·rw [List.getElem?_eq_none]; omega
def X4 (w : QE) (u : Int) : Int := match uAt w u with
 | none => 0
 | some x => 2 ^ (min x.cs.length 16 + 1) - 1
theorem Qef {w : QE} {u : Int} (h0 : 0 <= u) (h : u < w.length) : X4 w u = 2 ^ (min (w[u.toNat]'(by omega)).cs.length 16 + 1) - 1 := by
 rw [X4, QgE h0 h]
theorem Qeg {w : QE} {u : Int} (h : u < 0 \/ (w.length : Int) <= u) : X4 w u = 0 := by rw [X4, Qit h]
def QgH (v : Vr) : Prop := v.p.length <= 1000000 /\ v.q.length <= 1000000
structure WSm (w : QE) : Prop where
 len : w.length <= 48
 cs : ∀ u ∈ w, u.cs.length <= 16
 vs : ∀ u ∈ w, ∀ c ∈ u.cs, QgH c.v
 ns : ∀ u ∈ w, ∀ c ∈ u.cs, c.ns.length <= 1000 /\ c.bs.length <= 1000
 nl : ∀ u ∈ w, ∀ c ∈ u.cs, ∀ r ∈ c.ns, r.length <= 1000
 nw : ∀ u ∈ w, ∀ c ∈ u.cs, ∀ r ∈ c.ns, ∀ x ∈ r, Sm x.s.1 /\ Sm x.s.2
 bw : ∀ u ∈ w, ∀ c ∈ u.cs, ∀ x ∈ c.bs, Sm x.s.1 /\ Sm x.s.2
def QpM (s : QeW) (v : Vr) : Bool := Qgi s v.a v.b v.c v.p v.q
def Qbh (s : QeW) (l : List CandT) : Nat -> Int
 | 0 => 0
 | n + 1 => Qbh s l n + match l[n]? with
  | some c => if QpM s c.v = true then 2 ^ (n + 1) else 0
  | none => 0
theorem Qft (s : QeW) (l : List CandT) : ∀ n, 0 <= Qbh s l n /\ Qbh s l n <= 2 ^ (n + 1) - 2
 | 0 => by simp [Qbh]
 | n + 1 => by
  obtain ⟨h1, h2⟩ := Qft s l n
  have h3 : (2 : Int) ^ (n + 1 + 1) = 2 ^ (n + 1) * 2 := Int.pow_succ ..
  have h4 : (0 : Int) < 2 ^ (n + 1) := Int.pow_pos (by omega)
  rw [Qbh, h3]
  generalize (2 : Int) ^ (n + 1) = z at *
  split
  ·split <;> omega
  ·omega
theorem Qgl {s : QeW} {l : List CandT} {i : Nat} (h : i < l.length) (hp : QpM s l[i].v = true) : Qbh s l (i + 1) = Qbh s l i + 2 ^ (i + 1) := by
 rw [Qbh, List.getElem?_eq_getElem h]; simp only [hp, if_true]
theorem Qif {s : QeW} {l : List CandT} {i : Nat} (h : i < l.length) (hp : QpM s l[i].v = false) : Qbh s l (i + 1) = Qbh s l i := by
 rw [Qbh, List.getElem?_eq_getElem h]; simp only [hp, Qvl, if_false, Int.add_zero]
def Qnv (w : QE) (x : WantT) : Int := match uAt w x.u with
 | none => 0
 | some un => Qbh x.s un.cs (min un.cs.length 16)
theorem Qia {w : QE} {x : WantT} (h0 : 0 <= x.u) (h : x.u < w.length) : Qnv w x = Qbh x.s (w[x.u.toNat]'(by omega)).cs (min (w[x.u.toNat]'(by omega)).cs.length 16) := by
 rw [Qnv, QgE h0 h]
theorem Qfo {w : QE} {x : WantT} (h : x.u < 0 \/ (w.length : Int) <= x.u) : Qnv w x = 0 := by rw [Qnv, Qit h]
theorem Qpf {n : Nat} (h : n <= 17) : 1 <= (2 : Int) ^ n /\ (2 : Int) ^ n <= 131072 := by
 have h1 : (2 : Nat) ^ n <= 2 ^ 17 := Nat.pow_le_pow_right (by omega) h
 have h2 : 1 <= (2 : Nat) ^ n := Nat.one_le_two_pow
 have h3 : ((2 ^ n : Nat) : Int) = (2 : Int) ^ n := by simp
 rw [<- h3]
 have h4 : (2 : Nat) ^ 17 = 131072 := by decide
 omega
theorem Qo3 (s : QeW) (l : List CandT) {n : Nat} (h : n <= 16) : 0 <= Qbh s l n /\ Qbh s l n <= 131070 := by
 obtain ⟨h1, h2⟩ := Qft s l n
 have := Qpf (n := n + 1) (by omega)
 omega
def Qa2 (w : QE) (c : List Int) (u : Int) : Int := match uAt w u with
 | none => 0
 | some x => if (c.length : Int) <= u then 0 else if c.getD u.toNat 0 < -1 \/ ((min x.cs.length 16 : Nat) : Int) <= c.getD u.toNat 0 then 0 else 2 ^ (c.getD u.toNat 0 + 1).toNat
def YK (m : Int) : Nat -> List Int
 | 0 => []
 | n + 1 => YK m n ++ if Qb9 m (2 ^ n) = 0 then [] else [(n : Int) - 1]
def XP (m : Int) : List Int := YK m 17
def inW (w : QE) (u : Int) : Bool := decide (0 <= u) && decide (u < w.length)
/-! ### Trails -/
def QgW (w : QE) (l : List Qbz) (u : Int) : Int := l.foldl (fun a s => if s.u = u /\ inW w u = true then s.m else a) (X4 w u)
def Qr9 (l : List Qbz) : Int := match l.getLast? with
 | none => 0
 | some s => s.l
def QoW (l : List Qbz) (u : Int) : Bool := l.any fun s => decide (s.u = u) && decide (s.c = -1)
def Qs4 (w : QE) (l : List Qbz) (inc : List ZY) : Bool := inc.all fun t => decide (Qjq (QgW w l t.u) t.m = 2)
def Qih (have_ : Int -> Int) : List ZY -> Int -> Int
 | [], at_ => at_
 | t :: r, at_ => if Qjq (have_ t.u) t.m = 0 then -1 else if Qjq (have_ t.u) t.m = 1 then (if 0 <= at_ then -1 else Qih have_ r t.u) else Qih have_ r at_
def Qsa (w : QE) (l : List Qbz) (inc : List ZY) : Int := Qih (QgW w l) inc (-1)
def QlD (w : QE) (l : List Qbz) : Nat -> List (List ZY) -> Int × Int
 | _, [] => (-1, -1)
 | i, x :: r => if Qs4 w l x = true then (i, -1) else if 0 <= Qsa w l x then (i, Qsa w l x) else QlD w l (i + 1) r
def Qs3 (w : QE) (db : List (List ZY)) (l : List Qbz) : Int × Int := QlD w l 0 db
end M25
namespace M25
open Go Go.Abs M3
section
variable {fr : List (Nat × D)} {H : List (Nat × Box)} {t u : Nat}
theorem Qor {k n : Nat} {b : Box} {d : D} (hb : lk H k = some b) (hp : b.pr = true) (hn : n = b.rows.length) (hd : .sl b.rows = d) : XB ⟨fr, H⟩ (.osl k n) = d := by
 unfold XB; rw [Qs1 (S := Qdn) rfl hb hp hn]; exact hd
theorem Qfx {e : AExit} {k n : Nat} {b : Box} {d : D} (h : lk fr t = some (.osl k n)) (hb : lk H k = some b) (hp : b.pr = true) (hn : n = b.rows.length) (hd : .sl b.rows = d) (he : e = .ret \/ e = .normal := by first | exact .inl rfl | exact .inr rfl) : Post [.tmp t] d e ⟨fr, H⟩ :=
 Z7 h (Qor hb hp hn hd) he
end
theorem Qs5 (n : Nat) : (min (n : Int) 16 + 1).toNat = min n 16 + 1 := by omega
theorem QjQ {n : Nat} (h : n <= 62) : IntKind.i64.wrap ((2 : Int) ^ n - 1) = 2 ^ n - 1 := by
 have := Qik h; exact Qs (by omega) (by omega)
theorem Qsi (i : Nat) : (2 : Int) ^ ((i : Int) + 1).toNat = 2 ^ (i + 1) := by rw [Qp8]
theorem Qpz (s : QeW) (l : List CandT) {i : Nat} (h : i < 16) : IntKind.i64.wrap (Qbh s l i + (2 : Int) ^ ((i : Int) + 1).toNat) = Qbh s l i + 2 ^ (i + 1) := by
 rw [Qsi]
 have h1 := Qo3 s l (n := i) (by omega)
 have h2 := Qpf (n := i + 1) (by omega)
 exact Qs (by omega) (by omega)
theorem Qas {w : QE} {c : List Int} {u : Int} (h : (u < 0 \/ (w.length : Int) <= u) \/ (c.length : Int) <= u) : Qa2 w c u = 0 := by
 unfold Qa2
 split
 ·rfl
 ·rename_i x hx
  rcases h with h | h
  ·rw [Qit h] at hx; cases hx
  ·rw [if_pos h]
theorem Qar {w : QE} {c : List Int} {u : Int} (h0 : 0 <= u) (h1 : u < w.length) (h2 : u < c.length) (h : c[u.toNat]'(by omega) < -1 \/ min (((w[u.toNat]'(by omega)).cs.length : Nat) : Int) 16 <= c[u.toNat]'(by omega)) : Qa2 w c u = 0 := by
 rw [Qa2, QgE h0 h1]
 simp only []
 rw [if_neg (by omega), List.getD_eq_getElem?_getD, List.getElem?_eq_getElem (by omega)]
 simp only [Option.getD_some]
 rw [if_pos]
 rcases h with h | h
 ·exact .inl h
 ·right; omega
theorem QaD {w : QE} {c : List Int} {u : Int} (h0 : 0 <= u) (h1 : u < w.length) (h2 : u < c.length) (h : ¬ c[u.toNat]'(by omega) < -1) (h' : ¬ min (((w[u.toNat]'(by omega)).cs.length : Nat) : Int) 16 <= c[u.toNat]'(by omega)) : Qa2 w c u = 2 ^ (c[u.toNat]'(by omega) + 1).toNat := by
 rw [Qa2, QgE h0 h1]
 simp only []
 rw [if_neg (by omega), List.getD_eq_getElem?_getD, List.getElem?_eq_getElem (by omega)]
 simp only [Option.getD_some]
 rw [if_neg]
 omega
theorem Qk1 {m : Int} {n : Nat} (h : ¬ Qb9 m (2 ^ n) = 0) : YK m (n + 1) = YK m n ++ [(n : Int) - 1] := by rw [YK, if_neg h]
theorem QmW {m : Int} {n : Nat} (h : Qb9 m (2 ^ n) = 0) : YK m (n + 1) = YK m n := by rw [YK, if_pos h, List.append_nil]
theorem Qr3 {w : QE} {u : Int} (h0 : 0 <= u) (h : u < w.length) : inW w u = true := by simp [inW, h0, h]
theorem Qnk {w : QE} {u : Int} (h : u < 0 \/ (w.length : Int) <= u) : inW w u = false := by
 simp only [inW, Qvq, decide_eq_false_iff_not]; omega
theorem Qf6 {w : QE} {u : Int} : inW w u = true ↔ 0 <= u /\ u < w.length := by simp [inW]
theorem QfC {e : Int} (h1 : 0 <= e) (h2 : e <= 18446744073709551615) : IntKind.u64.wrap e = e := by
 unfold IntKind.wrap
 simp only [IntKind.bits, IntKind.signed, Bool.false_and, Qvl, if_false]
 omega
theorem Qob {p : Nat} (h : p <= 60) : IntKind.i64.wrap ((2 : Int) * 2 ^ min ((p : Nat) : Int).toNat IntKind.i64.bits) = 2 * 2 ^ p := by
 rw [show min ((p : Nat) : Int).toNat IntKind.i64.bits = p from by simp only [IntKind.bits, Int.toNat_natCast]; omega]
 have := Qik (i := p + 1) (by omega)
 rw [Int.pow_succ] at this
 exact Qs (by omega) (by omega)
end M25
namespace Go.Proofs
open Go Go.Abs M3 M25
theorem Qc7 {w : QE} (hw : WSm w) {u : Int} : Ok Tryz.prog 35 [Xk w, .int .i64 u] (.int .i64 (X4 w u)) := by
 refine Ok.ofT Z4 Tryz.func35 Qun (Qvd Z) ?_
 show TW _ _ tf35.body _ _
 refine Qe fun K hK => Zy Z Z Z (Qb Z (hK _ _ (Qa (kp2 Z Z) ?_)))
 refine QF ?_ -- 0
 refine Qe fun K hK => Qb Z (Z8 Z Z (Qb Z ?_))
 refine Qv (g := 7) Z (fun h1 => ?_) (fun h1 => ?_)
 ·try rw [h1]
  try simp only [qA] at h1
  refine Qq Z (Qq Z (Qq Z (Qq Z (Qq Z (Qh Z Z (hK _ _ (Qa (kp3 Z Z Z) ?_)))))))
  refine Zn Z (Qe fun K hK => Qb Z (hK _ _ (Qa (kp1 Z) ?_)))
  refine Qt (Qk (Qy Z ?_))
  rw [Qeg (by omega)]
 ·try rw [h1]
  try simp only [qA] at h1
  refine Qf Z (Qb Z (Qf Z (Qg Z Z (Qf Z (QC Z Z Z (Qf Z (Q0 Z Z (Qf Z (QeV Z Z (Qh Z Z (hK _ _ (Qa (kp3 Z Z Z) ?_))))))))))))
  refine Qx Z (fun h2 => ?_) (fun h2 => ?_)
  ·try rw [h2]
   try simp only [qA] at h2
   refine Qe fun K hK => Qb Z (hK _ _ (Qa (kp1 Z) ?_))
   refine Qt (Qk (Qy Z ?_))
   rw [Qeg (by omega)]
  ·try rw [h2]
   try simp only [qA] at h2
   refine Qu (Qd (kp2 Z Z) (Qe fun K hK => Qg Z Z (QC Z Z Z (Qb Z (QM Z Z Z (by omega) (Zz (by omega) (by omega)) Z (Zd Z Z (QC Z Z Z (Q0 Z Z (QsL Z Z (Q9 Z Z (by first | exact Qs (by omega) (by omega) | rfl) ?_))))))))))
   refine QA (Qav (by omega) (by omega)) Z Z (.inr Z) (Qdm Z Z (QjQ (by omega)) (Qb Z (hK _ _ (Qa (kp1 Z) ?_))))
   refine Qt (Qy Z ?_)
   rw [Qef (by omega) (by omega), List.length_map, Qs5]
theorem Qdq {w : QE} (hw : WSm w) {x : WantT} (hx : Sm x.s.1 /\ Sm x.s.2) : Ok Tryz.prog 28 [Xk w, .agg (Qbd x)] (.int .i64 (Qnv w x)) := by
 refine Ok.ofT Z4 Tryz.func28 Qug (Qvd Z) ?_
 show TW _ _ tf28.body _ _
 refine Qe fun K hK => Zy Z Z Z (Zy Z Z Z (Qb Z (hK _ _ (Qa (kp2 Z Z) ?_))))
 refine QF ?_ -- 0
 refine Qe fun K hK => Qg Z Z (QC Z Z Z (Z8 Z Z (Qb Z ?_)))
 refine Qv (g := 11) Z (fun h1 => ?_) (fun h1 => ?_)
 ·try rw [h1]
  try simp only [qA] at h1
  refine Qq Z (Qq Z (Qq Z (Qq Z (Qq Z (Qq Z (Qh Z Z (hK _ _ (Qa (kp3 Z Z Z) ?_))))))))
  refine Zn Z (Qe fun K hK => Qb Z (hK _ _ (Qa (kp1 Z) ?_)))
  refine Qt (Qk (Qy Z ?_))
  rw [Qfo (by omega)]
 ·try rw [h1]
  try simp only [qA] at h1
  refine Qf Z (Qg Z Z (Qf Z (QC Z Z Z (Qf Z (Qg Z Z (Qf Z (QC Z Z Z (Qf Z (Q0 Z Z (Qf Z (QeV Z Z ?_)))))))))))
  refine Qh Z Z (hK _ _ (Qa (kp3 Z Z Z) ?_))
  refine Qx Z (fun h2 => ?_) (fun h2 => ?_)
  ·try rw [h2]
   try simp only [qA] at h2
   refine Qe fun K hK => Qb Z (hK _ _ (Qa (kp1 Z) ?_))
   refine Qt (Qk (Qy Z ?_))
   rw [Qfo (by omega)]
  ·try rw [h2]
   try simp only [qA] at h2
   refine Qu (Qd (kp2 Z Z) (Qe fun K hK => Qb Z (hK _ _ (Qa (kp3 Z Z Z) ?_))))
   refine Qe fun K hK => Qg Z Z (QC Z Z Z (Qg Z Z (QC Z Z Z (QM Z Z Z (by omega) (Zz (by omega) (by omega)) Z (Zd Z Z (QC Z Z Z (Qb Z (hK _ _ (Qa (kp3 Z Z Z) ?_)))))))))
   refine QF ?_ -- 1
   refine Qe fun K hK => Qb Z (hK _ _ (Qa (kp4 Z Z Z Z) ?_))
   refine QG ?_
   refine ZH (ι := Nat) (fun i => ⟨[(3, .ref 3 0 0), (5, .int .i64 (Qbh x.s (w[x.u.toNat]'(by omega)).cs i)), (6, QkV (w[x.u.toNat]'(by omega)).cs), (7, .int .i64 i)], [(3, ⟨[[.int .i64 (x).u, Zl (x).s.1, Zl (x).s.2]], 3, 68, true⟩)]⟩) (fun i => i <= (min (w[x.u.toNat]'(by omega)).cs.length 16)) (fun i => (min (w[x.u.toNat]'(by omega)).cs.length 16) - i) 0 ?_ ?_ ?_
   ·exact Q1 (l := [3, 5, 6, 7]) (lH := [3]) (kp4 rfl rfl rfl rfl) (Qi rfl Qp) rfl rfl rfl
   ·exact Qvp _
   intro i hI
   try dsimp only
   refine QF ?_ -- 2
   refine Qe fun K hK => Qb Z (Qb Z (Q0 Z Z (Z8 Z Z (Qb Z ?_))))
   refine Qv (g := 30) Z (fun h3 => ?_) (fun h3 => ?_)
   ·try rw [h3]
    try simp only [qA] at h3
    refine Qf Z (Qb Z (Qf Z (Z8 Z Z (Qh Z Z (hK _ _ (Qa (kp5 Z Z Z Z Z) ?_))))))
    refine Qx Z (fun h4 => ?_) (fun h4 => ?_)
    ·try rw [h4]
     try simp only [qA] at h4
     refine Qu (Qd (kp4 Z Z Z Z) ?_)
     refine QF ?_ -- 3
     refine QG (Qe fun K hK => Qg Z Z (QQ (ds0 := [0]) (cs := [_, _]) Z Z Z Z Z Z (Qb Z (Qb Z (QM Z Z Z (by omega) (Zk (by omega)) Z (Zd Z Z (QQ (ds0 := [0]) (cs := [_, _, _, _, _]) Z Z Z Z Z Z (Ze (ds0 := []) (QdT hx.1 hx.2 (hw.vs _ (Qvi _) _ (Qvi (by omega))).1 (hw.vs _ (Qvi _) _ (Qvi (by omega))).2) Z Z (.inr Z) Z Z (hK _ _ (Qa (kp5 Z Z Z Z Z) ?_))))))))))
     refine Qx Z (fun h5 => ?_) (fun h5 => ?_)
     ·try rw [h5]
      try simp only [qA] at h5
      refine QR fun K hK => Qb Z (Qb Z (Q9 Z Z (by first | exact Qs (by omega) (by omega) | rfl) (QA (Qav (by omega) (by omega)) Z Z (.inr Z) (Q9 Z Z (Qpz _ _ (by omega)) (Qb Z (hK _ ?_))))))
      refine Qj (Qd (kp4 Z Z Z Z) (QR fun K hK => Qb Z (Q9 Z Z (by first | exact Qs (by omega) (by omega) | rfl) (Qb Z (hK _ ?_)))))
      refine Qm (i + 1) ?_ ?_ ?_
      ·exact Q1 (l := [3, 5, 6, 7]) (lH := [3]) (kp4 rfl rfl rfl rfl) (Qi rfl Qp) (by rw [Qgl (by omega) (by assumption)]; rfl) rfl rfl
      ·omega
      ·first | omega | (simp only; omega) | (dsimp only; omega)
     ·try rw [h5]
      try simp only [qA] at h5
      refine Qu (Qj (Qd (kp4 Z Z Z Z) (QR fun K hK => Qb Z (Q9 Z Z (by first | exact Qs (by omega) (by omega) | rfl) (Qb Z (hK _ ?_))))))
      refine Qm (i + 1) ?_ ?_ ?_
      ·exact Q1 (l := [3, 5, 6, 7]) (lH := [3]) (kp4 rfl rfl rfl rfl) (Qi rfl Qp) (by rw [Qif (by omega) (by assumption)]; rfl) rfl rfl
      ·omega
      ·first | omega | (simp only; omega) | (dsimp only; omega)
    ·try rw [h4]
     try simp only [qA] at h4
     refine Zf (QK (Qz (QH (Qd (kp1 Z) (Qe fun K hK => Qb Z (Qb Z (hK _ _ (Qa (kp1 Z) ?_))))))))
     refine Qt (Qy Z ?_)
     rw [Qia (by omega) (by omega), show i = min (w[x.u.toNat]'(by omega)).cs.length 16 by omega]
   ·try rw [h3]
    try simp only [qA] at h3
    refine Qq Z (Qq Z (Qh Z Z (hK _ _ (Qa (kp5 Z Z Z Z Z) ?_))))
    refine Zq Z (Zf (QK (Qz (QH (Qd (kp1 Z) (Qe fun K hK => Qb Z (Qb Z (hK _ _ (Qa (kp1 Z) ?_)))))))))
    refine Qt (Qy Z ?_)
    rw [Qia (by omega) (by omega), show i = min (w[x.u.toNat]'(by omega)).cs.length 16 by omega]
end Go.Proofs
namespace M25
open Go Go.Abs M3
theorem WSm.csLen {w : QE} (hw : WSm w) {u : Nat} (hu : u < w.length) : w[u].cs.length <= 16 := hw.cs _ (Qvi _)
end M25
namespace M25
open Go Go.Abs M3
/-! ### Bits of numbers -/
theorem Qiy (e : Int) : IntKind.i64.wrap e = (BitVec.ofInt 64 e).toInt := by
 have hb : (BitVec.ofInt 64 e).toInt = if e % 18446744073709551616 < 9223372036854775808 then e % 18446744073709551616 else e % 18446744073709551616 - 18446744073709551616 := by
  rw [BitVec.toInt_ofInt]; rfl
 rw [hb]
 unfold IntKind.wrap
 simp only [IntKind.bits, IntKind.signed, Bool.true_and]
 split
 ·rename_i h
  have := of_decide_eq_true h
  split <;> omega
 ·rename_i h
  have : ¬ (e % 2 ^ 64 >= 2 ^ (64 - 1)) := fun hh => h (decide_eq_true hh)
  split <;> omega
theorem QdC (b : BitVec 64) : BitVec.ofInt 64 (b.toNat : Int) = b := by
 rw [BitVec.ofInt_natCast, BitVec.ofNat_toNat, BitVec.setWidth_eq]
theorem QrS (x y : Int) : BitVec.ofInt 64 (Qb9 x y) = BitVec.ofInt 64 x &&& BitVec.ofInt 64 y := by
 show BitVec.ofInt 64 (IntKind.i64.wrap ((BitVec.ofInt 64 x &&& BitVec.ofInt 64 y).toNat : Int)) = _
 rw [Qiy, BitVec.ofInt_toInt, QdC]
theorem QsU (x y : Int) : BitVec.ofInt 64 (bor x y) = BitVec.ofInt 64 x ||| BitVec.ofInt 64 y := by
 show BitVec.ofInt 64 (IntKind.i64.wrap ((BitVec.ofInt 64 x ||| BitVec.ofInt 64 y).toNat : Int)) = _
 rw [Qiy, BitVec.ofInt_toInt, QdC]
theorem QrT (x y : Int) : BitVec.ofInt 64 (Qg6 x y) = BitVec.ofInt 64 x &&& ~~~ BitVec.ofInt 64 y := by
 show BitVec.ofInt 64 (IntKind.i64.wrap ((BitVec.ofInt 64 x &&& ~~~ BitVec.ofInt 64 y).toNat : Int)) = _
 rw [Qiy, BitVec.ofInt_toInt, QdC]
theorem QoL {x : Int} (h : I64 x) : IntKind.i64.wrap x = x := Qs h.1 h.2
theorem QpH {x : Int} (h : I64 x) : (BitVec.ofInt 64 x).toInt = x := by rw [<- Qiy, QoL h]
theorem QqH (x y : Int) : I64 (Qb9 x y) := QgG _
theorem QrZ (x y : Int) : I64 (bor x y) := QgG _
def tb (x : Int) (i : Nat) : Bool := (BitVec.ofInt 64 x).getLsbD i
theorem Qn2 (x y : Int) (i : Nat) : tb (Qb9 x y) i = (tb x i && tb y i) := by rw [tb, QrS, BitVec.getLsbD_and]; rfl
theorem Qsr (x y : Int) (i : Nat) : tb (bor x y) i = (tb x i || tb y i) := by rw [tb, QsU, BitVec.getLsbD_or]; rfl
theorem Qn3 (x y : Int) {i : Nat} : tb (Qg6 x y) i = (tb x i && !tb y i) := by
 rw [tb, QrT, BitVec.getLsbD_and, BitVec.getLsbD_not]
 by_cases h : i < 64
 ·simp [h, tb]
 ·simp [tb, BitVec.getLsbD_of_ge _ i (by omega : 64 <= i)]
theorem Qmg (x : Int) {i : Nat} (h : 64 <= i) : tb x i = false := BitVec.getLsbD_of_ge _ i h
theorem Qp6 {x y : Int} (hx : I64 x) (hy : I64 y) (h : ∀ i, tb x i = tb y i) : x = y := by
 rw [<- QpH hx, <- QpH hy]
 congr 1
 exact BitVec.eq_of_getLsbD_eq fun i _ => h i
theorem Qis (i : Nat) : tb 0 i = false := by
 show (BitVec.ofInt 64 0).getLsbD i = false
 rw [show BitVec.ofInt 64 0 = 0#64 from rfl, BitVec.getLsbD_zero]
theorem Qkh {x : Int} (hx : I64 x) : x = 0 ↔ ∀ i, tb x i = false := by
 constructor
 ·rintro rfl i; exact Qis i
 ·intro h; exact Qp6 hx ⟨by omega, by omega⟩ fun i => by rw [h i, Qis]
theorem QjO (n : Nat) {i : Nat} (h : i < 64) : tb (n : Int) i = n.testBit i := by
 rw [tb, BitVec.ofInt_natCast, BitVec.getLsbD_ofNat]; simp [h]
theorem QgD {k : Nat} (hk : k < 64) (i : Nat) : tb ((2 : Int) ^ k) i = decide (i = k) := by
 have e : ((2 ^ k : Nat) : Int) = (2 : Int) ^ k := by simp
 by_cases h : i < 64
 ·rw [<- e, QjO _ h, Nat.testBit_two_pow]
  exact decide_eq_decide.2 eq_comm
 ·rw [Qmg _ (by omega)]; exact (decide_eq_false (by omega)).symm
theorem Qoq {x m : Int} : Qb9 x m = 0 ↔ ∀ i, tb x i = true -> tb m i = false := by
 rw [Qkh (QqH x m)]
 refine forall_congr' fun i => ?_
 rw [Qn2]; cases tb x i <;> cases tb m i <;> simp
def Lo (x : Int) : Prop := 0 <= x /\ x < 131072
theorem QdK {x : Int} {k : Nat} (hk : k < 64) : Qb9 x (2 ^ k) = 0 ↔ tb x k = false := by
 rw [Qoq]
 constructor
 ·intro h
  cases hx : tb x k
  ·rfl
  ·have := h k hx; rw [QgD hk] at this; simp at this
 ·intro h i hi
  rw [QgD hk]
  by_cases e : i = k
  ·subst e; rw [h] at hi; cases hi
  ·exact decide_eq_false e
end M25
namespace M25
open Go Go.Abs M3
/-! ### Trails: the loops' laws -/
theorem Qm8 {w : QE} {u : Int} : X4 w u = 0 ↔ inW w u = false := by
 constructor
 ·intro h
  cases hw : inW w u
  ·rfl
  ·rw [Qf6] at hw
   rw [Qef hw.1 hw.2] at h
   have h2 : 2 <= (2 : Int) ^ (min (w[u.toNat]'(by omega)).cs.length 16 + 1) := by
    rw [Int.pow_succ]
    have := Qpf (n := min (w[u.toNat]'(by omega)).cs.length 16) (by omega)
    omega
   omega
 ·intro h
  refine Qeg (Classical.byContradiction fun hn => ?_)
  rw [Qr3 (by omega) (by omega)] at h; cases h
def QrD (w : QE) (l : List Qbz) : Prop := ∀ s ∈ l, Lo s.m
end M25
namespace M25
open Go Go.Abs M3
def Qme : List QjY -> Int -> Int
 | [], n => n
 | u :: r, n => if n < 1000000 then Qme r (n * ((u.cs.length : Int) + 1)) else n
def Qkq (w : QE) : Int := Qme w 1
theorem Qs9 {w : QE} {i : Nat} {n : Int} (h : i < w.length) (hn : n < 1000000) : Qme (w.drop i) n = Qme (w.drop (i + 1)) (n * ((w[i].cs.length : Int) + 1)) := by
 rw [Qvu h, Qme, if_pos hn]
theorem Qsq {w : QE} {i : Nat} {n : Int} (h : w.length <= i) : Qme (w.drop i) n = n := by rw [Qvy h, Qme]
theorem Qsp {w : QE} {i : Nat} {n : Int} (hn : ¬ n < 1000000) : Qme (w.drop i) n = n := by
 cases h : w.drop i with
 | nil => rfl
 | cons u r => rw [Qme, if_neg hn]
theorem Qpv {n : Int} {k : Nat} (h0 : 1 <= n) (h1 : n < 1000000) (hk : k <= 16) : 1 <= n * ((k : Int) + 1) /\ n * ((k : Int) + 1) <= 17000000 := by
 obtain ⟨m, rfl⟩ := Int.eq_ofNat_of_zero_le (show 0 <= n by omega)
 have h2 : m * (k + 1) <= 1000000 * 17 := Nat.mul_le_mul (by omega) (by omega)
 have h3 : 1 * 1 <= m * (k + 1) := Nat.mul_le_mul (by omega) (by omega)
 have e : (m : Int) * ((k : Int) + 1) = ((m * (k + 1) : Nat) : Int) := by simp
 rw [e]; omega
def chN (w : QE) (n : Int) : Nat -> Int
 | 0 => n
 | i + 1 => match w[i]? with
  | some u => (chN w n i).tdiv ((u.cs.length : Int) + 1)
  | none => chN w n i
def chL (w : QE) (n : Int) : Nat -> List Int
 | 0 => []
 | i + 1 => match w[i]? with
  | some u => chL w n i ++ [(chN w n i).tmod ((u.cs.length : Int) + 1) - 1]
  | none => chL w n i
def Qh9 (w : QE) (n : Int) : List Int := chL w n w.length
theorem QrV {w : QE} {n : Int} {i : Nat} (h : i < w.length) : chN w n (i + 1) = (chN w n i).tdiv ((w[i].cs.length : Int) + 1) := by rw [chN, List.getElem?_eq_getElem h]
theorem QmM {w : QE} {n : Int} {i : Nat} (h : i < w.length) : chL w n (i + 1) = chL w n i ++ [(chN w n i).tmod ((w[i].cs.length : Int) + 1) - 1] := by rw [chL, List.getElem?_eq_getElem h]
theorem Qn4 {a : Int} {k : Nat} (h0 : 0 <= a) : 0 <= a.tdiv ((k : Int) + 1) /\ a.tdiv ((k : Int) + 1) <= a := by
 obtain ⟨m, rfl⟩ := Int.eq_ofNat_of_zero_le h0
 have : ((m : Int)).tdiv ((k : Int) + 1) = ((m / (k + 1) : Nat) : Int) := by
  rw [show (k : Int) + 1 = ((k + 1 : Nat) : Int) by simp, Int.ofNat_tdiv]
 rw [this]
 have := Nat.div_le_self m (k + 1)
 exact ⟨Int.natCast_nonneg _, Int.ofNat_le.2 this⟩
theorem QmN {w : QE} {n : Int} (h0 : 0 <= n) : ∀ i, 0 <= chN w n i /\ chN w n i <= n
 | 0 => ⟨h0, Int.le_refl _⟩
 | i + 1 => by
  obtain ⟨h1, h2⟩ := QmN (w := w) h0 i
  rw [chN]
  split
  ·rename_i u _
   have := Qn4 (k := u.cs.length) h1
   omega
  ·exact ⟨h1, h2⟩
theorem QmK (w : QE) (n : Int) : ∀ i, (chL w n i).length <= i
 | 0 => Nat.le_refl _
 | i + 1 => by
  have := QmK w n i
  rw [chL]; split <;> simp <;> omega
theorem Qrk {a : Int} {k : Nat} (hk : k <= 16) : IntKind.i64.wrap (a.tmod ((k : Int) + 1) - 1) = a.tmod ((k : Int) + 1) - 1 := by
 have h1 := Int.lt_tmod_of_pos a (show (0 : Int) < (k : Int) + 1 by omega)
 have h2 := Int.tmod_lt_of_pos a (show (0 : Int) < (k : Int) + 1 by omega)
 exact Qs (by omega) (by omega)
theorem Qrj {a : Int} {k : Nat} (h0 : 0 <= a) (h1 : a <= 9223372036854775807) : IntKind.i64.wrap (a.tdiv ((k : Int) + 1)) = a.tdiv ((k : Int) + 1) := by
 have := Qn4 (k := k) h0
 exact Qs (by omega) (by omega)
theorem Qez {v : Int} (h : (v + 1).toNat <= 61) : IntKind.i64.wrap ((1 : Int) * 2 ^ min (v + 1).toNat IntKind.i64.bits) = 2 ^ (v + 1).toNat := by
 rw [show min (v + 1).toNat IntKind.i64.bits = (v + 1).toNat from by simp only [IntKind.bits]; omega, Int.one_mul]
 have := Qik (i := (v + 1).toNat) (by omega)
 exact Qs (by omega) (by omega)
end M25
namespace Go.Proofs
open Go Go.Abs M3 M25
theorem Qdo {w : QE} (hw : WSm w) : Ok Tryz.prog 14 [Xk w] (.int .i64 (Qkq w)) := by
 refine Ok.ofT Z4 Tryz.func14 Quc (Qvd Z) ?_
 show TW _ _ tf14.body _ _
 have hn := hw.len
 refine Qe fun K hK => Zy Z Z Z (Qb Z (hK _ _ (Qa (kp1 Z) ?_)))
 refine Qe fun K hK => Qb Z (hK _ _ (Qa (kp2 Z Z) ?_))
 refine QF ?_ -- 0
 refine Qe fun K hK => Qb Z (hK _ _ (Qa (kp3 Z Z Z) ?_))
 refine QG ?_
 refine ZH (ι := Nat × Int) (fun ⟨i, n⟩ => ⟨[(1, .ref 1 0 0), (3, .int .i64 n), (4, .int .i64 i)], [(1, ⟨[[.sl ((w).map YJ)]], 1, 26, true⟩)]⟩) (fun ⟨i, n⟩ => i <= w.length /\ 1 <= n /\ Qkq w = Qme (w.drop i) n) (fun ⟨i, n⟩ => w.length - i) (0, 1) ?_ ?_ ?_
 ·exact Q1 (l := [1, 3, 4]) (lH := [1]) (kp3 rfl rfl rfl) (Qi rfl Qp) rfl rfl rfl
 ·exact ⟨Qvp _, Int.le_refl _, rfl⟩
 intro ⟨i, n⟩ hI
 obtain ⟨hI1, hI2, hI3⟩ := hI
 try dsimp only at hI1 hI2 hI3
 try dsimp only
 refine QF ?_ -- 1
 refine Qe fun K hK => Qb Z (Qg Z Z (QC Z Z Z ?_))
 first | refine Q0 rfl Zb ?_ | refine Q0 rfl rfl ?_
 refine Z8 Z Z (Qb Z ?_)
 refine Qv (g := 10) Z (fun h1 => ?_) (fun h1 => ?_)
 ·try rw [h1]
  try simp only [qA] at h1
  refine Qf Z (Qb Z (Qf Z (Z8 Z Z (Qh Z Z (hK _ _ (Qa (kp4 Z Z Z Z) ?_))))))
  refine Qx Z (fun h2 => ?_) (fun h2 => ?_)
  ·try rw [h2]
   try simp only [qA] at h2
   refine Qu (Qd (kp3 Z Z Z) ?_)
   refine QF ?_ -- 2
   refine QG (QR fun K hK => Qb Z (Qg Z Z (QC Z Z Z (Qb Z (QM Z Z Z (by omega) (Zk (by omega)) Z (Zd Z Z (QC Z Z Z ?_)))))))
   first | refine Q0 rfl Zb ?_ | refine Q0 rfl rfl ?_
   refine Q9 Z Z (Qs (by have := hw.csLen (show i < w.length by omega); omega) (by have := hw.csLen (show i < w.length by omega); omega)) (Qmq Z Z (Qs (by have := Qpv hI2 h2 (hw.csLen (show i < w.length by omega)); omega) (by have := Qpv hI2 h2 (hw.csLen (show i < w.length by omega)); omega)) (Qb Z (hK _ ?_)))
   refine Qj (Qd (kp3 Z Z Z) (QR fun K hK => Qb Z (Q9 Z Z (by first | exact Qs (by omega) (by omega) | rfl) (Qb Z (hK _ ?_)))))
   refine Qm (i + 1, n * (((w[i]'(by omega)).cs.length : Int) + 1)) ?_ ?_ ?_
   ·exact Q1 (l := [1, 3, 4]) (lH := [1]) (kp3 rfl rfl rfl) (Qi rfl Qp) rfl rfl rfl
   ·exact ⟨by omega, (Qpv hI2 h2 (hw.csLen (by omega))).1, by rw [hI3, Qs9 (by omega) h2]⟩
   ·show w.length - (i + 1) < w.length - i; omega
  ·try rw [h2]
   try simp only [qA] at h2
   refine Zf (QK (Qz (QH (Qd (kp1 Z) (Qe fun K hK => Qb Z (Qb Z (hK _ _ (Qa (kp1 Z) ?_))))))))
   refine Qt (Qy Z ?_)
   rw [hI3, Qsp (by omega)]
 ·try rw [h1]
  try simp only [qA] at h1
  refine Qq Z (Qq Z (Qh Z Z (hK _ _ (Qa (kp4 Z Z Z Z) ?_))))
  refine Zq Z (Zf (QK (Qz (QH (Qd (kp1 Z) (Qe fun K hK => Qb Z (Qb Z (hK _ _ (Qa (kp1 Z) ?_)))))))))
  refine Qt (Qy Z ?_)
  rw [hI3, Qsq (by omega)]
theorem Qcd {w : QE} (hw : WSm w) {n : Int} (h0n : 0 <= n) (h1n : n <= 9223372036854775807) : Ok Tryz.prog 12 [Xk w, .int .i64 n] (QX (Qh9 w n)) := by
 refine Ok.ofT Z4 Tryz.func12 Qua (Qvd Z) ?_
 show TW _ _ tf12.body _ _
 have hn := hw.len
 refine Qe fun K hK => Zy Z Z Z (Qb Z (hK _ _ (Qa (kp2 Z Z) ?_)))
 refine Qe fun K hK => Qb Z (hK _ _ (Qa (kp3 Z Z Z) ?_))
 refine QF ?_ -- 0
 refine Qe fun K hK => Qb Z (hK _ _ (Qa (kp4 Z Z Z Z) ?_))
 refine QG ?_
 refine ZH (ι := Nat) (fun i => ⟨[(1, .int .i64 (chN w n i)), (2, .ref 2 0 0), (5, .osl 5 (chL w n i).length), (6, .int .i64 i)], [(2, ⟨[[.sl ((w).map YJ)]], 1, 26, true⟩), (5, ⟨(chL w n i).map (fun x => [.int .i64 x]), 1, 3, true⟩)]⟩) (fun i => i <= w.length) (fun i => w.length - i) 0 ?_ ?_ ?_
 ·exact le_trans (Y0 5 5 1 3 rfl rfl) (Q1 (l := [1, 2, 5, 6]) (lH := [2, 5]) (kp4 rfl rfl rfl rfl) (Qi rfl (Qi rfl Qp)) rfl rfl rfl)
 ·exact Qvp _
 intro i hI
 have hlen := QmK w n i
 have hbd := QmN (w := w) h0n i
 try dsimp only
 refine QF ?_ -- 1
 refine Qe fun K hK => Qb Z (Qg Z Z (QC Z Z Z ?_))
 first | refine Q0 rfl Zb ?_ | refine Q0 rfl rfl ?_
 refine Z8 Z Z (hK _ _ (Qa (kp5 Z Z Z Z Z) ?_))
 refine Qx Z (fun h1 => ?_) (fun h1 => ?_)
 ·try rw [h1]
  try simp only [qA] at h1
  refine Qu (Qd (kp4 Z Z Z Z) ?_)
  refine QF ?_ -- 2
  refine QG (Qe fun K hK => Qg Z Z (QC Z Z Z (Qb Z (QM Z Z Z (by omega) (Zk (by omega)) Z (Zd Z Z (QC Z Z Z ?_))))))
  first | refine Q0 rfl Zb ?_ | refine Q0 rfl rfl ?_
  refine Q9 Z Z (Qs (by omega) (by have := hw.csLen (show i < w.length by omega); omega)) (Qb Z (hK _ _ (Qa (kp5 Z Z Z Z Z) ?_)))
  refine Qe fun K hK => Qb Z (Qb Z (Qb Z (Qol Z Z (by omega) (Qdm Z Z (Qrk (hw.csLen (by omega))) (QP Z Z (QaN Z Z (fun _ h => Qah Z Z Z h) Z (by simp) Z Z Z (by simp; omega) (by simp; omega) (Qb Z (hK _ _ (Qa (kp5 Z Z Z Z Z) ?_)))))))))
  refine QR fun K hK => Qb Z (Qb Z (QsM Z Z (by omega) (Qrj hbd.1 (by omega)) (Qb Z (hK _ ?_))))
  refine Qj (Qd (kp4 Z Z Z Z) (QR fun K hK => Qb Z (Q9 Z Z (by first | exact Qs (by omega) (by omega) | rfl) (Qb Z (hK _ ?_)))))
  refine Qm (i + 1) ?_ ?_ ?_
  ·exact Q1 (l := [1, 2, 5, 6]) (lH := [2, 5]) (kp4 rfl rfl rfl rfl) (Qi rfl (Qi rfl Qp)) (by rw [QmM (by omega), QrV (by omega), List.length_append]; rfl) (by rw [QmM (by omega), List.map_append]; rfl) rfl
  ·omega
  ·first | omega | (simp only; omega) | (dsimp only; omega)
 ·try rw [h1]
  try simp only [qA] at h1
  refine Zf (QK (Qz (QH (Qd (kp1 Z) (Qe fun K hK => Qb Z (Qb Z (hK _ _ (Qa (kp1 Z) ?_))))))))
  refine Qt ?_
  exact Qfx rfl rfl rfl (by simp) (by rw [Qh9, show w.length = i by omega]; rfl)
theorem QcI {v : Int} (h0 : -1 <= v) (h1v : v <= 60) : Ok Tryz.prog 71 [.int .i64 v] (.int .i64 (2 ^ (v + 1).toNat)) := by
 refine Ok.ofT Z4 Tryz.func71 QuO (Qvd Z) ?_
 show TW _ _ tf71.body _ _
 refine Qe fun K hK => Qb Z (hK _ _ (Qa (kp1 Z) ?_))
 refine Qe fun K hK => Qb Z (Q9 Z Z (by first | exact Qs (by omega) (by omega) | rfl) (QlS Z Z (by omega) (Qez (by omega)) (Qb Z (hK _ _ (Qa (kp1 Z) ?_)))))
 refine Qt (Qy Z ?_)
 rfl
theorem Qg8 {w : QE} (hw : WSm w) {u : Int} : Ok Tryz.prog 70 [Xk w, .int .i64 u] (.bool (inW w u)) := by
 refine Ok.ofT Z4 Tryz.func70 QuN (Qvd Z) ?_
 show TW _ _ tf70.body _ _
 refine Qe fun K hK => Zy Z Z Z (Qb Z (hK _ _ (Qa (kp2 Z Z) ?_)))
 refine Qe fun K hK => Qb Z (QeV Z Z (Qb Z ?_))
 refine Qv (g := 7) Z (fun h1 => ?_) (fun h1 => ?_)
 ·try rw [h1]
  try simp only [qA] at h1
  refine Qf Z (Qb Z (Qf Z (Qg Z Z (Qf Z (QC Z Z Z (Qf Z ?_))))))
  first | refine Q0 rfl Zb ?_ | refine Q0 rfl rfl ?_
  refine Qf Z (Z8 Z Z (Qh Z Z (Qb Z (hK _ _ (Qa (kp1 Z) ?_)))))
  refine Qt (Ql Z ?_)
  first | rfl | (rw [Qnk (by omega)]; done) | (rw [inW, decide_eq_true h1, Bool.true_and])
 ·try rw [h1]
  try simp only [qA] at h1
  refine Qq Z (Qq Z (Qq Z (Qq Z (Qq Z (Qh Z Z (Qb Z (hK _ _ (Qa (kp1 Z) ?_))))))))
  refine Qt (Ql Z ?_)
  first | rfl | (rw [Qnk (by omega)]; done) | (rw [inW, decide_eq_true h1, Bool.true_and])
theorem QfP {w : QE} (hw : WSm w) {u : Int} : Ok Tryz.prog 41 [Xk w, .int .i64 u] (.int .i64 (X4 w u)) := by
 refine Ok.ofT Z4 Tryz.func41 Qus (Qvd Z) ?_
 show TW _ _ tf41.body _ _
 refine Qe fun K hK => Zy Z Z Z (Qb Z (hK _ _ (Qa (kp2 Z Z) ?_)))
 refine QF ?_ -- 0
 refine Qe fun K hK => QB (cs := [_]) Z Z Z Z (Qb Z (QA (Qg8 hw) Z Z (.inr Z) (ZP Z (hK _ _ (Qa (kp3 Z Z Z) ?_)))))
 refine Qx Z (fun h1 => ?_) (fun h1 => ?_)
 ·try rw [h1]
  try simp only [qA] at h1
  try have h1b := Qf6.1 h1
  refine Qe fun K hK => Qb Z (hK _ _ (Qa (kp1 Z) ?_))
  refine Qt (Qk (Qy Z ?_))
  rw [Qm8.2 h1]
 ·try rw [h1]
  try simp only [qA] at h1
  try have h1b := Qf6.1 h1
  refine Qu (Qd (kp2 Z Z) (Qe fun K hK => Qg Z Z (QC Z Z Z (Qb Z (QM Z Z Z (by omega) (Zz (by omega) (by omega)) Z (Zd Z Z (QC Z Z Z ?_)))))))
  first | refine Q0 rfl Zb ?_ | refine Q0 rfl rfl ?_
  refine QA (QcI (by omega) (by have := hw.cs _ (Qvi (show u.toNat < w.length by omega)); omega)) Z Z (.inr Z) (Qdm Z Z (QjQ (by have := hw.cs _ (Qvi (show u.toNat < w.length by omega)); omega)) (Qb Z (hK _ _ (Qa (kp1 Z) ?_))))
  refine Qt (Qy Z ?_)
  rw [Qef h1b.1 h1b.2, show min (w[u.toNat]'(by omega)).cs.length 16 = (w[u.toNat]'(by omega)).cs.length from Nat.min_eq_left (hw.cs _ (Qvi _)), Qp8]
end Go.Proofs
namespace M25
open Go Go.Abs M3
/-! ### prop: what is left of each unit, scans -/
structure QrB (w : QE) (db : List (List ZY)) (l : List Qbz) (a : Nat) (k : Nat) : Prop where
  ha : a < db.length
  hk : k < db[a].length
  eq : Qs3 w db l = ((a : Int), db[a][k].u)
  one : Qjq (QgW w l db[a][k].u) db[a][k].m = 1
  two : ∀ j, ∀ hj : j < db[a].length, j ≠ k -> Qjq (QgW w l db[a][j].u) db[a][j].m = 2
def Qt2 (w : QE) (l : List Qbz) (t : ZY) (c : Int) : Qbz := ⟨t.u, Qg6 (QgW w l t.u) t.m, Qr9 l, c⟩
end M25
namespace M25
open Go Go.Abs M3
/-! ### Sets that are made: moderate sizes -/
theorem QoK (l : List (Cu × Cu)) (x y : Cu) : (Qct l x y).length <= l.length + 1 := Qjn l x y
theorem QhW (f : Cu -> Cu -> Bool) : ∀ (c : List Cu) (out : List (Cu × Cu)), (∀ x ∈ c, Cu.sm x) -> (∀ s ∈ out, Cu.sm s.1 /\ Cu.sm s.2) -> (Qcs f c out).length <= out.length + c.length /\ ∀ s ∈ Qcs f c out, Cu.sm s.1 /\ Cu.sm s.2
 | [], out, _, h => ⟨by simp [Qcs], by simpa [Qcs] using h⟩
 | [x], out, _, h => ⟨by simp [Qcs], by simpa [Qcs] using h⟩
 | x :: y :: r, out, hc, h => by
  rw [Qcs]
  have hxy := QoK out x y
  split
  ·obtain ⟨h1, h2⟩ := QhW f (y :: r) (Qct out x y) (fun z hz => hc z (by simp at hz ⊢; exact .inr hz)) (Qll h (hc x (by simp)) (hc y (by simp)))
   exact ⟨by simp only [List.length_cons] at h1 ⊢; omega, h2⟩
  ·obtain ⟨h1, h2⟩ := QhW f (y :: r) out (fun z hz => hc z (by simp at hz ⊢; exact .inr hz)) h
   exact ⟨by simp only [List.length_cons] at h1 ⊢; omega, h2⟩
def SmN (n : Nat) (l : List (Cu × Cu)) : Prop := l.length <= n /\ ∀ s ∈ l, Cu.sm s.1 /\ Cu.sm s.2
theorem SmN.sm {n : Nat} {l : List (Cu × Cu)} (h : SmN n l) (hn : n <= 1000000) : Sm l := ⟨Qvw h.1 hn, h.2⟩
theorem SmN.up {n m : Nat} {l : List (Cu × Cu)} (h : SmN n l) (hn : n <= m) : SmN m l := ⟨Qvw h.1 hn, h.2⟩
theorem SmN.nil (n : Nat) : SmN n [] := ⟨Qvp _, by simp⟩
theorem QpX {a b : List (Cu × Cu)} {n m : Nat} (ha : SmN n a) (hb : SmN m b) (h : n + m <= 1000000) : SmN (2 + 2 * (n + m)) (QpU a b) := by
 unfold QpU
 split
 ·have hab : Sm (a ++ b) := (ha.sm (by omega)).app (hb.sm (by omega)) (by have := ha.1; have := hb.1; omega)
  unfold Qko
  split
  ·obtain ⟨h1, h2⟩ := QhW (mIn (a ++ b)) (Xb (a ++ b)) [] (YM hab) (by simp)
   have := Qcr (a ++ b)
   have := ha.1
   have := hb.1
   exact ⟨by simp only [List.length_nil, List.length_append] at *; omega, h2⟩
  ·exact SmN.nil _
 ·exact SmN.nil _
theorem QnA {a : List (Cu × Cu)} {n : Nat} (ha : SmN n a) (h : n <= 1000000) : SmN (2 + 2 * n) (Qkp a) := by
 unfold Qkp
 split
 ·obtain ⟨h1, h2⟩ := QhW (fun x y => !mIn a x y) (Xb a) [] (YM (ha.sm h)) (by simp)
  have := Qcr a
  have := ha.1
  exact ⟨by simp only [List.length_nil] at *; omega, h2⟩
 ·exact SmN.nil _
def QlT (n : Nat) (s : QeW) : Prop := SmN n s.1 /\ SmN n s.2
theorem Qsf {a b : QeW} {n m : Nat} (ha : QlT n a) (hb : QlT m b) (h : n + m <= 1000000) : QlT (2 + 2 * (n + m)) (QpV a b) := by
 unfold QpV
 split
 ·exact ⟨QpX ha.1 hb.1 h, QpX ha.2 hb.2 h⟩
 ·exact ⟨SmN.nil _, SmN.nil _⟩
theorem QnB {a : QeW} {n : Nat} (ha : QlT n a) (h : n <= 1000000) : QlT (2 + 2 * n) (Qib a) := by
 unfold Qib
 split
 ·exact ⟨QnA ha.1 h, QnA ha.2 h⟩
 ·exact ⟨SmN.nil _, SmN.nil _⟩
theorem Qc1 (e a b c : Int) (f : Bool) : Cu.sm ⟨e, a, b, c, [], [], f⟩ := ⟨Qvp _, Qvp _⟩
theorem QcO {a b c : Int} {p q : List UInt8} (hp : p.length <= 1000000) : QlT 1 (Xw a b c p q) := by
 unfold Xw
 split
 ·exact ⟨SmN.nil _, SmN.nil _⟩
 ·split
  ·refine ⟨SmN.nil _, ⟨Nat.le_refl _, fun s hs => ?_⟩⟩
   simp only [Qvm] at hs; subst hs
   exact ⟨⟨hp, Qvp _⟩, ⟨hp, Qvp _⟩⟩
  ·refine ⟨⟨Nat.le_refl _, fun s hs => ?_⟩, SmN.nil _⟩
   simp only [Qvm] at hs; subst hs
   constructor
   ·unfold Qgh; split
    ·exact Qc1 ..
    ·exact Qc1 ..
   ·unfold Qee; split
    ·exact Qc1 ..
    ·exact Qc1 ..
def QgL : QeW := ([(Qdg, QgT)], [(Qdg, QgT)])
theorem QkR : QlT 1 QgL := by
 have h : SmN 1 [(Qdg, QgT)] := ⟨Nat.le_refl _, fun s hs => by simp only [Qvm] at hs; subst hs; exact ⟨Qc1 .., Qc1 ..⟩⟩
 exact ⟨h, h⟩
def bnd (i : Nat) : Nat := 4 * 2 ^ i
theorem QpG {i : Nat} (h : i <= 16) : bnd i <= 262144 := by
 have : 2 ^ i <= 2 ^ 16 := Nat.pow_le_pow_right (by omega) h
 have e : (2 : Nat) ^ 16 = 65536 := by decide
 unfold bnd; omega
theorem Qsm {s : QeW} {i : Nat} (h : QlT (bnd i - 4) s) {a b c : Int} {p q : List UInt8} (hp : p.length <= 1000000) (hi : i <= 16) : QlT (bnd (i + 1) - 4) (QpV s (Xw a b c p q)) := by
 have h1 := QpG hi
 have h4 : 4 <= bnd i := by unfold bnd; have := Nat.one_le_two_pow (n := i); omega
 have := Qsf h (QcO (a := a) (b := b) (c := c) (q := q) hp) (by omega)
 have e : bnd (i + 1) = 2 * bnd i := by unfold bnd; rw [Nat.pow_succ]; omega
 exact ⟨this.1.up (by omega), this.2.up (by omega)⟩
theorem Qpq {s : QeW} {i : Nat} (h : QlT (bnd i - 4) s) : QlT (bnd (i + 1) - 4) s := by
 have e : bnd (i + 1) = 2 * bnd i := by unfold bnd; rw [Nat.pow_succ]; omega
 exact ⟨h.1.up (by omega), h.2.up (by omega)⟩
def SetOk (s : QeW) : Prop := QlT 600000 s
theorem SetOk.sm {s : QeW} (h : SetOk s) : Sm s.1 /\ Sm s.2 := ⟨h.1.sm (by omega), h.2.sm (by omega)⟩
structure CR where
 v : Vr
 x : D
 y : D
 z : D
def dCR (r : CR) : List D := [.int .i64 r.v.a, .int .i64 r.v.b, .int .i64 r.v.c, .str r.v.p, .str r.v.q, r.x, r.y, r.z]
def CR.ren (r : CR) : CR := ⟨r.v, r.x.renS upN, r.y.renS upN, r.z.renS upN⟩
theorem QmQ (l : List CR) : (l.map dCR).map (fun r => r.map (D.renS upN)) = (l.map CR.ren).map dCR := by
 rw [List.map_map, List.map_map]; rfl
structure UR where
 n : List UInt8
 f : List UInt8
 k : Nat
 cs : List CR
def dUR (u : UR) : List D := [.str u.n, .str u.f, .osl u.k u.cs.length]
def UR.ren (u : UR) : UR := ⟨u.n, u.f, upN u.k, u.cs.map CR.ren⟩
theorem QqB (l : List UR) : (l.map dUR).map (fun r => r.map (D.renS upN)) = (l.map UR.ren).map dUR := by
 rw [List.map_map, List.map_map]
 refine List.map_congr_left fun u _ => ?_
 simp [dUR, UR.ren, D.renS]
structure Fam (H : List (Nat × Box)) (kg ku eu ec : Nat) (us : List UR) : Prop where
 ne : ku ≠ kg
 u : ∃ pr, lk H ku = some ⟨us.map dUR, 3, eu, pr⟩
 c : ∀ y ∈ us, y.k ≠ kg /\ ∃ pr, lk H y.k = some ⟨y.cs.map dCR, 8, ec, pr⟩
 v : ∀ y ∈ us, y.cs.length <= 16 /\ ∀ z ∈ y.cs, QgH z.v
theorem Fam.up {H : List (Nat × Box)} {kg ku eu ec : Nat} {us : List UR} (h : Fam H kg ku eu ec us) : Fam (upH H) (upN kg) (upN ku) eu ec (us.map UR.ren) := by
 obtain ⟨h1, ⟨pu, h2⟩, h3, h4⟩ := h
 refine ⟨fun e => h1 (Qiu e), ⟨pu, ?_⟩, fun y hy => ?_, fun y hy => ?_⟩
 ·rw [Qa0, h2, Option.map_some, Box.ren, QqB]
 ·obtain ⟨u, hu, rfl⟩ := Qvr.1 hy
  obtain ⟨q1, pr, q2⟩ := h3 u hu
  refine ⟨fun e => q1 (Qiu e), pr, ?_⟩
  show lk (upH H) (upN u.k) = _
  rw [Qa0, q2, Option.map_some, Box.ren, QmQ]; rfl
 ·obtain ⟨u, hu, rfl⟩ := Qvr.1 hy
  obtain ⟨q1, q2⟩ := h4 u hu
  refine ⟨by simpa [UR.ren] using q1, fun z hz => ?_⟩
  obtain ⟨z0, hz0, rfl⟩ := Qvr.1 hz
  exact q2 z0 hz0
theorem Fam.cons {H : List (Nat × Box)} {kg ku eu ec : Nat} {us : List UR} (h : Fam H kg ku eu ec us) {b : Box} : Fam ((kg, b) :: H) kg ku eu ec us := by
 obtain ⟨h1, ⟨pu, h2⟩, h3, h4⟩ := h
 exact ⟨h1, ⟨pu, Qo (Ne.symm h1) h2⟩, fun y hy => let ⟨q1, pr, q2⟩ := h3 y hy; ⟨q1, pr, Qo (Ne.symm q1) q2⟩, h4⟩
def WantIn (n : Nat) (x : WantT) : Prop := 1 <= x.u /\ x.u < n /\ SetOk x.s
def QiK (n : Nat) (r : List WantT) : Prop := r.length <= 2 /\ ∀ x ∈ r, WantIn n x
def QfE (n : Nat) (m : Int) (ns : List (List WantT)) : Prop := (ns.length : Int) <= m /\ ∀ r ∈ ns, QiK n r
theorem Qq5 {n : Nat} {x : WantT} (h : WantIn n x) : QiK n [x] := ⟨by simp, by intro y hy; simp only [Qvm] at hy; subst hy; exact h⟩
theorem Qq6 {n : Nat} {x y : WantT} (h : WantIn n x) (h' : WantIn n y) : QiK n [x, y] := ⟨by simp, by
 intro z hz
 simp only [Qvf, Qve, or_false] at hz
 rcases hz with rfl | rfl
 ·exact h
 ·exact h'⟩
theorem QnS {n : Nat} {ns : List (List WantT)} {r : List WantT} (h : ∀ r ∈ ns, QiK n r) (hr : QiK n r) : ∀ x ∈ ns ++ [r], QiK n x := fun x hx => by
 rcases Qvo.1 hx with hx | hx
 ·exact h x hx
 ·simp only [Qvm] at hx; subst hx; exact hr
end M25
namespace M25
open Go Go.Abs M3
/-! ### The boxes of a world under way -/
def fbx (ec : Nat) (us : List UR) : List (Nat × Box) := us.map fun u => (u.k, ⟨u.cs.map dCR, 8, ec, true⟩)
def Ym (us : List UR) : Prop := ∀ j, ∀ h : j < us.length, us[j].k = 500001 + j
theorem Qjh {us : List UR} {u : UR} (h : Ym us) (hu : u.k = 500001 + us.length) : Ym (us ++ [u]) := fun j hj => by
 rw [List.length_append, List.length_singleton] at hj
 by_cases e : j < us.length
 ·rw [List.getElem_append_left e]; exact h j e
 ·have : j = us.length := by omega
  subst this
  rw [List.getElem_append_right (Nat.le_refl _)]; simpa using hu
theorem QfY (ec : Nat) (us : List UR) : Qoi (fbx ec us) := fun p hp => by
 obtain ⟨u, _, rfl⟩ := Qvr.1 hp; rfl
theorem Qho {ec : Nat} : ∀ {us : List UR} {k : Nat} {b : Box}, lk (fbx ec us) k = some b -> ∃ u ∈ us, k = u.k /\ b = ⟨u.cs.map dCR, 8, ec, true⟩
 | [], _, _, h => by cases h
 | u :: us, k, b, h => by
  simp only [fbx, List.map_cons] at h
  rw [Qn] at h
  split at h
  ·rename_i e; cases h; exact ⟨u, by simp, e.symm, rfl⟩
  ·obtain ⟨v, hv, q⟩ := Qho (us := us) h
   exact ⟨v, by simp [hv], q⟩
theorem QbK {us : List UR} (h : Ym us) {u : UR} (hu : u ∈ us) : 500001 <= u.k /\ u.k < 500001 + us.length := by
 obtain ⟨j, hj, rfl⟩ := Qvz hu
 have := h j hj
 omega
theorem QhU {ec : Nat} {us : List UR} (h : Ym us) : QtW 500001 (fbx ec us) := fun k b hk => by
 obtain ⟨u, hu, rfl, _⟩ := Qho hk
 exact (QbK h hu).1
theorem Y9 {ec : Nat} {us : List UR} (h : Ym us) {k : Nat} (hk : k < 500001 \/ 500001 + us.length <= k) : lk (fbx ec us) k = none := by
 cases hh : lk (fbx ec us) k with
 | none => rfl
 | some b =>
  obtain ⟨u, hu, rfl, _⟩ := Qho hh
  have := QbK h hu
  omega
theorem Qm1 {ec : Nat} : ∀ {us : List UR} {n : Nat}, (∀ j, ∀ h : j < us.length, us[j].k = n + j) -> ∀ j, ∀ h : j < us.length, lk (fbx ec us) (n + j) = some ⟨us[j].cs.map dCR, 8, ec, true⟩
 | [], _, _, j, hj => by simp at hj
 | u :: us, n, hk, 0, _ => by
  have := hk 0 (by simp)
  simp only [List.getElem_cons_zero, Nat.add_zero] at this
  simp only [fbx, List.map_cons, Nat.add_zero]
  rw [Qn, if_pos this]; rfl
 | u :: us, n, hk, j + 1, hj => by
  have h0 := hk 0 (by simp)
  simp only [List.getElem_cons_zero, Nat.add_zero] at h0
  simp only [fbx, List.map_cons]
  rw [Qn, if_neg (by omega)]
  have := Qm1 (ec := ec) (us := us) (n := n + 1) (fun i hi => by
   have := hk (i + 1) (by simpa using hi)
   simp only [List.getElem_cons_succ] at this
   omega) j (by simpa using hj)
  rw [show n + 1 + j = n + (j + 1) by omega] at this
  simp only [List.getElem_cons_succ]
  exact this
theorem Qm0 {ec : Nat} {us : List UR} (h : Ym us) {j : Nat} (hj : j < us.length) : lk (fbx ec us) (500001 + j) = some ⟨us[j].cs.map dCR, 8, ec, true⟩ := Qm1 h j hj
theorem Qk4 (ec : Nat) (us : List UR) (u : UR) : fbx ec (us ++ [u]) = fbx ec us ++ [(u.k, ⟨u.cs.map dCR, 8, ec, true⟩)] := by simp [fbx]
theorem QoD {ec : Nat} {us : List UR} (h : Ym us) {kg : Nat} {x y : Box} {u : UR} (hu : u.k = 500001 + us.length) (hkg : u.k ≠ kg) (k : Nat) :
  lk ((u.k, ⟨u.cs.map dCR, 8, ec, true⟩) :: (500000, x) :: (kg, y) :: fbx ec us) k = lk ((500000, x) :: (kg, y) :: fbx ec (us ++ [u])) k := by
 rw [Qk4]
 by_cases e : u.k = k
 ·subst e
  rw [QD, Qn, if_neg (by omega), Qn, if_neg (Ne.symm hkg), Xa (Y9 h (.inr (by omega))), QD]
 ·rw [Qn, if_neg e, Qn, Qn, Qn, Qn]
  split
  ·rfl
  ·split
   ·rfl
   ·rw [Z1]
    cases h2 : lk (fbx ec us) k with
    | some v => rfl
    | none => rw [Qn, if_neg e]; rfl
def zr (v : Vr) (sh : Int) : CR := ⟨v, .int .i64 sh, .fsl [], .fsl []⟩
def Qry (u : UR) : Prop := u.cs.length <= 4 /\ ∀ z ∈ u.cs, ∃ v sh, z = zr v sh /\ QgH v
theorem QpN {u : UR} : (dUR u).flatMap D.sid = [u.k] := by simp [dUR, D.sid]
theorem QbV {us : List UR} {e et : Nat} {k : Nat} (h : k ∈ (Box.ids ⟨us.map dUR, e, et, false⟩)) : ∃ u ∈ us, k = u.k := by
 simp only [Box.ids, Qvl, if_false, Qvk, Qvr] at h
 obtain ⟨r, ⟨u, hu, rfl⟩, hk⟩ := h
 have : k ∈ (dUR u).flatMap D.sid := Qvk.2 hk
 rw [QpN] at this
 exact ⟨u, hu, by simpa using this⟩
theorem Qrh {us : List UR} (h : Ym us) : ∀ r ∈ us.map dUR, ∀ d ∈ r, 500000 ∉ d.sid := fun r hr d hd hk => by
 obtain ⟨u, hu, rfl⟩ := Qvr.1 hr
 have : 500000 ∈ (dUR u).flatMap D.sid := Qvk.2 ⟨d, hd, hk⟩
 rw [QpN] at this
 have h2 := QbK h hu
 simp only [Qvm] at this
 omega
theorem QhI {B F : List (Nat × Box)} {j : Nat} (h : (lk F j).isSome = true) : (lk (B ++ F) j).isSome = true := by
 rw [Z1]; split
 ·rfl
 ·exact h
theorem Qd4 {ec : Nat} {us : List UR} (h : Ym us) {u : UR} (hu : u ∈ us) : (lk (fbx ec us) u.k).isSome = true := by
 obtain ⟨j, hj, rfl⟩ := Qvz hu
 rw [h j hj, Qm0 h hj]; rfl
theorem QhV {ec : Nat} {us : List UR} {u : UR} (h : Ym us) (hu : u.k = 500001 + us.length) : lk (fbx ec (us ++ [u])) (500001 + us.length) = some ⟨u.cs.map dCR, 8, ec, true⟩ := by
 rw [Qk4, Xa (Y9 h (.inr (Nat.le_refl _))), <- hu, QD]
section
variable {l : List Nat} {fr fr1 fr' : List (Nat × D)} {B : List (Nat × Box)} {kg eg eu ec : Nat} {L : List Int} {J : Int} {us : List UR}
theorem QtZ (hf : Zt l fr = fr1) (ef : fr1 = fr') (hK : Ym us) (hu : lk B 500000 = some ⟨us.map dUR, 3, eu, false⟩) (hg : lk B kg = some (gB L J eg)) (hB : ∀ p ∈ B, 500001 <= p.1 -> p.1 = kg) (hkg : kg ≠ 500000)
  (hfr : ∀ p ∈ fr', ∀ k ∈ p.2.ids, k = 500000 \/ k = kg \/ ∃ u ∈ us, k = u.k) : St.le ⟨fr, B ++ fbx ec us⟩ ⟨fr', [(500000, ⟨us.map dUR, 3, eu, false⟩), (kg, gB L J eg)] ++ fbx ec us⟩ := by
 have s0 : ∀ k, (k = 500000 \/ k = kg \/ ∃ u ∈ us, k = u.k) -> (lk ([(500000, (⟨us.map dUR, 3, eu, false⟩ : Box)), (kg, gB L J eg)] ++ fbx ec us) k).isSome = true := fun k hk => by
  rcases hk with rfl | rfl | ⟨u, hu, rfl⟩
  ·exact Q3
  ·exact QZ Q3
  ·exact QhI (Qd4 hK hu)
 refine Qkn (N := 500001) hf ef (fun p hp => ?_) rfl (fun p hp j hj => s0 j ?_) (fun p hp h => ?_) (QhU hK) (QfY ec us) (fun p hp k hk => s0 k (hfr p hp k hk))
 ·simp only [Qvf, Qve, or_false] at hp
  rcases hp with rfl | rfl
  ·exact hu
  ·exact hg
 ·simp only [Qvf, Qve, or_false] at hp
  rcases hp with rfl | rfl
  ·exact .inr (.inr (QbV hj))
  ·simp [Box.ids, gB] at hj
 ·rw [hB p hp h]; exact QZ Q3
theorem Qrw {cs : List CR} (hf : Zt l fr = fr1) (ef : fr1 = fr') (hK : Ym us) (hc : lk B (500001 + us.length) = some ⟨cs.map dCR, 8, ec, true⟩) (hu : lk B 500000 = some ⟨us.map dUR, 3, eu, false⟩) (hg : lk B kg = some (gB L J eg)) (hB : ∀ p ∈ B, 500001 <= p.1 -> p.1 = kg \/ p.1 = 500001 + us.length)
  (hfr : ∀ p ∈ fr', ∀ k ∈ p.2.ids, k = 500000 \/ k = kg \/ k = 500001 + us.length \/ ∃ u ∈ us, k = u.k) : St.le ⟨fr, B ++ fbx ec us⟩ ⟨fr', [(500001 + us.length, ⟨cs.map dCR, 8, ec, true⟩), (500000, ⟨us.map dUR, 3, eu, false⟩), (kg, gB L J eg)] ++ fbx ec us⟩ := by
 have s0 : ∀ k, (k = 500000 \/ k = kg \/ k = 500001 + us.length \/ ∃ u ∈ us, k = u.k) -> (lk ([(500001 + us.length, (⟨cs.map dCR, 8, ec, true⟩ : Box)), (500000, (⟨us.map dUR, 3, eu, false⟩ : Box)), (kg, gB L J eg)] ++ fbx ec us) k).isSome = true := fun k hk => by
  rcases hk with rfl | rfl | rfl | ⟨u, hu, rfl⟩
  ·exact QZ Q3
  ·exact QZ (QZ Q3)
  ·exact Q3
  ·exact QhI (Qd4 hK hu)
 refine Qkn (N := 500001) hf ef (fun p hp => ?_) rfl (fun p hp j hj => s0 j ?_) (fun p hp h => ?_) (QhU hK) (QfY ec us) (fun p hp k hk => s0 k (hfr p hp k hk))
 ·simp only [Qvf, Qve, or_false] at hp
  rcases hp with rfl | rfl | rfl
  ·exact hc
  ·exact hu
  ·exact hg
 ·simp only [Qvf, Qve, or_false] at hp
  rcases hp with rfl | rfl | rfl
  ·simp [Box.ids] at hj
  ·exact .inr (.inr (.inr (QbV hj)))
  ·simp [Box.ids, gB] at hj
 ·rcases hB p hp h with e | e
  ·rw [e]; exact QZ (QZ Q3)
  ·rw [e]; exact Q3
theorem Qsu {u : UR} (hf : Zt l fr = fr1) (ef : fr1 = fr') (hK : Ym us) (huk : u.k = 500001 + us.length) (hc : lk B (500001 + us.length) = some ⟨u.cs.map dCR, 8, ec, true⟩) (hu : lk B 500000 = some ⟨(us ++ [u]).map dUR, 3, eu, false⟩) (hg : lk B kg = some (gB L J eg)) (hB : ∀ p ∈ B, 500001 <= p.1 -> p.1 = kg \/ p.1 = 500001 + us.length) (hkg : 1000000 <= kg) (hlen : us.length <= 100)
  (hfr : ∀ p ∈ fr', ∀ k ∈ p.2.ids, k = 500000 \/ k = kg \/ ∃ v ∈ us ++ [u], k = v.k) : St.le ⟨fr, B ++ fbx ec us⟩ ⟨fr', [(500000, ⟨(us ++ [u]).map dUR, 3, eu, false⟩), (kg, gB L J eg)] ++ fbx ec (us ++ [u])⟩ := by
 have hK1 := Qjh hK huk
 have mv := fun k => QoD (ec := ec) hK (kg := kg) (x := ⟨(us ++ [u]).map dUR, 3, eu, false⟩) (y := gB L J eg) huk (by omega) k
 have s0 : ∀ k, (k = 500000 \/ k = kg \/ ∃ v ∈ us ++ [u], k = v.k) -> (lk ([(u.k, (⟨u.cs.map dCR, 8, ec, true⟩ : Box)), (500000, (⟨(us ++ [u]).map dUR, 3, eu, false⟩ : Box)), (kg, gB L J eg)] ++ fbx ec us) k).isSome = true := fun k hk => by
  show (lk ((u.k, _) :: (500000, _) :: (kg, _) :: fbx ec us) k).isSome = true
  rw [mv]
  rcases hk with rfl | rfl | ⟨v, hv, rfl⟩
  ·exact Q3
  ·exact QZ Q3
  ·exact QZ (QZ (Qd4 hK1 hv))
 refine le_trans (Qkn (N := 500001) (A' := [(u.k, ⟨u.cs.map dCR, 8, ec, true⟩), (500000, ⟨(us ++ [u]).map dUR, 3, eu, false⟩), (kg, gB L J eg)]) hf ef (fun p hp => ?_) rfl (fun p hp j hj => s0 j ?_) (fun p hp h => ?_) (QhU hK) (QfY ec us) (fun p hp k hk => s0 k (hfr p hp k hk))) (Qkm ⟨fun _ => rfl, mv⟩)
 ·simp only [Qvf, Qve, or_false] at hp
  rcases hp with rfl | rfl | rfl
  ·rw [huk]; exact hc
  ·exact hu
  ·exact hg
 ·simp only [Qvf, Qve, or_false] at hp
  rcases hp with rfl | rfl | rfl
  ·simp [Box.ids] at hj
  ·exact .inr (.inr (QbV hj))
  ·simp [Box.ids, gB] at hj
 ·rcases hB p hp h with e | e
  ·rw [e]; exact QZ (QZ Q3)
  ·rw [e, <- huk]; exact Q3
end
def u0 (v : Vr) : UR := ⟨[], [], 500001, [zr v (-1)]⟩
def v0 : Vr := ⟨0, 0, 0, [], []⟩
theorem Qpu {kg a b : Nat} (h : 1000000 <= kg) (ha : a < 1000000) (hb : b < 1000000) : QaL a b kg = kg := by
 unfold QaL; rw [if_neg (by omega), if_neg (by omega)]
theorem Qns {l : List Nat} {fr fr1 fr' : List (Nat × D)} {kg eg eu ec : Nat} {L : List Int} {I : Int} (hkg : 1000000 <= kg) (hf : Zt l fr = fr1) (ef : fr1.map (fun p => (p.1, (p.2.ren (QaL 18 500000)).ren (QaL 16 500001))) = fr') :
  St.le ⟨fr, [(18, ⟨[[.str [], .str [], .osl 16 1]], 3, eu, false⟩), (16, ⟨[dCR (zr v0 (-1))], 8, ec, true⟩), (kg, gB L I eg)]⟩ ⟨fr', [(500000, ⟨[u0 v0].map dUR, 3, eu, false⟩), (kg, gB L I eg)] ++ fbx ec [u0 v0]⟩ := by
 subst hf ef
 have k1 := Qpu (a := 18) (b := 500000) hkg (by decide) (by decide)
 have k2 := Qpu (a := 16) (b := 500001) hkg (by decide) (by decide)
 refine le_trans (Qco l fr _) (le_trans (Qh7 18 500000 (by decide) (by decide) _) (le_trans (Qh7 16 500001 (by decide) (by decide) _) ?_))
 have hH : ∀ k, lk ([(500000, (⟨[u0 v0].map dUR, 3, eu, false⟩ : Box)), (kg, gB L I eg)] ++ fbx ec [u0 v0]) k = lk (QcE (QaL 16 500001) (QcE (QaL 18 500000) [(18, ⟨[[.str [], .str [], .osl 16 1]], 3, eu, false⟩), (16, ⟨[dCR (zr v0 (-1))], 8, ec, true⟩), (kg, gB L I eg)])) k := fun k => by
  have e : QcE (QaL 16 500001) (QcE (QaL 18 500000) [(18, (⟨[[.str [], .str [], .osl 16 1]], 3, eu, false⟩ : Box)), (16, ⟨[dCR (zr v0 (-1))], 8, ec, true⟩), (kg, gB L I eg)]) = [(500000, ⟨[u0 v0].map dUR, 3, eu, false⟩), (500001, ⟨[dCR (zr v0 (-1))], 8, ec, true⟩), (kg, gB L I eg)] := by
   simp only [QcE, List.map_cons, List.map_nil, k1, k2]; rfl
  rw [e]
  show lk ((500000, _) :: (kg, _) :: (500001, _) :: []) k = _
  rw [Qn, Qn, Qn, Qn, Qn, Qn]
  by_cases h1 : 500000 = k
  ·rw [if_pos h1, if_pos h1]
  ·rw [if_neg h1, if_neg h1]
   by_cases h2 : kg = k
   ·rw [if_pos h2, if_neg (by omega), if_pos h2]
   ·rw [if_neg h2, if_neg h2]; rfl
 refine QbL (by simp only [St.ren, List.map_map]; rfl) fun k => (hH k).symm
def names5 : List (List UInt8) := [[97, 110, 116], [98, 101, 101], [99, 111, 119], [100, 111, 103], [101, 108, 107]]
theorem Zg : names5.length = 5 := rfl
theorem Qri : versions.length = 4 := rfl
theorem Qsv {i : Nat} (h : i < versions.length) : QgH versions[i] := by
 have := QkI _ (Qvi h)
 exact ⟨Qvw this.1 (by omega), Qvw this.2 (by omega)⟩
structure UnitsIn (us : List UR) : Prop where
 keys : Ym us
 fresh : ∀ u ∈ us, Qry u
 first : ∃ z rest, us = ⟨[], [], 500001, [z]⟩ :: rest
theorem UnitsIn.zero : UnitsIn [u0 v0] := by
 refine ⟨fun j hj => ?_, fun u hu => ?_, ⟨zr v0 (-1), [], rfl⟩⟩
 ·have : j = 0 := by simp at hj; exact hj
  subst this; rfl
 ·simp only [Qvm] at hu; subst hu
  refine ⟨by simp [u0], fun z hz => ?_⟩
  simp only [u0, Qvm] at hz; subst hz
  exact ⟨v0, -1, rfl, ⟨Qvp _, Qvp _⟩⟩
theorem UnitsIn.snoc {us : List UR} (h : UnitsIn us) {n f : List UInt8} {cs : List CR} (hc : cs.length <= 4) (hz : ∀ z ∈ cs, ∃ v sh, z = zr v sh /\ QgH v) : UnitsIn (us ++ [⟨n, f, 500001 + us.length, cs⟩]) := by
 obtain ⟨h1, h2, z, rest, h3⟩ := h
 refine ⟨Qjh h1 rfl, fun u hu => ?_, z, rest ++ [⟨n, f, 500001 + us.length, cs⟩], by rw [h3]; rfl⟩
 rcases Qvo.1 hu with hu | hu
 ·exact h2 u hu
 ·simp only [Qvm] at hu; subst hu; exact ⟨hc, hz⟩
def CsIn (n : Nat) (cs : List CR) : Prop := cs.length <= n /\ ∀ z ∈ cs, ∃ v sh, z = zr v sh /\ QgH v
theorem CsIn.nil (n : Nat) : CsIn n [] := ⟨Qvp _, by simp⟩
theorem CsIn.keep {n : Nat} {cs : List CR} (h : CsIn n cs) : CsIn (n + 1) cs := ⟨Nat.le_succ_of_le h.1, h.2⟩
theorem CsIn.snoc {n : Nat} {cs : List CR} (h : CsIn n cs) {v : Vr} (hv : QgH v) {sh : Int} : CsIn (n + 1) (cs ++ [zr v sh]) := by
 refine ⟨by simp; exact h.1, fun z hz => ?_⟩
 rcases Qvo.1 hz with hz | hz
 ·exact h.2 z hz
 ·simp only [Qvm] at hz; subst hz; exact ⟨v, sh, rfl, hv⟩
theorem CsIn.at {n : Nat} {cs : List CR} (h : CsIn n cs) {i : Nat} (hi : i < cs.length) : QgH cs[i].v := by
 obtain ⟨v, sh, e, hv⟩ := h.2 _ (Qvi hi)
 rw [e]; exact hv
theorem Qli {α : Type} {k : Nat} {v v' : α} {l : List (Nat × α)} (h : v = v') : lk ((k, v) :: l) k = some v' := by rw [QD, h]
theorem QjJ {us : List UR} {e et : Nat} (h : Ym us) : Box.scrub (500001 + us.length) ⟨us.map dUR, e, et, false⟩ = ⟨us.map dUR, e, et, false⟩ := QjI fun hk => by
 obtain ⟨u, hu, e⟩ := QbV hk
 have := QbK h hu
 omega
theorem QlJ {us : List UR} (h : Ym us) {n f : List UInt8} {k m : Nat} (hk : k ≠ 500000) : ∀ r ∈ us.map dUR ++ [[D.str n, D.str f, D.osl k m]], ∀ d ∈ r, 500000 ∉ d.sid := fun r hr d hd => by
 rcases Qvo.1 hr with hr | hr
 ·exact Qrh h r hr d hd
 ·simp only [Qvm] at hr; subst hr
  simp only [Qvf, Qve, or_false] at hd
  rcases hd with rfl | rfl | rfl <;> simp [D.sid]
  exact Ne.symm hk
theorem Qrg {us : List UR} {u : UR} : (us ++ [u]).map dUR = us.map dUR ++ [dUR u] := by simp
theorem QqA {cs : List CR} {z : CR} : (cs ++ [z]).map dCR = cs.map dCR ++ [dCR z] := by simp
theorem Qbw {us : List UR} (h : Ym us) {kg eu ec : Nat} {g1 g2 g3 : Box} (hkg : 1000000 <= kg) (h1 : g1.pr = true) (h2 : g2.pr = true) (hlen : us.length <= 100) :
  (∀ k, 1000000 <= k -> (lk [(kg, g1)] k).isSome = true -> (lk (((500000, (⟨us.map dUR, 3, eu, false⟩ : Box)) :: fbx ec us) ++ [(kg, g2), (kg, g1)]) k).isSome = true) /\
  (∀ k b, lk (((500000, (⟨us.map dUR, 3, eu, false⟩ : Box)) :: fbx ec us) ++ [(kg, g2), (kg, g1)]) k = some b -> 500000 <= k /\ ∀ j ∈ b.ids, (lk (((500000, (⟨us.map dUR, 3, eu, false⟩ : Box)) :: fbx ec us) ++ [(kg, g2), (kg, g1)]) j).isSome = true) /\
  (∀ k b, lk (((500000, (⟨us.map dUR, 3, eu, false⟩ : Box)) :: fbx ec us) ++ [(kg, g2), (kg, g1)]) k = some b -> lk ((kg, g2) :: (500000, ⟨us.map dUR, 3, eu, false⟩) :: (kg, g3) :: fbx ec us) k = some b) := by
 have cs : ∀ k b, lk (((500000, (⟨us.map dUR, 3, eu, false⟩ : Box)) :: fbx ec us) ++ [(kg, g2), (kg, g1)]) k = some b -> (k = 500000 /\ b = ⟨us.map dUR, 3, eu, false⟩) \/ (∃ u ∈ us, k = u.k /\ b = ⟨u.cs.map dCR, 8, ec, true⟩) \/ (k = kg /\ b = g2) := fun k b hk => by
  rw [List.cons_append, Qn] at hk
  split at hk
  ·rename_i e; cases hk; exact .inl ⟨e.symm, rfl⟩
  ·rw [Z1] at hk
   cases hh : lk (fbx ec us) k with
   | some v =>
    rw [hh] at hk; cases hk
    exact .inr (.inl (Qho hh))
   | none =>
    rw [hh] at hk
    simp only at hk
    rw [Qn] at hk
    split at hk
    ·rename_i e; cases hk; exact .inr (.inr ⟨e.symm, rfl⟩)
    ·rename_i e
     rw [Qn, if_neg e] at hk; cases hk
 refine ⟨fun k _ hk => ?_, fun k b hk => ?_, fun k b hk => ?_⟩
 ·obtain ⟨b, hb⟩ := Qvj.1 hk
  obtain ⟨rfl, _⟩ := Qag hb
  exact QhI Q3
 ·rcases cs k b hk with ⟨rfl, rfl⟩ | ⟨u, hu, rfl, rfl⟩ | ⟨rfl, rfl⟩
  ·refine ⟨Nat.le_refl _, fun j hj => ?_⟩
   obtain ⟨u, hu, rfl⟩ := QbV hj
   rw [List.cons_append]
   refine QZ ?_
   obtain ⟨b, hb⟩ := Qvj.1 (Qd4 (ec := ec) h hu)
   rw [YC hb]; rfl
  ·have := QbK h hu
   exact ⟨by omega, fun j hj => by simp [Box.ids] at hj⟩
  ·exact ⟨by omega, fun j hj => by rw [Qap h2] at hj; cases hj⟩
 ·rcases cs k b hk with ⟨rfl, rfl⟩ | ⟨u, hu, rfl, rfl⟩ | ⟨rfl, rfl⟩
  ·exact Qo (by omega) QD
  ·have hm := QbK h hu
   obtain ⟨j, hj, rfl⟩ := Qvz hu
   refine Qo (by omega) (Qo (by omega) (Qo (by omega) ?_))
   rw [h j hj]; exact Qm0 h hj
  ·exact QD
end M25
namespace M25
open Go Go.Abs M3
/-! ### A world under way: one candidate after the other is filled -/
def PureC (z : CR) : Prop := z.x.sid = [] /\ z.y.sid = [] /\ z.z.sid = []
theorem PureC.all {z : CR} (h : PureC z) : ∀ d ∈ dCR z, d.sid = [] := fun d hd => by
 simp only [dCR, Qvf, Qve, or_false] at hd
 rcases hd with rfl | rfl | rfl | rfl | rfl | rfl | rfl | rfl
 ·rfl
 ·rfl
 ·rfl
 ·rfl
 ·rfl
 ·exact h.1
 ·exact h.2.1
 ·exact h.2.2
def QeS (u : UR) (k : Nat) (z : CR) : UR := { u with cs := u.cs.set k z }
def Qc0 (us : List UR) (i k : Nat) (z : CR) : List UR := us.modify i fun u => QeS u k z
theorem ZE (us : List UR) (i k : Nat) (z : CR) : (Qc0 us i k z).length = us.length := List.length_modify ..
theorem QlF (us : List UR) (i k : Nat) (z : CR) : (Qc0 us i k z).map dUR = us.map dUR := by
 refine List.ext_getElem (by simp [Qc0]) fun j h1 h2 => ?_
 simp only [List.getElem_map, Qc0, List.getElem_modify]
 split <;> simp [dUR, QeS]
theorem Qbi {us : List UR} {i k : Nat} {z : CR} {j : Nat} (h : j < us.length) : (Qc0 us i k z)[j]'(by rw [ZE]; exact h) = if i = j then QeS us[j] k z else us[j] := by
 simp only [Qc0, List.getElem_modify]
theorem Qeu {us : List UR} {i k : Nat} {z : CR} (h : Ym us) : Ym (Qc0 us i k z) := fun j hj => by
 rw [ZE] at hj
 rw [Qbi hj]
 split
 ·exact h j hj
 ·exact h j hj
def wA (us : List UR) (eu ec eg : Nat) (L : List Int) (J : Int) (b4 : Box) : List (Nat × Box) := [(500000, ⟨us.map dUR, 3, eu, false⟩), (12, gB L J eg), (4, b4)] ++ fbx ec us
theorem QbW {us : List UR} {eu ec eg : Nat} {L : List Int} {J : Int} {b4 : Box} (h : Ym us) {k : Nat} {b : Box} (hk : lk (wA us eu ec eg L J b4) k = some b) : (k = 500000 /\ b = ⟨us.map dUR, 3, eu, false⟩) \/ (k = 12 /\ b = gB L J eg) \/ (k = 4 /\ b = b4) \/ ∃ j, ∃ hj : j < us.length, k = 500001 + j /\ b = ⟨us[j].cs.map dCR, 8, ec, true⟩ := by
 unfold wA at hk
 rcases Qgd hk with hk | ⟨_, hk⟩
 ·simp only [Qvf, Qve, or_false, Prod.mk.injEq] at hk
  rcases hk with h | h | h
  ·exact .inl h
  ·exact .inr (.inl h)
  ·exact .inr (.inr (.inl h))
 ·obtain ⟨u, hu, e1, e2⟩ := Qho hk
  obtain ⟨j, hj, rfl⟩ := Qvz hu
  exact .inr (.inr (.inr ⟨j, hj, e1.trans (h j hj), e2⟩))
section
variable {us : List UR} {eu ec eg : Nat} {L : List Int} {J : Int} {b4 : Box}
theorem QfA : lk (wA us eu ec eg L J b4) 500000 = some ⟨us.map dUR, 3, eu, false⟩ := rfl
theorem Qe8 : lk (wA us eu ec eg L J b4) 12 = some (gB L J eg) := rfl
theorem QgK : lk (wA us eu ec eg L J b4) 4 = some b4 := rfl
theorem QdH (h : Ym us) {j : Nat} (hj : j < us.length) : lk (wA us eu ec eg L J b4) (500001 + j) = some ⟨us[j].cs.map dCR, 8, ec, true⟩ := by
 show lk ((500000, _) :: (12, _) :: (4, _) :: fbx ec us) _ = _
 rw [Qn, if_neg (by omega), Qn, if_neg (by omega), Qn, if_neg (by omega)]
 exact Qm0 h hj
theorem Yb (h : Ym us) {k : Nat} (h1 : k ≠ 500000) (h2 : k ≠ 12) (h3 : k ≠ 4) (h4 : k < 500001 \/ 500001 + us.length <= k) : lk (wA us eu ec eg L J b4) k = none := by
 show lk ((500000, _) :: (12, _) :: (4, _) :: fbx ec us) _ = _
 rw [Qn, if_neg (Ne.symm h1), Qn, if_neg (Ne.symm h2), Qn, if_neg (Ne.symm h3)]
 exact Y9 h h4
theorem QkJ (h : Ym us) {k : Nat} (hk : k = 500000 \/ k = 12 \/ k = 4 \/ ∃ u ∈ us, k = u.k) : (lk (wA us eu ec eg L J b4) k).isSome = true := by
 rcases hk with rfl | rfl | rfl | ⟨u, hu, rfl⟩
 ·rfl
 ·rfl
 ·rfl
 ·obtain ⟨j, hj, rfl⟩ := Qvz hu
  rw [h j hj, QdH h hj]; rfl
theorem QaH (h : Ym us) (h4 : b4.pr = true) : Closed (wA us eu ec eg L J b4) := fun k b hk j hj => by
 rcases QbW h hk with ⟨rfl, rfl⟩ | ⟨rfl, rfl⟩ | ⟨rfl, rfl⟩ | ⟨i, hi, rfl, rfl⟩
 ·exact QkJ h (.inr (.inr (.inr (QbV hj))))
 ·simp [Box.ids, gB] at hj
 ·rw [Qap h4] at hj; cases hj
 ·simp [Box.ids] at hj
theorem QeL {α : Type} : ∀ {l : List α} {k : Nat} {a x : α}, x ∈ l.set k a -> x = a \/ x ∈ l
 | [], k, a, x, h => by simp at h
 | b :: l, 0, a, x, h => by
  simp only [List.set_cons_zero, Qvf] at h ⊢
  rcases h with h | h
  ·exact .inl h
  ·exact .inr (.inr h)
 | b :: l, k + 1, a, x, h => by
  simp only [List.set_cons_succ, Qvf] at h ⊢
  rcases h with h | h
  ·exact .inr (.inl h)
  ·rcases QeL h with h | h
   ·exact .inl h
   ·exact .inr (.inr h)
theorem Qf8 {l : List Nat} {fr fr1 fr' : List (Nat × D)} {H : List (Nat × Box)} {i k : Nat} {row : List D} {p : Bool} (kk : Nat) (z' : CR) (hf : Zt l fr = fr1) (ef : fr1 = fr') (hK : Ym us) (hi : i < us.length) (hk : k < us[i].cs.length)
  (hKi : lk H (500001 + i) = some ⟨(us[i].cs.map dCR).set k row, 8, ec, p⟩) (hp : p = true -> row.map (D.fzS H (· == kk)) = row) (hrow : (row.map (D.fzS H (· == kk))).map D.canS = dCR z') (hoth : ∀ z ∈ us[i].cs, PureC z) (hz : PureC z')
  (hF : ∀ j, ∀ hj : j < us.length, j ≠ i -> lk H (500001 + j) = some ⟨us[j].cs.map dCR, 8, ec, true⟩) (hu : lk H 500000 = some ⟨us.map dUR, 3, eu, false⟩) (hg : lk H 12 = some (gB L J eg)) (h4 : lk H 4 = some b4) (hb4 : b4.pr = true) (hkk : kk < 500000 /\ kk ≠ 12 /\ kk ≠ 4) (hsm : ∀ j, 1000000 <= j -> lk H j = none) (hlen : us.length <= 100)
  (hfr : ∀ p ∈ fr', ∀ j ∈ p.2.ids, j = 500000 \/ j = 12 \/ j = 4 \/ ∃ u ∈ us, j = u.k) : St.le ⟨fr, H⟩ ⟨fr', wA (Qc0 us i k z') eu ec eg L J b4⟩ := by
 subst hf ef
 have nokk : ∀ j, (j = 500000 \/ j = 12 \/ j = 4 \/ ∃ u ∈ us, j = u.k) -> j ≠ kk := fun j hj e => by
  subst e
  rcases hj with rfl | rfl | rfl | ⟨u, hu, rfl⟩
  ·omega
  ·exact hkk.2.1 rfl
  ·exact hkk.2.2 rfl
  ·have := (QbK hK hu).1; omega
 have eqkk : ∀ j, j ≠ kk -> (j == kk) = false := fun j hj => by simp [hj]
 have some1 : ∀ b j, (j = 500000 \/ j = 12 \/ j = 4 \/ ∃ u ∈ us, j = u.k) -> (lk ((500001 + i, b) :: wA us eu ec eg L J b4) j).isSome = true := fun b j hj => QZ (QkJ hK hj)
 have rowsz : ∀ r ∈ us[i].cs.map dCR, r.map (D.fzS H (· == kk)) = r := fun r hr => by
  obtain ⟨z, hzm, rfl⟩ := Qvr.1 hr
  exact Yw fun d hd => QeF fun j hj => by rw [(hoth z hzm).all d hd] at hj; cases hj
 have mapz : ((us[i].cs.map dCR).set k row).map (fun r => r.map (D.fzS H (· == kk))) = (us[i].cs.map dCR).set k (row.map (D.fzS H (· == kk))) := by
  refine List.ext_getElem (by simp) fun j h1 h2 => ?_
  simp only [List.getElem_map, List.getElem_set]
  split
  ·rfl
  ·exact rowsz _ (List.mem_map_of_mem (Qvi _))
 refine le_trans (Qco l fr H) (le_trans (QpQ kk (H' := (500001 + i, ⟨(us[i].cs.map dCR).set k (row.map (D.fzS H (· == kk))), 8, ec, p⟩) :: wA us eu ec eg L J b4) (by omega) (fr' := Zt l fr) (fun t d h => ⟨d, h, Qi9 fun j hj => eqkk j (nokk j (hfr (t, d) (Z3 h) j hj))⟩) (fun j b h => ?_) (fun t d h j hj => some1 _ j (hfr (t, d) (Z3 h) j hj)) (fun j b h j2 hj2 => ?_) fun j hj hs => ?_) ?_)
 ·rw [Qn] at h
  split at h
  ·rename_i e; cases h; subst e
   refine ⟨by omega, _, hKi, ?_⟩
   cases p with
   | true => rw [hp rfl]; rfl
   | false => show Box.mk _ _ _ _ = _; rw [mapz]
  ·rename_i e
   rcases QbW hK h with ⟨rfl, rfl⟩ | ⟨rfl, rfl⟩ | ⟨rfl, rfl⟩ | ⟨i2, hi2, rfl, rfl⟩
   ·refine ⟨by omega, _, hu, X0 (.inr fun j hj => eqkk j (nokk j (.inr (.inr (.inr (QbV hj))))))⟩
   ·exact ⟨Ne.symm hkk.2.1, _, hg, rfl⟩
   ·exact ⟨Ne.symm hkk.2.2, _, h4, X0 (.inl hb4)⟩
   ·exact ⟨by omega, _, hF i2 hi2 (fun e2 => e (by omega)), rfl⟩
 ·rw [Qn] at h
  split at h
  ·cases h
   cases hpp : p with
   | true => rw [Qap hpp] at hj2; cases hj2
   | false =>
   simp only [Box.ids, hpp, Qvl, if_false, Qvk] at hj2
   obtain ⟨r, hr, d, hd, hj3⟩ := hj2
   rcases QeL hr with rfl | hr
   ·have : (d.canS).sid = [] := hz.all _ (by rw [<- hrow]; exact List.mem_map_of_mem hd)
    rw [QcL] at this
    rw [this] at hj3; cases hj3
   ·obtain ⟨z, hzm, rfl⟩ := Qvr.1 hr
    rw [(hoth z hzm).all d hd] at hj3; cases hj3
  ·exact QZ (QaH hK hb4 j b h j2 hj2)
 ·rw [hsm j hj] at hs; cases hs
 ·refine le_trans (QoR k QD) (le_trans (Qkl QD (fun e => ?_) (fun r hr d hd => ?_)) (QbL rfl fun j => ?_))
  ·have := congrArg List.length e
   simp only [List.length_modify, List.length_set, List.length_map, List.length_nil] at this
   omega
  ·rcases Qbq hr with h | ⟨y, hy, rfl⟩
   ·rcases QeL h with rfl | h
    ·have : (d.canS).sid = [] := hz.all _ (by rw [<- hrow]; exact List.mem_map_of_mem hd)
     rwa [QcL] at this
    ·obtain ⟨z, hzm, rfl⟩ := Qvr.1 h
     exact (hoth z hzm).all d hd
   ·obtain ⟨d0, hd0, rfl⟩ := Qvr.1 hd
    rw [QcL]
    rcases QeL hy with rfl | h
    ·have : (d0.canS).sid = [] := hz.all _ (by rw [<- hrow]; exact List.mem_map_of_mem hd0)
     rwa [QcL] at this
    ·obtain ⟨z, hzm, rfl⟩ := Qvr.1 h
     exact (hoth z hzm).all d0 hd0
  ·have erows : ((us[i].cs.map dCR).set k (row.map (D.fzS H (· == kk)))).modify k (fun r => r.map D.canS) = ((us[i].cs.set k z').map dCR) := by
    refine List.ext_getElem (by simp) fun m h1 h2 => ?_
    simp only [List.getElem_modify, List.getElem_set, List.getElem_map]
    by_cases e : k = m
    ·subst e
     simp only [if_true]
     exact hrow
    ·simp only [if_neg e]
   have hK' := Qeu (i := i) (k := k) (z := z') hK
   by_cases e : 500001 + i = j
   ·subst e
    rw [QD, QdH hK' (by rw [ZE]; exact hi)]
    simp only [Qbi hi, if_true, erows]; rfl
   ·rw [Qn, if_neg e, Qn, if_neg e, Qn, if_neg e]
    cases h : lk (wA us eu ec eg L J b4) j with
    | none =>
     cases h' : lk (wA (Qc0 us i k z') eu ec eg L J b4) j with
     | none => rfl
     | some b =>
      have : (lk (wA us eu ec eg L J b4) j).isSome = true := by
       rcases QbW hK' h' with ⟨rfl, _⟩ | ⟨rfl, _⟩ | ⟨rfl, _⟩ | ⟨m, hm, rfl, _⟩
       ·rfl
       ·rfl
       ·rfl
       ·rw [ZE] at hm; rw [QdH hK hm]; rfl
      rw [h] at this; cases this
    | some b =>
     rcases QbW hK h with ⟨rfl, rfl⟩ | ⟨rfl, rfl⟩ | ⟨rfl, rfl⟩ | ⟨m, hm, rfl, rfl⟩
     ·rw [QfA, QlF]
     ·rfl
     ·rfl
     ·rw [QdH hK' (by rw [ZE]; exact hm)]
      simp only [Qbi hm, if_neg (show ¬ i = m by omega)]
end
theorem Qeb : ∀ {H : List (Nat × Box)} {j : Nat}, j ∈ H.map Prod.fst -> (lk H j).isSome = true
 | [], _, h => by cases h
 | (k, b) :: H, j, h => by
  by_cases e : k = j
  ·subst e; exact Q3
  ·refine QZ (Qeb ?_)
   simp only [List.map_cons, Qvf] at h
   exact h.resolve_left (Ne.symm e)
theorem Qpx {us : List UR} (h : Ym us) {i : Nat} (hi : i < us.length) : (us.map dUR)[((i : Nat) : Int).toNat]? = some [.str us[i].n, .str us[i].f, .osl (500001 + i) us[i].cs.length] := by
 rw [Int.toNat_natCast, List.getElem?_map, List.getElem?_eq_getElem hi, Option.map_some, dUR, h i hi]
theorem QsW {cs : List CR} {k : Nat} (hk : k < cs.length) : (cs.map dCR)[((k : Nat) : Int).toNat]? = some (dCR cs[k]) := by
 rw [Int.toNat_natCast, List.getElem?_map, List.getElem?_eq_getElem hk]; rfl
theorem QkF {us : List UR} {eu ec eg : Nat} {L : List Int} {J : Int} {b4 g1 : Box} (h : Ym us) (k : Nat) : lk (((500000, (⟨us.map dUR, 3, eu, false⟩ : Box)) :: fbx ec us) ++ ([(12, gB L J eg)] ++ [(12, g1), (4, b4)])) k = lk (wA us eu ec eg L J b4) k := by
 show lk ((500000, _) :: (fbx ec us ++ [(12, gB L J eg), (12, g1), (4, b4)])) k = lk ((500000, _) :: (12, _) :: (4, _) :: fbx ec us) k
 rw [Qn, Qn]
 split
 ·rfl
 ·rw [Z1]
  cases hh : lk (fbx ec us) k with
  | some v =>
   have := QhU h k v hh
   simp only
   rw [Qn, if_neg (by omega), Qn, if_neg (by omega), hh]
  | none =>
   simp only [Qn, hh]
   by_cases e : 12 = k
   ·rw [if_pos e, if_pos e]
   ·rw [if_neg e, if_neg e, if_neg e]; rfl
theorem QlL {us : List UR} {eu ec eg : Nat} {L : List Int} {J : Int} {b4 : Box} (h : Ym us) (hv : ∀ y ∈ us, y.cs.length <= 16 /\ ∀ z ∈ y.cs, QgH z.v) : Fam (wA us eu ec eg L J b4) 12 500000 eu ec us := by
 refine ⟨by decide, ⟨false, rfl⟩, fun y hy => ?_, hv⟩
 obtain ⟨j, hj, rfl⟩ := Qvz hy
 refine ⟨by rw [h j hj]; omega, true, by rw [h j hj]; exact QdH h hj⟩
/-! ### Filled candidates -/
def Qqm (n : Nat) (x : WantT) : Prop := 0 <= x.u /\ x.u < n /\ SetOk x.s
theorem WantIn.w {n : Nat} {x : WantT} (h : WantIn n x) : Qqm n x := ⟨by have := h.1; omega, h.2.1, h.2.2⟩
structure QaM (n : Nat) (c : CandT) : Prop where
 v : QgH c.v
 nl : c.ns.length <= 10
 nr : ∀ r ∈ c.ns, r.length <= 2 /\ ∀ x ∈ r, Qqm n x
 bl : c.bs.length <= 1
 bw : ∀ x ∈ c.bs, Qqm n x
def QiA (c : CandT) : CR := ⟨c.v, .int .i64 c.sh, QY c.ns, Za c.bs⟩
def DoneC (n : Nat) (z : CR) : Prop := ∃ c, z = QiA c /\ QaM n c
def FreshC (z : CR) : Prop := ∃ v sh, z = zr v sh /\ QgH v
theorem DoneC.pure {n : Nat} {z : CR} (h : DoneC n z) : PureC z := by obtain ⟨c, rfl, _⟩ := h; exact ⟨rfl, rfl, rfl⟩
theorem FreshC.pure {z : CR} (h : FreshC z) : PureC z := by obtain ⟨v, sh, rfl, _⟩ := h; exact ⟨rfl, rfl, rfl⟩
theorem DoneC.vr {n : Nat} {z : CR} (h : DoneC n z) : QgH z.v := by obtain ⟨c, rfl, q⟩ := h; exact q.v
theorem FreshC.vr {z : CR} (h : FreshC z) : QgH z.v := by obtain ⟨v, sh, rfl, q⟩ := h; exact q
structure Prog (n : Nat) (us : List UR) (i k : Nat) : Prop where
 keys : Ym us
 len : us.length = n /\ 2 <= n /\ n <= 11
 cl : ∀ u ∈ us, u.cs.length <= 4
 done : ∀ j, ∀ hj : j < us.length, ∀ m, ∀ hm : m < us[j].cs.length, (j < i \/ (j = i /\ m < k)) -> DoneC n us[j].cs[m]
 fresh : ∀ j, ∀ hj : j < us.length, ∀ m, ∀ hm : m < us[j].cs.length, ¬ (j < i \/ (j = i /\ m < k)) -> FreshC us[j].cs[m]
theorem Prog.pure {n : Nat} {us : List UR} {i k : Nat} (h : Prog n us i k) {j : Nat} (hj : j < us.length) : ∀ z ∈ us[j].cs, PureC z /\ QgH z.v := fun z hz => by
 obtain ⟨m, hm, rfl⟩ := Qvz hz
 by_cases hd : j < i \/ (j = i /\ m < k)
 ·exact ⟨(h.done j hj m hm hd).pure, (h.done j hj m hm hd).vr⟩
 ·exact ⟨(h.fresh j hj m hm hd).pure, (h.fresh j hj m hm hd).vr⟩
theorem Prog.fam {n : Nat} {us : List UR} {i k : Nat} (h : Prog n us i k) : ∀ y ∈ us, y.cs.length <= 16 /\ ∀ z ∈ y.cs, QgH z.v := fun y hy => by
 obtain ⟨j, hj, rfl⟩ := Qvz hy
 exact ⟨Qvw (h.cl _ hy) (by omega), fun z hz => (h.pure hj z hz).2⟩
theorem Prog.put {n : Nat} {us : List UR} {i k : Nat} (h : Prog n us i k) (hi : i < us.length) (hk : k < us[i].cs.length) {z : CR} (hz : DoneC n z) : Prog n (Qc0 us i k z) i (k + 1) := by
 have at' := fun (j : Nat) (hj : j < us.length) => Qbi (i := i) (k := k) (z := z) hj
 refine ⟨Qeu h.keys, by rw [ZE]; exact h.len, fun u hu => ?_, fun j hj m hm hd => ?_, fun j hj m hm hd => ?_⟩
 ·obtain ⟨j, hj, rfl⟩ := Qvz hu
  rw [ZE] at hj
  rw [at' j hj]
  split
  ·simp only [QeS, List.length_set]; exact h.cl _ (Qvi _)
  ·exact h.cl _ (Qvi _)
 ·rw [ZE] at hj
  have e := at' j hj
  by_cases hij : i = j
  ·subst hij
   rw [if_pos rfl] at e
   have hm' : m < (QeS us[i] k z).cs.length := by rw [<- e]; exact hm
   have e2 : (Qc0 us i k z)[i].cs[m] = (QeS us[i] k z).cs[m]'hm' := by congr 1; rw [e]
   rw [e2]
   simp only [QeS, List.getElem_set]
   split
   ·exact hz
   ·simp only [QeS, List.length_set] at hm'
    exact h.done i hi m hm' (by omega)
  ·rw [if_neg hij] at e
   have hm' : m < us[j].cs.length := by rw [<- e]; exact hm
   have e2 : (Qc0 us i k z)[j].cs[m] = us[j].cs[m]'hm' := by congr 1; rw [e]
   rw [e2]; exact h.done j hj m hm' (by omega)
 ·rw [ZE] at hj
  have e := at' j hj
  by_cases hij : i = j
  ·subst hij
   rw [if_pos rfl] at e
   have hm' : m < (QeS us[i] k z).cs.length := by rw [<- e]; exact hm
   have e2 : (Qc0 us i k z)[i].cs[m] = (QeS us[i] k z).cs[m]'hm' := by congr 1; rw [e]
   rw [e2]
   simp only [QeS, List.length_set] at hm'
   simp only [QeS, List.getElem_set]
   rw [if_neg (by omega)]
   exact h.fresh i hi m hm' (by omega)
  ·rw [if_neg hij] at e
   have hm' : m < us[j].cs.length := by rw [<- e]; exact hm
   have e2 : (Qc0 us i k z)[j].cs[m] = us[j].cs[m]'hm' := by congr 1; rw [e]
   rw [e2]; exact h.fresh j hj m hm' (by omega)
theorem Prog.next {n : Nat} {us : List UR} {i k : Nat} (h : Prog n us i k) (hi : i < us.length) (hk : us[i].cs.length <= k) : Prog n us (i + 1) 0 := by
 refine ⟨h.keys, h.len, h.cl, fun j hj m hm hd => h.done j hj m hm ?_, fun j hj m hm hd => h.fresh j hj m hm (by omega)⟩
 by_cases e : j = i
 ·subst e; exact .inr ⟨rfl, by omega⟩
 ·exact .inl (by omega)
theorem Prog.again {n : Nat} {us : List UR} {i k : Nat} (h : Prog n us i (k + 1)) (hi : i < us.length) (hk : k < us[i].cs.length) {z : CR} (hz : DoneC n z) : Prog n (Qc0 us i k z) i (k + 1) := by
 have at' := fun (j : Nat) (hj : j < us.length) => Qbi (i := i) (k := k) (z := z) hj
 refine ⟨Qeu h.keys, by rw [ZE]; exact h.len, fun u hu => ?_, fun j hj m hm hd => ?_, fun j hj m hm hd => ?_⟩
 ·obtain ⟨j, hj, rfl⟩ := Qvz hu
  rw [ZE] at hj
  rw [at' j hj]
  split
  ·simp only [QeS, List.length_set]; exact h.cl _ (Qvi _)
  ·exact h.cl _ (Qvi _)
 ·rw [ZE] at hj
  have e := at' j hj
  by_cases hij : i = j
  ·subst hij
   rw [if_pos rfl] at e
   have hm' : m < (QeS us[i] k z).cs.length := by rw [<- e]; exact hm
   have e2 : (Qc0 us i k z)[i].cs[m] = (QeS us[i] k z).cs[m]'hm' := by congr 1; rw [e]
   rw [e2]
   simp only [QeS, List.getElem_set]
   split
   ·exact hz
   ·simp only [QeS, List.length_set] at hm'
    exact h.done i hi m hm' (by omega)
  ·rw [if_neg hij] at e
   have hm' : m < us[j].cs.length := by rw [<- e]; exact hm
   have e2 : (Qc0 us i k z)[j].cs[m] = us[j].cs[m]'hm' := by congr 1; rw [e]
   rw [e2]; exact h.done j hj m hm' (by omega)
 ·rw [ZE] at hj
  have e := at' j hj
  by_cases hij : i = j
  ·subst hij
   rw [if_pos rfl] at e
   have hm' : m < (QeS us[i] k z).cs.length := by rw [<- e]; exact hm
   have e2 : (Qc0 us i k z)[i].cs[m] = (QeS us[i] k z).cs[m]'hm' := by congr 1; rw [e]
   rw [e2]
   simp only [QeS, List.length_set] at hm'
   simp only [QeS, List.getElem_set]
   rw [if_neg (by omega)]
   exact h.fresh i hi m hm' (by omega)
  ·rw [if_neg hij] at e
   have hm' : m < us[j].cs.length := by rw [<- e]; exact hm
   have e2 : (Qc0 us i k z)[j].cs[m] = us[j].cs[m]'hm' := by congr 1; rw [e]
   rw [e2]; exact h.fresh j hj m hm' (by omega)
theorem Qnr {l : List Nat} {fr fr1 fr' : List (Nat × D)} {us : List UR} {eu ec eg e1 e3 : Nat} {L : List Int} {J : Int} {b4 bK : Box} {i : Nat} {x : WantT} (hf : Zt l fr = fr1) (ef : fr1 = fr') (hK : Ym us) (hi : i < us.length) (hb4 : b4.pr = true) (hbK : ∀ j ∈ bK.ids, j = 64)
  (hfr : ∀ p ∈ fr', ∀ j ∈ p.2.ids, j = 500000 \/ j = 12 \/ j = 4 \/ ∃ u ∈ us, j = u.k) :
  St.le ⟨fr, (500001 + i, bK) :: (64, ⟨[[.osl 63 1]], 1, e1, false⟩) :: (63, ⟨[Qbd x], 3, e3, true⟩) :: wA us eu ec eg L J b4⟩ ⟨fr', (500001 + i, bK) :: (64, ⟨[[Za [x]]], 1, e1, true⟩) :: wA us eu ec eg L J b4⟩ := by
 subst hf ef
 have no63 : ∀ j, (j = 500000 \/ j = 12 \/ j = 4 \/ ∃ u ∈ us, j = u.k) -> j ≠ 63 := fun j hj e => by
  subst e
  rcases hj with h | h | h | ⟨u, hu, h⟩
  ·cases h
  ·cases h
  ·cases h
  ·have := (QbK hK hu).1; omega
 have eq63 : ∀ j, j ≠ 63 -> (j == 63) = false := fun j hj => by simp [hj]
 have up : ∀ b b' j, (lk (wA us eu ec eg L J b4) j).isSome = true -> (lk ((500001 + i, b) :: (64, b') :: wA us eu ec eg L J b4) j).isSome = true := fun b b' j hj => QZ (QZ hj)
 refine le_trans (Qco l fr _) (le_trans (QpQ 63 (H' := (500001 + i, bK) :: (64, ⟨[[Za [x]]], 1, e1, false⟩) :: wA us eu ec eg L J b4) (by decide) (fr' := Zt l fr) (fun t d h => ⟨d, h, Qi9 fun j hj => eq63 j (no63 j (hfr (t, d) (Z3 h) j hj))⟩) (fun j b h => ?_) (fun t d h j hj => up _ _ j (QkJ hK (hfr (t, d) (Z3 h) j hj))) (fun j b h j2 hj2 => ?_) fun j hj hs => ?_) ?_)
 ·rw [Qn] at h
  split at h
  ·rename_i e; cases h; subst e
   refine ⟨by omega, _, QD, X0 (.inr fun j hj => ?_)⟩
   rw [hbK j hj]; rfl
  ·rename_i e
   rw [Qn] at h
   split at h
   ·rename_i e2; cases h; subst e2
    refine ⟨by decide, _, Qo e QD, ?_⟩
    have h63 : lk ((500001 + i, bK) :: (64, (⟨[[.osl 63 1]], 1, e1, false⟩ : Box)) :: (63, ⟨[Qbd x], 3, e3, true⟩) :: wA us eu ec eg L J b4) 63 = some ⟨[Qbd x], 3, e3, true⟩ := Qo (by omega) (Qo (by decide) QD)
    simp only [Box.fz, Qvl, if_false, List.map_cons, List.map_nil, D.fzS, beq_self_eq_true, if_true, h63, List.length_singleton, and_self, Za]
   ·rename_i e2
    have h2 : lk ((500001 + i, bK) :: (64, (⟨[[.osl 63 1]], 1, e1, false⟩ : Box)) :: (63, ⟨[Qbd x], 3, e3, true⟩) :: wA us eu ec eg L J b4) j = some b := by
     have hj : j ≠ 63 := by
      rcases QbW hK h with ⟨rfl, _⟩ | ⟨rfl, _⟩ | ⟨rfl, _⟩ | ⟨m, _, rfl, _⟩ <;> omega
     exact Qo e (Qo e2 (Qo (Ne.symm hj) h))
    rcases QbW hK h with ⟨rfl, rfl⟩ | ⟨rfl, rfl⟩ | ⟨rfl, rfl⟩ | ⟨m, hm, rfl, rfl⟩
    ·exact ⟨by decide, _, h2, X0 (.inr fun j hj => eq63 j (no63 j (.inr (.inr (.inr (QbV hj))))))⟩
    ·exact ⟨by decide, _, h2, rfl⟩
    ·exact ⟨by decide, _, h2, X0 (.inl hb4)⟩
    ·exact ⟨by omega, _, h2, rfl⟩
 ·rw [Qn] at h
  split at h
  ·cases h
   rw [hbK j2 hj2]; exact QZ Q3
  ·rw [Qn] at h
   split at h
   ·cases h; simp [Box.ids, D.sid, Za] at hj2
   ·exact up _ _ j2 (QaH hK hb4 j b h j2 hj2)
 ·by_cases e : 500001 + i = j
  ·subst e; exact Q3
  ·rw [Qn, if_neg e, Qn, if_neg (by omega), Qn, if_neg (by omega)] at hs
   exact up _ _ j hs
 ·have h64 : lk ((500001 + i, bK) :: (64, (⟨[[Za [x]]], 1, e1, false⟩ : Box)) :: wA us eu ec eg L J b4) 64 = some ⟨[[Za [x]]], 1, e1, false⟩ := Qo (by omega) QD
  refine le_trans (Qkl h64 (by simp) (by intro r hr d hd; simp only [Qvm] at hr; subst hr; simp only [Qvm] at hd; subst hd; rfl)) (QbL rfl fun j => ?_)
  by_cases e : 64 = j
  ·subst e; rw [QD, Qn, if_neg (by omega), QD]
  ·by_cases eK : 500001 + i = j
   ·subst eK; rw [Qn, if_neg e, QD, QD]
   ·rw [Qn, if_neg e, Qn, if_neg eK, Qn, if_neg e, Qn, if_neg eK, Qn, if_neg e]
theorem QmR {n : Nat} : ∀ {cs : List CR}, (∀ z ∈ cs, DoneC n z) -> ∃ l : List CandT, cs = l.map QiA /\ ∀ c ∈ l, QaM n c
 | [], _ => ⟨[], rfl, by simp⟩
 | z :: cs, h => by
  obtain ⟨l, h1, h2⟩ := QmR (cs := cs) fun y hy => h y (by simp [hy])
  obtain ⟨c, rfl, hc⟩ := h z (by simp)
  exact ⟨c :: l, by rw [h1]; rfl, fun y hy => by
   rcases Qvf.1 hy with rfl | hy
   ·exact hc
   ·exact h2 y hy⟩
def QrO (n : Nat) (u : UR) (x : QjY) : Prop := x.n = u.n /\ x.f = u.f /\ u.cs = x.cs.map QiA /\ ∀ c ∈ x.cs, QaM n c
theorem QmS {n : Nat} : ∀ {us : List UR}, (∀ u ∈ us, ∀ z ∈ u.cs, DoneC n z) -> ∃ w : QE, w.length = us.length /\ ∀ j, ∀ h : j < us.length, ∀ h' : j < w.length, QrO n us[j] w[j]
 | [], _ => ⟨[], rfl, fun j h => by simp at h⟩
 | u :: us, h => by
  obtain ⟨w, h1, h2⟩ := QmS (us := us) fun y hy => h y (by simp [hy])
  obtain ⟨l, q1, q2⟩ := QmR (h u (by simp))
  refine ⟨⟨u.n, u.f, l⟩ :: w, by simp [h1], fun j hj hj' => ?_⟩
  cases j with
  | zero => exact ⟨rfl, rfl, q1, q2⟩
  | succ j => simp only [List.getElem_cons_succ]; exact h2 j (by simpa using hj) (by simpa using hj')
structure Qon (w : QE) : Prop where
 sm : WSm w
 len : 2 <= w.length /\ w.length <= 11
 cs : ∀ u ∈ w, u.cs.length <= 4
 cand : ∀ u ∈ w, ∀ c ∈ u.cs, QaM w.length c
theorem QqQ {w : QE} (h2 : 2 <= w.length) (h11 : w.length <= 11) (hc : ∀ u ∈ w, u.cs.length <= 4) (hd : ∀ u ∈ w, ∀ c ∈ u.cs, QaM w.length c) : Qon w := by
 refine ⟨⟨by omega, fun u hu => Qvw (hc u hu) (by omega), fun u hu c hcm => (hd u hu c hcm).v, fun u hu c hcm => ⟨Qvw (hd u hu c hcm).nl (by omega), Qvw (hd u hu c hcm).bl (by omega)⟩, fun u hu c hcm r hr => Qvw ((hd u hu c hcm).nr r hr).1 (by omega), fun u hu c hcm r hr x hx => (((hd u hu c hcm).nr r hr).2 x hx).2.2.sm, fun u hu c hcm x hx => ((hd u hu c hcm).bw x hx).2.2.sm⟩, ⟨h2, h11⟩, hc, hd⟩
theorem QoT {n : Nat} {us : List UR} {eu ec eg : Nat} {L : List Int} {J : Int} {b4 : Box} {k : Nat} (h : Prog n us us.length k) (hb4 : b4.pr = true) :
  ∃ w : QE, w.length = us.length /\ Qon w /\ ∀ {l : List Nat} {fr fr1 fr' : List (Nat × D)}, Zt l fr = fr1 -> fr1 = fr' -> (∀ p ∈ fr', ∀ j ∈ p.2.ids, j = 500000 \/ j = 4) -> St.le ⟨fr, wA us eu ec eg L J b4⟩ ⟨fr', [(500000, ⟨w.map YJ, 3, eu, true⟩), (4, b4)]⟩ := by
 obtain ⟨w, hw1, hw2⟩ := QmS (n := n) (us := us) fun u hu z hz => by
  obtain ⟨j, hj, rfl⟩ := Qvz hu
  obtain ⟨m, hm, rfl⟩ := Qvz hz
  exact h.done j hj m hm (.inl hj)
 have hcs : ∀ u ∈ w, u.cs.length <= 4 /\ ∀ c ∈ u.cs, QaM n c := fun u hu => by
  obtain ⟨j, hj, rfl⟩ := Qvz hu
  obtain ⟨_, _, q3, q4⟩ := hw2 j (by omega) hj
  have := h.cl us[j] (Qvi _)
  rw [q3, List.length_map] at this
  exact ⟨this, q4⟩
 have hlen := h.len
 refine ⟨w, hw1, QqQ (by omega) (by omega) (fun u hu => (hcs u hu).1) (fun u hu c hc => by have := (hcs u hu).2 c hc; rwa [show w.length = n by omega]), ?_⟩
 intro l fr fr1 fr' hf ef hfr
 subst hf ef
 have hK := h.keys
 let S : Nat -> Bool := fun k => decide (500001 <= k) && decide (k < 1000000)
 have hS1 : ∀ k, k < 500001 -> S k = false := fun k hk => by
  show (decide (500001 <= k) && decide (k < 1000000)) = false
  rw [decide_eq_false (by omega)]; rfl
 have hS2 : ∀ k, 500001 <= k -> k < 1000000 -> S k = true := fun k h1 h2 => by
  show (decide (500001 <= k) && decide (k < 1000000)) = true
  rw [decide_eq_true h1, decide_eq_true h2]; rfl
 have hrow : ∀ j, ∀ h1 : j < us.length, ∀ h2 : j < w.length, (dUR us[j]).map (D.fzS (wA us eu ec eg L J b4) S) = YJ w[j] := fun j h1 h2 => by
  obtain ⟨q1, q2, q3, q4⟩ := hw2 j h1 h2
  have hk := hK j h1
  have hc := QdH (eu := eu) (ec := ec) (eg := eg) (L := L) (J := J) (b4 := b4) hK h1
  generalize us[j] = u at q1 q2 q3 hk hc
  generalize w[j] = x at q1 q2 q3 q4
  obtain ⟨un, uf, uk, ucs⟩ := u
  simp only at q1 q2 q3 hk hc
  subst hk q3
  simp only [dUR, YJ, List.map_cons, List.map_nil, D.fzS]
  rw [hS2 _ (by omega) (by omega), hc]
  simp only [if_true, true_and, List.length_map, q1, q2, QkV, List.map_map]
  rfl
 have hrows : (us.map dUR).map (fun r => r.map (D.fzS (wA us eu ec eg L J b4) S)) = w.map YJ := by
  refine List.ext_getElem (by simp [hw1]) fun j h1 h2 => ?_
  simp only [List.getElem_map]
  exact hrow j (by simpa using h1) (by simpa using h2)
 refine le_trans (Qco l fr _) (le_trans (QqM S (fun k hk => by
  simp only [S, Qvh, decide_eq_true_eq] at hk; exact hk.2) (fr' := Zt l fr) (H' := [(500000, ⟨w.map YJ, 3, eu, false⟩), (4, b4)]) (fun t d hd => ⟨d, hd, Qi9 fun j hj => ?_⟩) (fun j b hj => ?_) (fun t d hd j hj => ?_) (fun j b hb i hi => ?_) fun j hj hs => ?_) (le_trans (Qkl (k := 500000) (b := ⟨w.map YJ, 3, eu, false⟩) rfl (fun e => ?_) (fun r hr d hd => ?_)) (QbL rfl fun j => ?_)))
 ·rcases hfr (t, d) (Z3 hd) j hj with rfl | rfl
  ·exact hS1 _ (by decide)
  ·exact hS1 _ (by decide)
 ·rw [Qn] at hj
  split at hj
  ·rename_i e; cases hj; subst e
   refine ⟨hS1 _ (by decide), _, QfA, ?_⟩
   simp only [Box.fz, Qvl, if_false, hrows]
  ·rw [Qn] at hj
   split at hj
   ·rename_i e; cases hj; subst e
    exact ⟨hS1 _ (by decide), _, QgK, X0 (.inl hb4)⟩
   ·cases hj
 ·rcases hfr (t, d) (Z3 hd) j hj with rfl | rfl
  ·rfl
  ·rfl
 ·rw [Qn] at hb
  split at hb
  ·cases hb
   simp only [Box.ids, Qvl, if_false, Qvk, Qvr] at hi
   obtain ⟨r, ⟨u, _, rfl⟩, d, hd, hi⟩ := hi
   simp only [YJ, Qvf, Qve, or_false] at hd
   rcases hd with rfl | rfl | rfl <;> simp [D.sid, QkV] at hi
  ·rw [Qn] at hb
   split at hb
   ·cases hb; rw [Qap hb4] at hi; cases hi
   ·cases hb
 ·obtain ⟨b, hb⟩ := Qvj.1 hs
  rcases QbW hK hb with ⟨rfl, _⟩ | ⟨rfl, _⟩ | ⟨rfl, _⟩ | ⟨m, hm, rfl, _⟩ <;> omega
 ·have := congrArg List.length e
  simp only [List.length_map, List.length_nil] at this
  omega
 ·obtain ⟨u, _, rfl⟩ := Qvr.1 hr
  simp only [YJ, Qvf, Qve, or_false] at hd
  rcases hd with rfl | rfl | rfl <;> rfl
 ·by_cases e : 500000 = j
  ·subst e; rfl
  ·rw [Qn, if_neg e, Qn, if_neg e]; rw [Qn (k := 500000), if_neg e]
def Qkc (us : List UR) (i : Nat) : Nat := match us[i]? with
 | some u => u.cs.length
 | none => 0
theorem Qbc {us : List UR} {i : Nat} (h : i < us.length) : Qkc us i = us[i].cs.length := by rw [Qkc, List.getElem?_eq_getElem h]
theorem QaW (us : List UR) (i k : Nat) (z : CR) : Qkc (Qc0 us i k z) i = Qkc us i := by
 by_cases h : i < us.length
 ·rw [Qbc h, Qbc (by rw [ZE]; exact h), Qbi h, if_pos rfl]
  simp [QeS]
 ·have e : (Qc0 us i k z).length = us.length := ZE ..
  rw [Qkc, Qkc, List.getElem?_eq_none (show us.length <= i by omega), List.getElem?_eq_none (show (Qc0 us i k z).length <= i by omega)]
theorem QjK {us : List UR} {i k : Nat} {z : CR} (hi : i < us.length) (hk : k < us[i].cs.length) {us2 : List UR} (e : us2 = Qc0 us i k z) (hi2 : i < us2.length) (hk2 : k < us2[i].cs.length) : us2[i].cs[k] = z := by
 subst e
 have e1 := Qbi (i := i) (k := k) (z := z) hi
 rw [if_pos rfl] at e1
 have e2 : (Qc0 us i k z)[i].cs[k] = (QeS us[i] k z).cs[k]'(by simpa [QeS] using hk) := by congr 1; rw [e1]
 rw [e2]; simp [QeS]
theorem Qqz {cs : List CR} {k : Nat} {z : CR} (hk : k < cs.length) (hz : cs[k] = z) : (cs.map dCR)[((k : Nat) : Int).toNat]? = some (dCR z) := by rw [QsW hk, hz]
theorem Qp4 {cs : List CR} {k : Nat} {row : List D} (hk : k < cs.length) : ((cs.map dCR).set ((k : Nat) : Int).toNat row)[((k : Nat) : Int).toNat]? = some row := by
 rw [Int.toNat_natCast, List.getElem?_set_self (by simpa using hk)]
theorem Qjj {K k e t : Nat} {L : List (List D)} {r1 r2 : List D} {p : Bool} {H : List (Nat × Box)} : lk ((K, (⟨(L.set k r1).set k r2, e, t, p⟩ : Box)) :: H) K = some ⟨L.set k r2, e, t, p⟩ := by rw [QD, List.set_set]
theorem Qfk {H : List (Nat × Box)} {kk m e t : Nat} {ys : List (List D)} {v : Vr} {sh : Int} (h : lk H kk = some ⟨ys, e, t, true⟩) (hm : m = ys.length) : ([D.int .i64 v.a, .int .i64 v.b, .int .i64 v.c, .str v.p, .str v.q, .int .i64 sh, .osl kk m, .fsl []].map (D.fzS H (· == kk))).map D.canS = [.int .i64 v.a, .int .i64 v.b, .int .i64 v.c, .str v.p, .str v.q, .int .i64 sh, .sl ys, .sl []] := by
 simp only [List.map_cons, List.map_nil, D.fzS, beq_self_eq_true, if_true, h, hm, and_self, D.canS]
theorem Qm9 {H : List (Nat × Box)} {kk m e t : Nat} {ys : List (List D)} {v : Vr} {sh : Int} {ns : List (List WantT)} (h : lk H kk = some ⟨ys, e, t, true⟩) (hm : m = ys.length) : ([D.int .i64 v.a, .int .i64 v.b, .int .i64 v.c, .str v.p, .str v.q, .int .i64 sh, QY ns, .osl kk m].map (D.fzS H (· == kk))).map D.canS = [.int .i64 v.a, .int .i64 v.b, .int .i64 v.c, .str v.p, .str v.q, .int .i64 sh, QY ns, .sl ys] := by
 simp only [QY, List.map_cons, List.map_nil, D.fzS, beq_self_eq_true, if_true, h, hm, and_self, D.canS]
theorem QsA {us : List UR} {eu ec eg : Nat} {L : List Int} {J J2 : Int} {b4 : Box} (k : Nat) : lk ((12, gB L J2 eg) :: wA us eu ec eg L J b4) k = lk (wA us eu ec eg L J2 b4) k := by
 show lk ((12, _) :: (500000, _) :: (12, _) :: (4, _) :: fbx ec us) k = lk ((500000, _) :: (12, _) :: (4, _) :: fbx ec us) k
 by_cases e : 12 = k
 ·subst e; rfl
 ·rw [Qn, if_neg e, Qn, Qn (k := 500000)]
  split
  ·rfl
  ·rw [Qn, if_neg e, Qn (k := 12), if_neg e]
theorem Qkz {cs : List CR} {k e t : Nat} {row : List D} (h : ∀ z ∈ cs, PureC z) (hr : ∀ d ∈ row, ∀ j ∈ d.sid, j = 64) : ∀ j ∈ Box.ids ⟨(cs.map dCR).set k row, e, t, false⟩, j = 64 := fun j hj => by
 simp only [Box.ids, Qvl, if_false, Qvk] at hj
 obtain ⟨r, hrm, d, hd, hj⟩ := hj
 rcases QeL hrm with rfl | hrm
 ·exact hr d hd j hj
 ·obtain ⟨z, hz, rfl⟩ := Qvr.1 hrm
  rw [(h z hz).all d hd] at hj; cases hj
theorem Qt3 {us : List UR} {eu ec eg : Nat} {L : List Int} {J : Int} {b4 b64 : Box} {n i k : Nat} (h : Prog n us i k) (hi : i < us.length) (hk : k < us[i].cs.length) {zx : CR} (hv : QgH zx.v) (hrow : zx.x.sid = [] /\ zx.y.sid = [64] /\ zx.z.sid = []) (hb4 : b4.pr = true) (h64 : b64.pr = true) :
  Fam ((500001 + i, ⟨(us[i].cs.map dCR).set k (dCR zx), 8, ec, false⟩) :: (64, b64) :: wA us eu ec eg L J b4) 12 500000 eu ec (Qc0 us i k zx) /\ Closed ((500001 + i, ⟨(us[i].cs.map dCR).set k (dCR zx), 8, ec, false⟩) :: (64, b64) :: wA us eu ec eg L J b4) := by
 refine ⟨⟨by decide, ⟨false, ?_⟩, fun y hy => ?_, fun y hy => ?_⟩, ?_⟩
 ·rw [Qn, if_neg (by omega), Qn, if_neg (by decide), QfA, QlF]
 ·obtain ⟨j, hj, rfl⟩ := Qvz hy
  have hK' := Qeu (i := i) (k := k) (z := zx) h.keys
  have hj' := hj
  rw [ZE] at hj'
  refine ⟨by rw [hK' j hj]; omega, ?_⟩
  rw [hK' j hj]
  by_cases e : i = j
  ·subst e
   refine ⟨false, ?_⟩
   rw [QD, Qbi hj', if_pos rfl, QeS, List.map_set]
  ·refine ⟨true, ?_⟩
   rw [Qn, if_neg (by omega), Qn, if_neg (by omega), QdH h.keys hj', Qbi hj', if_neg e]
 ·obtain ⟨j, hj, rfl⟩ := Qvz hy
  have hj' := hj
  rw [ZE] at hj'
  rw [Qbi hj']
  have hfam := h.fam us[j] (Qvi _)
  split
  ·refine ⟨by simpa [QeS] using hfam.1, fun z hz => ?_⟩
   rcases QeL hz with rfl | hz
   ·exact hv
   ·exact hfam.2 z hz
  ·exact hfam
 ·refine ((QaH h.keys hb4).pr h64).cons fun j hj => ?_
  have := Qkz (e := 8) (t := ec) (k := k) (row := dCR zx) (fun z hz => (h.pure hi z hz).1) (fun d hd j hj => by
   simp only [dCR, Qvf, Qve, or_false] at hd
   rcases hd with rfl | rfl | rfl | rfl | rfl | rfl | rfl | rfl
   ·cases hj
   ·cases hj
   ·cases hj
   ·cases hj
   ·cases hj
   ·rw [hrow.1] at hj; cases hj
   ·rw [hrow.2.1] at hj; simpa using hj
   ·rw [hrow.2.2] at hj; cases hj) j hj
  subst this; exact Q3
theorem Prog.start {us : List UR} (h : UnitsIn us) (h2 : 2 <= us.length) (h11 : us.length <= 11) : Prog us.length us 0 0 := by
 refine ⟨h.keys, ⟨rfl, h2, h11⟩, fun u hu => (h.fresh u hu).1, fun j hj m hm hd => by omega, fun j hj m hm _ => ?_⟩
 obtain ⟨v, sh, e, hv⟩ := (h.fresh _ (Qvi hj)).2 _ (Qvi hm)
 exact ⟨v, sh, e, hv⟩
theorem QeD {n : Nat} {m : Int} {v : Vr} {sh : Int} {ns : List (List WantT)} (hv : QgH v) (h : QfE n m ns) (hm : m <= 3) : QaM n ⟨v, sh, ns, []⟩ :=
 ⟨hv, by show ns.length <= 10; have := h.1; omega, fun r hr => ⟨(h.2 r hr).1, fun x hx => ((h.2 r hr).2 x hx).w⟩, Qvp _, fun x hx => by cases hx⟩
theorem QiY {n i : Nat} {m : Int} {v : Vr} {sh : Int} {ns : List (List WantT)} (hv : QgH v) (h : QfE n m ns) (hm : m <= 3) (h1 : 1 <= i) (hi : i < n) : QaM n ⟨v, sh, [⟨(i : Int) - 1, Xw v.a v.b v.c v.p v.q⟩] :: ns, []⟩ := by
 refine ⟨hv, by show (_ :: ns).length <= 10; have := h.1; simp only [List.length_cons]; omega, fun r hr => ?_, Qvp _, fun x hx => by cases hx⟩
 rcases Qvf.1 hr with rfl | hr
 ·refine ⟨by simp, fun x hx => ?_⟩
  simp only [Qvm] at hx; subst hx
  have := QcO (a := v.a) (b := v.b) (c := v.c) (q := v.q) hv.1
  exact ⟨by show 0 <= (i : Int) - 1; omega, by show (i : Int) - 1 < n; omega, this.1.up (by omega), this.2.up (by omega)⟩
 ·exact ⟨(h.2 r hr).1, fun x hx => ((h.2 r hr).2 x hx).w⟩
theorem QiX {n : Nat} {v : Vr} {sh : Int} {ns : List (List WantT)} (h : QaM n ⟨v, sh, ns, []⟩) {x : WantT} (hx : WantIn n x) : QaM n ⟨v, sh, ns, [x]⟩ := ⟨h.v, h.nl, h.nr, by simp, by intro y hy; simp only [Qvm] at hy; subst hy; exact hx.w⟩
theorem QjL {us : List UR} {i k : Nat} {z : CR} (hi : i < us.length) (hk : k < us[i].cs.length) {us2 : List UR} (e : Qc0 us i k z = us2) (hi2 : i < us2.length) : k < us2[i].cs.length := by
 rw [<- Qbc hi2, <- e, QaW, Qbc hi]; exact hk
theorem Qp0 {l : List (List WantT)} : ∀ r ∈ l.map (fun r => [Za r]), r.length = 1 := fun r hr => by obtain ⟨x, _, rfl⟩ := Qvr.1 hr; rfl
end M25
namespace M25
open Go Go.Abs M3
/-! ### Trails that may be -/
end M25
namespace M25
open Go Go.Abs M3
/-! ### What every program says -/
/-! ### A world's facts, and more -/
end M25
namespace M25
open Go Go.Abs M3
/-! ### Powers of two -/
/-! ### Steps that may be: the program's -/
/-! ### Deciding -/
end M25
namespace M25
open Go Go.Abs M3
/-! ### Back, Sure, When -/
/-! ### What valid trails are -/
/-! ### Levels -/
end M25
namespace M25
open Go Go.Abs M3
def QoX {α : Type} (p : α -> Bool) (l : List α) : Int := match l.findIdx? p with
 | some i => i
 | none => -1
theorem QaY {α : Type} {p : α -> Bool} {l : List α} {i : Nat} (h : i < l.length) (ha : (l.take i).any p = false) (hp : p l[i] = true) : QoX p l = i := by
 have e : l.findIdx? p = some i := by
  rw [List.findIdx?_eq_some_iff_getElem]
  refine ⟨h, hp, fun j hj => ?_⟩
  have := List.any_eq_false.1 ha l[j] (by
   rw [List.mem_take_iff_getElem]
   exact ⟨j, by omega, rfl⟩)
  simpa using this
 rw [QoX, e]
theorem QpO {α : Type} {p : α -> Bool} {l : List α} {i : Nat} (h : l.length <= i) (ha : (l.take i).any p = false) : QoX p l = -1 := by
 have e : l.findIdx? p = none := by
  rw [List.findIdx?_eq_none_iff]
  rw [Qvt h] at ha
  intro x hx
  simpa using List.any_eq_false.1 ha x hx
 rw [QoX, e]
theorem Qnj {α : Type} (p : α -> Bool) (l : List α) : decide (QoX p l >= 0) = l.any p := by
 cases e : l.findIdx? p with
 | none =>
  rw [QoX, e]
  rw [List.findIdx?_eq_none_iff] at e
  have : l.any p = false := List.any_eq_false.2 fun x hx => by simpa using e x hx
  rw [this]; rfl
 | some i =>
  rw [QoX, e]
  rw [List.findIdx?_eq_some_iff_getElem] at e
  obtain ⟨h, hp, _⟩ := e
  rw [Qj1 h hp]
  simp
/-! ### The first row of lefts -/
end M25
namespace M25
open Go Go.Abs M3
/-! ### When, QiB by QiB -/
/-! ### The Qg1 world -/
end M25
namespace M25
open Go Go.Abs M3
/-! ### What a run is: steps, one open after the other -/
inductive Qms (w : QE) (db : List (List ZY)) : List Qbz -> List Qbz -> Prop
 | nil (l : List Qbz) : Qms w db l l
 | cons {l x : List Qbz} (a k : Nat) (ho : QrB w db l a k) (h : Qms w db (l ++ [Qt2 w l ((db[a]'ho.ha)[k]'ho.hk) a]) x) : Qms w db l x
section
variable {w : QE} {db : List (List ZY)}
def Below (w : QE) (b l : List Qbz) : Prop := ∀ u i, tb (QgW w b u) i = true -> tb (QgW w l u) i = true
theorem Below.refl (l : List Qbz) : Below w l l := fun _ _ h => h
/-! ### Sound: a choice stays -/
end
end M25
namespace M25
open Go Go.Abs M3
end M25
namespace M25
open Go Go.Abs M3
/-! ### More of runs -/
end M25
namespace M25
open Go Go.Abs M3
/-! ### The facts in another order -/
end M25
namespace M25
open Go Go.Abs M3
/-! ### How long a run is -/
structure Good (w : QE) (l : List Qbz) : Prop where
 p : QrD w l
 nz : ∀ u, inW w u = true -> QgW w l u ≠ 0
 le : ∀ u i, tb (QgW w l u) i = true -> tb (X4 w u) i = true
end M25
namespace M25
open Go Go.Abs M3
/-! ### Masks are of values that there are -/
/-! ### Each QiB of a run -/
end M25
namespace M25
open Go Go.Abs M3
end M25
namespace M25
open Go Go.Abs M3
/-! ### Derive again -/
/-! ### Sure, and what holds -/
end M25
namespace M25
open Go Go.Abs M3
/-! ### The choice that a trail has decided -/
end M25
namespace Go.Proofs
open Go Go.Abs M3 M25
end Go.Proofs
namespace Go.Proofs
open Go Go.Abs M3 M25
theorem Qcy {s : St} {args : List Opd} {kg : Nat} {L : List Int} {I n : Int} {et : Nat} (ha : Zp s args = some [.ref kg 0 0, .int .i64 n]) (hg : lk s.H kg = some (gB L I et)) (hL : ∀ x ∈ L, I64 x) (hn : n <= 9223372036854775807) : Qb3 Tryz.prog 33 args s [(kg, gB L I et)] [] [(kg, gB L (nxI I) et)] (.int .i64 (nx L I n)) := by
 refine QkS (b' := gB L (nxI I) et) (ds' := [.ref (upN kg) 0 0, .int .i64 n]) ha (fun j x h => ?_) (fun k b hk j hj => ?_) (fun x hx j hj => ?_) ?_ Z Z Z Z ?_
 ·obtain ⟨rfl, rfl⟩ := Qag h; exact hg
 ·obtain ⟨rfl, rfl⟩ := Qag hk; simp [Box.ids, gB] at hj
 ·simp only [Qvf, Qve, or_false] at hx
  rcases hx with rfl | rfl
  ·simp [D.ids, D.sid] at hj; subst hj; rw [QD]; rfl
  ·simp [D.ids, D.sid] at hj
 ·rw [QD]; rfl
 ·exact X1 (by unfold upN; omega) hL hn et
theorem QdQ {H : List (Nat × Box)} {kg kc : Nat} {L : List Int} {I : Int} {eg ec : Nat} {pr : Bool} {zs : List CR} (hkg : 1000000 <= kg) (hg : lk H kg = some (gB L I eg)) (hc : lk H kc = some ⟨zs.map dCR, 8, ec, pr⟩) (hne : kg ≠ kc) (hB : Big H) (hC : Closed H) (hL : ∀ x ∈ L, I64 x) (hz : ∀ z ∈ zs, QgH z.v) (hn : zs.length <= 16) : ∃ d H2, (∃ s I2, SetOk s /\ d = QfU s /\ H2 = (kg, gB L I2 eg) :: H) /\ OkH Tryz.prog 67 [.ref kg 0 0, .osl kc zs.length] H d H2 := by
 have hkc := hB _ _ hc
 refine OkH.ofX (R := fun d H2 => ∃ s I2, SetOk s /\ d = QfU s /\ H2 = (kg, gB L I2 eg) :: H) Z4 Tryz.func67 QuL (Qvd Z) ?_
 show TX _ _ tf67.body _ _
 refine Zs fun K hK => ?_
 refine ZJ (by repeat (first | exact hB.none (by decide) | refine ZD (by first | decide | omega) ?_)) ?_
 refine hK _ _ (Q8 (kp3 Z Z Z) ?_)
 refine Zs fun K hK => Qb Z (YW (Qcy (I := I) Z (Qo (by omega) hg) hL (by omega)) (Qb Z (hK _ _ (Q8 (kp4 Z Z Z Z) ?_))))
 refine Zs fun K hK => QA (Yj) Z Z (.inl Z) ?_
 refine ZJ (by repeat (first | exact hB.none (by decide) | refine ZD (by first | decide | omega) ?_)) ?_
 refine Q5 Z Z Z Z Z Z Z Z (hK _ _ (Q8 (kp5 Z Z Z Z Z) ?_))
 refine QaI ?_ -- 0
 refine Zs fun K hK => Qb Z (hK _ _ (Q8 (kp6 Z Z Z Z Z Z) ?_))
 refine Xr ?_
 refine QfH (ι := Nat × QeW) (fun ⟨i, s⟩ => ⟨[(0, .ref kg 0 0), (1, .osl kc zs.length), (4, .ref 4 0 0), (5, .int .i64 (nx L I 8)), (6, .ref 6 0 0), (7, .int .i64 i)], [(4, ⟨[[.fsl [], .fsl []]], 2, 66, true⟩), (6, ⟨[[Zl s.1, Zl s.2]], 2, 66, true⟩), (kg, gB L (nxI I) eg)] ++ H⟩) (fun ⟨i, s⟩ => i <= zs.length /\ QlT (bnd i - 4) s) (fun ⟨i, s⟩ => zs.length - i) (0, ([], [])) ?_ ?_ ?_
 ·exact Qf9 (l := [0, 1, 4, 5, 6, 7]) (B := [_, _, _, _]) (kp6 rfl rfl rfl rfl rfl rfl) rfl (by intro p hp; simp only [Qvf, Qve, or_false] at hp; rcases hp with rfl | rfl | rfl <;> exact ⟨by repeat (first | exact QD | refine Qo (by first | decide | omega) ?_), rfl⟩) rfl (by intro p hp h; simp only [Qvf, Qve, or_false] at hp; rcases hp with rfl | rfl | rfl | rfl <;> first | (simp only at h; omega) | (repeat (first | exact Q3 | refine QZ ?_))) hB hC (by intro p hp k hk; simp only [Qvf, Qve, or_false] at hp; rcases hp with rfl | rfl | rfl | rfl | rfl | rfl <;> first | (simp [D.ids, D.sid, Za, QY, QX] at hk; done) | (simp [D.ids, D.sid, Za, QY, QX] at hk; subst hk; repeat (first | exact Q3 | exact ZA hg | exact ZA hc | refine QZ ?_)))
 ·exact ⟨Qvp _, SmN.nil _, SmN.nil _⟩
 intro ⟨i, s⟩ hI
 try dsimp only at hI
 have hb16 := QpG (i := i) (by omega)
 try dsimp only
 refine QaI ?_ -- 1
 refine Zs fun K hK => Qb Z (Qb Z ?_)
 first | refine Q0 rfl Zb ?_ | refine Q0 rfl rfl ?_
 refine Z8 Z Z (hK _ _ (Q8 (kp7 Z Z Z Z Z Z Z) ?_))
 refine XM Z (fun h1 => ?_) (fun h1 => ?_)
 ·try rw [h1]
  try simp only [qA] at h1
  refine XZ (Zh (kp6 Z Z Z Z Z Z) ?_)
  refine QaI ?_ -- 2
  refine Xr (Zs fun K hK => Qb Z (Qb Z (QfG Z (QfC (by omega) (by omega)) (QrL Z Z (by omega) (Qfb Z Z (YI Z Z (hK _ _ (Q8 (kp7 Z Z Z Z Z Z Z) ?_))))))))
  refine XM Z (fun h2 => ?_) (fun h2 => ?_)
  ·try rw [h2]
   try simp only [qA] at h2
   have hvp := (hz _ (Qvi (show i < zs.length by omega))).1
   refine Yf fun K hK => QQ (ds0 := [1, 0]) (cs := [_, _]) Z Z Z Z (by simp [Dr.ok, Qch]) Z (Qb Z (Qb Z (QdI (ds0 := [4, 3, 2, 1, 0]) Z Z (Qo (by omega) (Qo (by omega) (Qo (by omega) hc))) (by simp) (by omega) (by omega) Z (by simp [Dr.ok, Qch]) Z (Qg Z (ZA (Qo (by omega) (Qo (by omega) (Qo (by omega) hc)))) (QQ (ds0 := [2, 1, 0]) (cs := [_, _, _, _, _]) Z (Yu (Qo (by omega) (Qo (by omega) (Qo (by omega) hc))) (Zk (by omega))) Z Z (by simp [Dr.ok, Qch]) Z (Ze (ds0 := [1, 0]) (Qac (hz _ (Qvi (by omega))).1 (hz _ (Qvi (by omega))).2) Z Z (.inl Z) (by simp [Dr.ok, Qch]) Z (Ze (ds0 := [0]) (QeB (a := s) (b := (Xw (zs[i]'(by omega)).v.a (zs[i]'(by omega)).v.b (zs[i]'(by omega)).v.c (zs[i]'(by omega)).v.p (zs[i]'(by omega)).v.q)) (hI.2.1.sm (by omega)) (hI.2.2.sm (by omega)) ((QcO hvp).1.sm (by omega)) ((QcO hvp).2.sm (by omega)) (by have := hI.2.1.1; have := (QcO (a := (zs[i]'(by omega)).v.a) (b := (zs[i]'(by omega)).v.b) (c := (zs[i]'(by omega)).v.c) (q := (zs[i]'(by omega)).v.q) hvp).1.1; omega) (by have := hI.2.2.1; have := (QcO (a := (zs[i]'(by omega)).v.a) (b := (zs[i]'(by omega)).v.b) (c := (zs[i]'(by omega)).v.c) (q := (zs[i]'(by omega)).v.q) hvp).2.1; omega)) Z Z (.inl Z) (by simp [Dr.ok, Qch]) Z (Xo (ds0 := []) Z Z Z Z Z Z Z Z (by simp [Dr.ok, Qch]) Z (hK _ ?_)))))))))
   refine Qj (Zh (kp6 Z Z Z Z Z Z) (Yf fun K hK => Qb Z (Q9 Z Z (by first | exact Qs (by omega) (by omega) | rfl) (Qb Z (hK _ ?_)))))
   refine Qm (i + 1, QpV s (Xw (zs[i]'(by omega)).v.a (zs[i]'(by omega)).v.b (zs[i]'(by omega)).v.c (zs[i]'(by omega)).v.p (zs[i]'(by omega)).v.q)) ?_ ?_ ?_
   ·exact Qf9 (l := [0, 1, 4, 5, 6, 7]) (B := [_, _, _, _]) (kp6 rfl rfl rfl rfl rfl rfl) rfl (by intro p hp; simp only [Qvf, Qve, or_false] at hp; rcases hp with rfl | rfl | rfl <;> exact ⟨by repeat (first | exact QD | refine Qo (by first | decide | omega) ?_), rfl⟩) rfl (by intro p hp h; simp only [Qvf, Qve, or_false] at hp; rcases hp with rfl | rfl | rfl | rfl <;> first | (simp only at h; omega) | (repeat (first | exact Q3 | refine QZ ?_))) hB hC (by intro p hp k hk; simp only [Qvf, Qve, or_false] at hp; rcases hp with rfl | rfl | rfl | rfl | rfl | rfl <;> first | (simp [D.ids, D.sid, Za, QY, QX] at hk; done) | (simp [D.ids, D.sid, Za, QY, QX] at hk; subst hk; repeat (first | exact Q3 | exact ZA hg | exact ZA hc | refine QZ ?_)))
   ·exact ⟨by show i + 1 <= _; omega, Qsm hI.2 (hz _ (Qvi (by omega))).1 (by omega)⟩
   ·show zs.length - (i + 1) < zs.length - i; omega
  ·try rw [h2]
   try simp only [qA] at h2
   have hvp := (hz _ (Qvi (show i < zs.length by omega))).1
   refine XZ (Qj (Zh (kp6 Z Z Z Z Z Z) (Yf fun K hK => Qb Z (Q9 Z Z (by first | exact Qs (by omega) (by omega) | rfl) (Qb Z (hK _ ?_))))))
   refine Qm (i + 1, s) ?_ ?_ ?_
   ·exact Qf9 (l := [0, 1, 4, 5, 6, 7]) (B := [_, _, _]) (kp6 rfl rfl rfl rfl rfl rfl) rfl (by intro p hp; simp only [Qvf, Qve, or_false] at hp; rcases hp with rfl | rfl | rfl <;> exact ⟨by repeat (first | exact QD | refine Qo (by first | decide | omega) ?_), rfl⟩) rfl (by intro p hp h; simp only [Qvf, Qve, or_false] at hp; rcases hp with rfl | rfl | rfl <;> first | (simp only at h; omega) | (repeat (first | exact Q3 | refine QZ ?_))) hB hC (by intro p hp k hk; simp only [Qvf, Qve, or_false] at hp; rcases hp with rfl | rfl | rfl | rfl | rfl | rfl <;> first | (simp [D.ids, D.sid, Za, QY, QX] at hk; done) | (simp [D.ids, D.sid, Za, QY, QX] at hk; subst hk; repeat (first | exact Q3 | exact ZA hg | exact ZA hc | refine QZ ?_)))
   ·exact ⟨by show i + 1 <= _; omega, Qpq hI.2⟩
   ·show zs.length - (i + 1) < zs.length - i; omega
 ·try rw [h1]
  try simp only [qA] at h1
  refine QeX (X6 (Qz (QH (Zh (kp3 Z Z Z) ?_))))
  refine QaI ?_ -- 3
  refine Zs fun K hK => Qb Z (YW (Qcy (I := nxI I) Z (Qo (by omega) (Qo (by omega) QD)) hL (by omega)) (hK _ _ (Q8 (kp3 Z Z Z) ?_)))
  refine Xr (Zs fun K hK => YI Z Z (Qb Z (hK _ _ (Q8 (kp4 Z Z Z Z) ?_))))
  refine XM Z (fun h3 => ?_) (fun h3 => ?_)
  ·try rw [h3]
   try simp only [qA] at h3
   refine Zs fun K hK => QA (QaU) Z Z (.inl Z) (Q5 Z (Qo (by omega) Z) Z Z Z Z Z Z (hK _ _ (Q8 (kp1 Z) ?_)))
   refine QiL (Qw (QlE ?_))
   refine ⟨QfU QgL, (kg, gB L (nxI (nxI I)) eg) :: H, ⟨QgL, _, ⟨QkR.1.up (by omega), QkR.2.up (by omega)⟩, rfl, rfl⟩, (XX hB hC hkg rfl).1, (XX hB hC hkg rfl).2, ?_⟩
   refine QcW (cs := [Zl QgL.1, Zl QgL.2]) Z (Yu (by repeat (first | exact QD | refine Qo (by first | decide | omega) ?_)) Z) Z Z Z ?_
   exact QaZ (B := [_, _, _, _, _]) hB (by repeat (first | exact QD | refine Qo (by first | decide | omega) ?_)) (by intro p hp h; simp only [Qvf, Qve, or_false] at hp; rcases hp with rfl | rfl | rfl | rfl | rfl <;> first | rfl | (simp only at h; omega))
  ·try rw [h3]
   try simp only [qA] at h3
   refine Zs fun K hK => YI Z Z (Qb Z (hK _ _ (Q8 (kp3 Z Z Z) ?_)))
   refine XM Z (fun h4 => ?_) (fun h4 => ?_)
   ·try rw [h4]
    try simp only [qA] at h4
    refine Zs fun K hK => QB (cs := [_, _]) Z (Yu (Qo (by omega) Z) Z) Z Z (QA (QdU (a := s) (hI.2.1.sm (by omega)) (hI.2.2.sm (by omega))) Z Z (.inl Z) (Q5 Z (Qo (by omega) Z) Z Z Z Z Z Z (hK _ _ (Q8 (kp1 Z) ?_))))
    refine QiL (Qw (QlE ?_))
    refine ⟨QfU (Qib s), (kg, gB L (nxI (nxI I)) eg) :: H, ⟨(Qib s), _, ⟨(QnB hI.2 (by omega)).1.up (by omega), (QnB hI.2 (by omega)).2.up (by omega)⟩, rfl, rfl⟩, (XX hB hC hkg rfl).1, (XX hB hC hkg rfl).2, ?_⟩
    refine QcW (cs := [Zl (Qib s).1, Zl (Qib s).2]) Z (Yu (by repeat (first | exact QD | refine Qo (by first | decide | omega) ?_)) Z) Z Z Z ?_
    exact QaZ (B := [_, _, _, _, _]) hB (by repeat (first | exact QD | refine Qo (by first | decide | omega) ?_)) (by intro p hp h; simp only [Qvf, Qve, or_false] at hp; rcases hp with rfl | rfl | rfl | rfl | rfl <;> first | rfl | (simp only at h; omega))
   ·try rw [h4]
    try simp only [qA] at h4
    refine XZ (Qj (Zh (kp2 Z Z) (Zs fun K hK => QB (cs := [_, _]) Z (Yu (Qo (by omega) Z) Z) Z Z (Q5 Z (Qo (by omega) Z) Z Z Z Z Z Z (hK _ _ (Q8 (kp1 Z) ?_))))))
    refine QiL ?_
    refine ⟨QfU s, (kg, gB L (nxI (nxI I)) eg) :: H, ⟨s, _, ⟨hI.2.1.up (by omega), hI.2.2.up (by omega)⟩, rfl, rfl⟩, (XX hB hC hkg rfl).1, (XX hB hC hkg rfl).2, ?_⟩
    refine QcW (cs := [Zl s.1, Zl s.2]) Z (Yu (by repeat (first | exact QD | refine Qo (by first | decide | omega) ?_)) Z) Z Z Z ?_
    exact QaZ (B := [_, _, _, _, _]) hB (by repeat (first | exact QD | refine Qo (by first | decide | omega) ?_)) (by intro p hp h; simp only [Qvf, Qve, or_false] at hp; rcases hp with rfl | rfl | rfl | rfl | rfl <;> first | rfl | (simp only at h; omega))
end Go.Proofs
namespace Go.Proofs
open Go Go.Abs M3 M25
/-- The call of 'set', over boxes that are lent. -/
theorem Qs6 {H : List (Nat × Box)} {kg kc : Nat} {L : List Int} {I : Int} {eg ec : Nat} {pr : Bool} {zs : List CR} (hg : lk H kg = some (gB L I eg)) (hc : lk H kc = some ⟨zs.map dCR, 8, ec, pr⟩) (hne : kg ≠ kc) (hC : Closed H) (hL : ∀ x ∈ L, I64 x) (hz : ∀ z ∈ zs, QgH z.v) (hn : zs.length <= 16) :
  ∃ s I2, SetOk s /\ ∀ (st : St) (args : List Opd), Zp st args = some [.ref kg 0 0, .osl kc zs.length] -> (∀ j x, lk H j = some x -> lk st.H j = some x) -> Qb3 Tryz.prog 67 args st H [] [(kg, gB L I2 eg)] (QfU s) := by
 obtain ⟨d, H2, ⟨s, I2, hs, rfl, rfl⟩, hok⟩ := QdQ (H := upH H) (kg := upN kg) (kc := upN kc) (L := L) (I := I) (eg := eg) (ec := ec) (pr := pr) (zs := zs.map CR.ren) (by unfold upN; omega) (by rw [Qa0, hg]; rfl) (by rw [Qa0, hc, Option.map_some, Box.ren, QmQ]) (fun e => hne (Qiu e)) QkG (QeT hC) hL
  (fun z hz' => by obtain ⟨z0, h0, rfl⟩ := Qvr.1 hz'; exact hz z0 h0) (by simpa using hn)
 refine ⟨s, I2, hs, fun st args ha hF => QkS (b' := gB L I2 eg) (ds' := [.ref (upN kg) 0 0, .osl (upN kc) zs.length]) ha hF hC (fun x hx j hj => ?_) (ZA hg) Z Z Z Z ?_⟩
 ·simp only [Qvf, Qve, or_false] at hx
  rcases hx with rfl | rfl
  ·simp [D.ids, D.sid] at hj; subst hj; exact ZA hg
  ·simp [D.ids, D.sid] at hj; subst hj; exact ZA hc
 ·rw [List.length_map] at hok; exact hok
theorem Qdp {H : List (Nat × Box)} {kg ku : Nat} {L : List Int} {I : Int} {eg eu ec : Nat} {us : List UR} (hkg : 1000000 <= kg) (hg : lk H kg = some (gB L I eg)) (hU : Fam H kg ku eu ec us) (hB : Big H) (hC : Closed H) (hL : ∀ x ∈ L, I64 x) (h2n : 2 <= us.length) (hn : us.length <= 48) : ∃ d H2, (∃ x I2, WantIn us.length x /\ d = .agg (Qbd x) /\ H2 = (kg, gB L I2 eg) :: H) /\ OkH Tryz.prog 34 [.ref kg 0 0, .osl ku us.length] H d H2 := by
 obtain ⟨pu, hu⟩ := hU.u
 have hku := hB _ _ hu
 have hne := hU.ne
 have hx0 := Qln (v := Qmk L (IntKind.i64.wrap (nxI I - 1))) (n := (us.length : Int) - 1)
 have hx1 := Qlm (v := Qmk L (IntKind.i64.wrap (nxI I - 1))) (n := (us.length : Int) - 1) (by omega)
 change 0 <= nx L I ((us.length : Int) - 1) at hx0
 change nx L I ((us.length : Int) - 1) < _ at hx1
 obtain ⟨hyk, pr, hy⟩ := hU.c (us[(1 + nx L I ((us.length : Int) - 1)).toNat]'(by omega)) (Qvi _)
 obtain ⟨hv1, hv2⟩ := hU.v (us[(1 + nx L I ((us.length : Int) - 1)).toNat]'(by omega)) (Qvi _)
 obtain ⟨s, I2, hs, hcall⟩ := Qs6 (H := (kg, gB L (nxI I) eg) :: H) QD (Qo (Ne.symm hyk) hy) (Ne.symm hyk) (hC.pr rfl) hL hv2 hv1
 refine OkH.ofX (R := fun d H2 => ∃ x I2, WantIn us.length x /\ d = .agg (Qbd x) /\ H2 = (kg, gB L I2 eg) :: H) Z4 Tryz.func34 Qum (Qvd Z) ?_
 show TX _ _ tf34.body _ _
 refine Zs fun K hK => ?_
 refine ZJ (by repeat (first | exact hB.none (by decide) | refine ZD (by first | decide | omega) ?_)) ?_
 refine hK _ _ (Q8 (kp3 Z Z Z) ?_)
 refine Zs fun K hK => Qb Z (Qb Z ?_)
 first | refine Q0 rfl Zb ?_ | refine Q0 rfl rfl ?_
 refine Qdm Z Z (by first | exact Qs (by omega) (by omega) | rfl) (YW (Qcy (I := I) Z (Qo (by omega) hg) hL (by omega)) (Q9 Z Z (by first | exact Qs (by omega) (by omega) | rfl) (Qb Z (hK _ _ (Q8 (kp4 Z Z Z Z) ?_)))))
 refine Zs fun K hK => Qb rfl (Qb rfl (Qb rfl (Qb rfl (Qby rfl rfl (Qo (by omega) (Qo (by omega) hu)) (by simp) (by omega) (by omega) rfl (Qg rfl (ZA (Qo (by omega) (Qo (by omega) hu))) (QC rfl (Yu (Qo (by omega) (Qo (by omega) hu)) (Zz (by omega) (by omega))) rfl (YW (hcall _ _ rfl (QaZ (B := [_, _]) hB QD (by intro p hp h; simp only [Qvf, Qve, or_false] at hp; rcases hp with rfl | rfl <;> first | rfl | (simp only at h; omega)))) (Q2 rfl rfl (Q5 rfl (Qo (by omega) (Qo (by omega) rfl)) rfl rfl rfl rfl rfl rfl (hK _ _ (Q8 (kp1 rfl) ?_)))))))))))
 refine QiL ?_
 refine ⟨.agg (Qbd ⟨1 + nx L I ((us.length : Int) - 1), s⟩), (kg, gB L I2 eg) :: H, ⟨⟨1 + nx L I ((us.length : Int) - 1), s⟩, _, ⟨by show 1 <= 1 + _; omega, by show 1 + _ < (us.length : Int); omega, hs⟩, rfl, rfl⟩, (XX hB hC hkg rfl).1, (XX hB hC hkg rfl).2, ?_⟩
 refine QcW (cs := Qbd ⟨1 + nx L I ((us.length : Int) - 1), s⟩) Z (Yu (by repeat (first | exact QD | refine Qo (by first | decide | omega) ?_)) Z) Z Z Z ?_
 exact QaZ (B := [_, _, _, _]) hB (by repeat (first | exact QD | refine Qo (by first | decide | omega) ?_)) (by intro p hp h; simp only [Qvf, Qve, or_false] at hp; rcases hp with rfl | rfl | rfl | rfl <;> first | rfl | (simp only at h; omega))
/-- The call of 'want'. -/
theorem Qlw {H : List (Nat × Box)} {kg ku : Nat} {L : List Int} {I : Int} {eg eu ec : Nat} {us : List UR} (hg : lk H kg = some (gB L I eg)) (hU : Fam H kg ku eu ec us) (hC : Closed H) (hL : ∀ x ∈ L, I64 x) (h2 : 2 <= us.length) (hn : us.length <= 48) :
  ∃ x I2, WantIn us.length x /\ ∀ (st : St) (args : List Opd), Zp st args = some [.ref kg 0 0, .osl ku us.length] -> (∀ j x, lk H j = some x -> lk st.H j = some x) -> Qb3 Tryz.prog 34 args st H [] [(kg, gB L I2 eg)] (.agg (Qbd x)) := by
 obtain ⟨d, H2, ⟨x, I2, hx, rfl, rfl⟩, hok⟩ := Qdp (H := upH H) (kg := upN kg) (ku := upN ku) (L := L) (I := I) (eg := eg) (eu := eu) (ec := ec) (us := us.map UR.ren) (by unfold upN; omega) (by rw [Qa0, hg]; rfl) hU.up QkG (QeT hC) hL (by simpa using h2) (by simpa using hn)
 obtain ⟨pu, hu⟩ := hU.u
 rw [List.length_map] at hx hok
 refine ⟨x, I2, hx, fun st args ha hF => QkS (b' := gB L I2 eg) (ds' := [.ref (upN kg) 0 0, .osl (upN ku) us.length]) ha hF hC (fun x hx j hj => ?_) (ZA hg) Z Z Z Z hok⟩
 simp only [Qvf, Qve, or_false] at hx
 rcases hx with rfl | rfl
 ·simp [D.ids, D.sid] at hj; subst hj; exact ZA hg
 ·simp [D.ids, D.sid] at hj; subst hj; exact ZA hu
end Go.Proofs
namespace Go.Proofs
open Go Go.Abs M3 M25
theorem Qc4 {H : List (Nat × Box)} {kg ku : Nat} {L : List Int} {I most : Int} {eg eu ec : Nat} {us : List UR} (hkg : 1000000 <= kg) (hg : lk H kg = some (gB L I eg)) (hU : Fam H kg ku eu ec us) (hB : Big H) (hC : Closed H) (hL : ∀ x ∈ L, I64 x) (h2n : 2 <= us.length) (hn : us.length <= 48) (hm0 : 0 <= most) (hm1 : most <= 10) : ∃ d H2, (∃ ns I2, QfE us.length most ns /\ d = QY ns /\ H2 = (kg, gB L I2 eg) :: H) /\ OkH Tryz.prog 31 [.ref kg 0 0, .osl ku us.length, .int .i64 most] H d H2 := by
 obtain ⟨pu, hu⟩ := hU.u
 have hku := hB _ _ hu
 have hne := hU.ne
 have hk0 : 0 <= nx L I (most + 1) := Qln
 have hk1 : nx L I (most + 1) < most + 1 := Qlm (by omega)
 refine OkH.ofX (R := fun d H2 => ∃ ns I2, QfE us.length most ns /\ d = QY ns /\ H2 = (kg, gB L I2 eg) :: H) Z4 Tryz.func31 Quj (Qvd Z) ?_
 show TX _ _ tf31.body _ _
 refine Zs fun K hK => Qb Z (hK _ _ (Q8 (kp3 Z Z Z) ?_))
 refine Zs fun K hK => Qb Z (hK _ _ (Q8 (kp4 Z Z Z Z) ?_))
 refine QaI ?_ -- 0
 refine Zs fun K hK => Qb Z (Qb Z (Q9 Z Z (by first | exact Qs (by omega) (by omega) | rfl) (YW (Qcy (I := I) Z hg hL (by omega)) (Qb Z (hK _ _ (Q8 (kp4 Z Z Z Z) ?_))))))
 refine Xr ?_
 refine QfH (ι := Nat × List (List WantT) × Int) (fun ⟨k, ns, J⟩ => ⟨[(0, .ref kg 0 0), (1, .osl ku us.length), (7, .osl 7 ns.length), (8, .int .i64 k)], [(7, ⟨(ns).map (fun r => [Za r]), 1, 61, true⟩), (kg, gB L J eg)] ++ H⟩) (fun ⟨k, ns, J⟩ => (ns.length : Int) + k <= most /\ ∀ r ∈ ns, QiK us.length r) (fun ⟨k, ns, J⟩ => k) ((nx L I (most + 1)).toNat, [], nxI I) ?_ ?_ ?_
 ·exact le_trans (Y0 7 7 1 61 rfl (by repeat (first | exact hB.none (by decide) | refine ZD (by first | decide | omega) ?_))) (Qf9 (l := [0, 1, 7, 8]) (B := [_, _]) (kp4 rfl rfl rfl rfl) (by simp only [Int.toNat_of_nonneg hk0] <;> rfl) (by intro p hp; simp only [Qvf, Qve, or_false] at hp; rcases hp with rfl | rfl <;> exact ⟨by repeat (first | exact QD | refine Qo (by first | decide | omega) ?_), rfl⟩) rfl (by intro p hp h; simp only [Qvf, Qve, or_false] at hp; rcases hp with rfl | rfl <;> first | (simp only at h; omega) | (repeat (first | exact Q3 | refine QZ ?_))) hB hC (by intro p hp k hk; simp only [Qvf, Qve, or_false] at hp; rcases hp with rfl | rfl | rfl | rfl <;> first | (simp [D.ids, D.sid, Za, QY, QX] at hk; done) | (simp [D.ids, D.sid, Za, QY, QX] at hk; subst hk; repeat (first | exact Q3 | exact ZA hg | exact ZA hu | refine QZ ?_))))
 ·exact ⟨by simp only [List.length_nil]; omega, by simp⟩
 intro ⟨k, ns, J⟩ hI
 try dsimp only at hI
 try dsimp only
 refine QaI ?_ -- 1
 refine Zs fun K hK => Qb Z (Qdd Z Z (hK _ _ (Q8 (kp5 Z Z Z Z Z) ?_)))
 refine XM Z (fun h1 => ?_) (fun h1 => ?_)
 ·try rw [h1]
  try simp only [qA] at h1
  refine XZ (Zh (kp4 Z Z Z Z) ?_)
  refine QaI ?_ -- 2
  refine Xr (Zs fun K hK => Qb Z (Qb Z ?_))
  obtain ⟨x1, J1, hx1, hc1⟩ := Qlw (I := J) (H := (kg, gB L (J) eg) :: H) QD hU.cons (hC.pr rfl) hL h2n hn
  refine YW (hc1 _ _ rfl (QaZ (B := [_, _]) hB (by repeat (first | exact QD | refine Qo (by first | decide | omega) ?_)) (by intro p hp h; simp only [Qvf, Qve, or_false] at hp; rcases hp with rfl | rfl <;> first | rfl | (simp only at h; omega)))) ?_
  refine QP Z (by repeat (first | exact hB.none (by decide) | refine ZD (by first | decide | omega) ?_)) ?_
  refine Qb Z (hK _ _ (Q8 (kp5 Z Z Z Z Z) ?_))
  refine QrP (ι := List WantT × Int) (fun ⟨r, J4⟩ => ⟨[(0, .ref kg 0 0), (1, .osl ku us.length), (7, .osl 7 ns.length), (8, .int .i64 k), (9, Za r)], [(7, ⟨(ns).map (fun r => [Za r]), 1, 61, true⟩), (kg, gB L J4 eg)] ++ H⟩) (fun ⟨r, J4⟩ => QiK us.length r) ?_ ?_
  ·skip
   refine Zs fun K hK => Qb Z (YW (Qcy (I := J1) Z (Qo (by omega) QD) hL (by omega)) (YI Z Z (hK _ _ (Q8 (kp6 Z Z Z Z Z Z) ?_))))
   refine XM Z (fun h2 => ?_) (fun h2 => ?_)
   ·try rw [h2]
    try simp only [qA] at h2
    refine Yf fun K hK => Qb Z (Qb Z (Qb Z ?_))
    obtain ⟨x2, J2, hx2, hc2⟩ := Qlw (I := nxI J1) (H := (kg, gB L (nxI J1) eg) :: H) QD hU.cons (hC.pr rfl) hL h2n hn
    refine YW (hc2 _ _ rfl (QaZ (B := [_, _, _, _, _]) hB (by repeat (first | exact QD | refine Qo (by first | decide | omega) ?_)) (by intro p hp h; simp only [Qvf, Qve, or_false] at hp; rcases hp with rfl | rfl | rfl | rfl | rfl <;> first | rfl | (simp only at h; omega)))) ?_
    refine QP Z (by repeat (first | exact hB.none (by decide) | refine ZD (by first | decide | omega) ?_)) ?_
    refine Qqg Z Z (by simp [D.ids, D.sid]) ⟨_, rfl, rfl, rfl, rfl, rfl⟩ (by repeat (first | exact hB.none (by decide) | refine ZD (by first | decide | omega) ?_)) (Qo (by decide) (Qo (by omega) (Qo (by omega) Z))) Z Z Z (by simp) (by simp) ?_
    refine Qb Z (hK _ ?_)
    refine Zm ([x1, x2], J2) ?_ ?_
    ·exact le_trans (Qkk (l := [0, 1, 7, 8]) (B := [_, _, _, _, _, _, _, _, _]) (A := [(7, ⟨(ns).map (fun r => [Za r]), 1, 61, true⟩), (kg, gB L J2 eg)]) 30 9 (kp4 rfl rfl rfl rfl) rfl rfl rfl (by first | (simp; done) | (simp; omega)) (by intro p hp hk; simp only [Qvf, Qve, or_false] at hp; rcases hp with rfl | rfl | rfl | rfl <;> first | (simp [D.ids, D.sid, Za, QY, QX] at hk; done) | (simp [D.ids, D.sid, Za, QY, QX] at hk; omega)) (by intro p hp; simp only [Qvf, Qve, or_false] at hp; rcases hp with rfl | rfl <;> exact ⟨by first | decide | (simp only; omega), by repeat (first | exact QD | refine Qo (by first | decide | omega) ?_), rfl⟩) (by intro p hp h; simp only [Qvf, Qve, or_false] at hp; rcases hp with rfl | rfl | rfl | rfl | rfl | rfl | rfl | rfl | rfl <;> first | (simp only at h; omega) | (repeat (first | exact Q3 | refine QZ ?_))) hB hC (by intro p hp k hk; simp only [Qvf, Qve, or_false] at hp; rcases hp with rfl | rfl | rfl | rfl <;> first | (simp [D.ids, D.sid, Za, QY, QX] at hk; done) | (simp [D.ids, D.sid, Za, QY, QX] at hk; subst hk; repeat (first | exact Q3 | exact ZA hg | exact ZA hu | refine QZ ?_)))) (Qf9 (l := [0, 1, 7, 8, 9]) (B := [_, _]) (kp5 rfl rfl rfl rfl rfl) rfl (by intro p hp; simp only [Qvf, Qve, or_false] at hp; rcases hp with rfl | rfl <;> exact ⟨by repeat (first | exact QD | refine Qo (by first | decide | omega) ?_), rfl⟩) rfl (by intro p hp h; simp only [Qvf, Qve, or_false] at hp; rcases hp with rfl | rfl <;> first | (simp only at h; omega) | (repeat (first | exact Q3 | refine QZ ?_))) hB hC (by intro p hp k hk; simp only [Qvf, Qve, or_false] at hp; rcases hp with rfl | rfl | rfl | rfl | rfl <;> first | (simp [D.ids, D.sid, Za, QY, QX] at hk; done) | (simp [D.ids, D.sid, Za, QY, QX] at hk; subst hk; repeat (first | exact Q3 | exact ZA hg | exact ZA hu | refine QZ ?_))))
    ·exact Qq6 hx1 hx2
   ·try rw [h2]
    try simp only [qA] at h2
    refine XZ ?_
    refine Zm ([x1], nxI J1) ?_ ?_
    ·exact le_trans (Qkk (l := [0, 1, 7, 8]) (B := [_, _, _, _, _]) (A := [(7, ⟨(ns).map (fun r => [Za r]), 1, 61, true⟩), (kg, gB L (nxI J1) eg)]) 21 9 (kp4 rfl rfl rfl rfl) rfl (Qo (by omega) rfl) rfl (by first | (simp; done) | (simp; omega)) (by intro p hp hk; simp only [Qvf, Qve, or_false] at hp; rcases hp with rfl | rfl | rfl | rfl <;> first | (simp [D.ids, D.sid, Za, QY, QX] at hk; done) | (simp [D.ids, D.sid, Za, QY, QX] at hk; omega)) (by intro p hp; simp only [Qvf, Qve, or_false] at hp; rcases hp with rfl | rfl <;> exact ⟨by first | decide | (simp only; omega), by repeat (first | exact QD | refine Qo (by first | decide | omega) ?_), rfl⟩) (by intro p hp h; simp only [Qvf, Qve, or_false] at hp; rcases hp with rfl | rfl | rfl | rfl | rfl <;> first | (simp only at h; omega) | (repeat (first | exact Q3 | refine QZ ?_))) hB hC (by intro p hp k hk; simp only [Qvf, Qve, or_false] at hp; rcases hp with rfl | rfl | rfl | rfl <;> first | (simp [D.ids, D.sid, Za, QY, QX] at hk; done) | (simp [D.ids, D.sid, Za, QY, QX] at hk; subst hk; repeat (first | exact Q3 | exact ZA hg | exact ZA hu | refine QZ ?_)))) (Qf9 (l := [0, 1, 7, 8, 9]) (B := [_, _]) (kp5 rfl rfl rfl rfl rfl) rfl (by intro p hp; simp only [Qvf, Qve, or_false] at hp; rcases hp with rfl | rfl <;> exact ⟨by repeat (first | exact QD | refine Qo (by first | decide | omega) ?_), rfl⟩) rfl (by intro p hp h; simp only [Qvf, Qve, or_false] at hp; rcases hp with rfl | rfl <;> first | (simp only at h; omega) | (repeat (first | exact Q3 | refine QZ ?_))) hB hC (by intro p hp k hk; simp only [Qvf, Qve, or_false] at hp; rcases hp with rfl | rfl | rfl | rfl | rfl <;> first | (simp [D.ids, D.sid, Za, QY, QX] at hk; done) | (simp [D.ids, D.sid, Za, QY, QX] at hk; subst hk; repeat (first | exact Q3 | exact ZA hg | exact ZA hu | refine QZ ?_))))
    ·exact Qq5 hx1
  intro ⟨r, J4⟩ hJ
  try dsimp only at hJ
  try dsimp only
  refine Yf fun K hK => Qb Z (Qb Z ?_)
  refine QP Z (by repeat (first | exact hB.none (by decide) | refine ZD (by first | decide | omega) ?_)) ?_
  refine QaN Z Z (fun _ h => Qah Z Z Z h) Z (by simp) Z Z Z (by simp; omega) (by simp; omega) (Qb Z (hK _ ?_))
  refine Qj (Zh (kp4 Z Z Z Z) (Yf fun K hK => Qb Z (Qdm Z Z (by first | exact Qs (by omega) (by omega) | rfl) (Qb Z (hK _ ?_)))))
  refine Qm (k - 1, ns ++ [r], J4) ?_ ?_ ?_
  ·exact le_trans (Qr7 (B := [_, _, _, _]) 7 hB hC) (Qf9 (l := [0, 1, 7, 8]) (A := [(7, ⟨ns.map (fun r => [Za r]) ++ [[Za r]], 1, 61, true⟩), (kg, gB L J4 eg)]) (B := [_, _, _, _]) (kp4 rfl rfl rfl rfl) (by simp [D.scrub, show ¬ kg = 7 by omega, show ¬ ku = 7 by omega] <;> omega) (by intro p hp; simp only [Qvf, Qve, or_false] at hp; rcases hp with rfl | rfl <;> exact ⟨by repeat (first | exact QD | refine Qo (by first | decide | omega) ?_), rfl⟩) (by simp) (by intro p hp h; simp only [Qvf, Qve, or_false] at hp; rcases hp with rfl | rfl | rfl | rfl <;> first | (simp only at h; omega) | (repeat (first | exact Q3 | refine QZ ?_))) hB hC (by intro p hp k hk; simp only [Qvf, Qve, or_false] at hp; rcases hp with rfl | rfl | rfl | rfl <;> first | (simp [D.ids, D.sid, Za, QY, QX] at hk; done) | (simp [D.ids, D.sid, Za, QY, QX] at hk; subst hk; repeat (first | exact Q3 | exact ZA hg | exact ZA hu | refine QZ ?_))))
  ·exact ⟨by simp only [List.length_append, List.length_singleton]; omega, QnS hI.2 hJ⟩
  ·show k - 1 < k; omega
 ·try rw [h1]
  try simp only [qA] at h1
  refine QeX (X6 (Qz (QH (Zh (kp1 Z) (Zs fun K hK => Qb Z (Qb Z (hK _ _ (Q8 (kp1 Z) ?_))))))))
  refine QiL ?_
  refine ⟨QY ns, (kg, gB L J eg) :: H, ⟨ns, _, ⟨by omega, hI.2⟩, rfl, rfl⟩, (XX hB hC hkg rfl).1, (XX hB hC hkg rfl).2, ?_⟩
  refine QaF Z (by simp [Qod, D.fz, D.fzS, Qg1, lk, D.can, D.canS, QY]) ?_
  exact QaZ (B := [_, _]) hB (by repeat (first | exact QD | refine Qo (by first | decide | omega) ?_)) (by intro p hp h; simp only [Qvf, Qve, or_false] at hp; rcases hp with rfl | rfl <;> first | rfl | (simp only at h; omega))
end Go.Proofs
namespace Go.Proofs
open Go Go.Abs M3 M25
theorem Qc5 {kg : Nat} {L : List Int} {I most : Int} {eg eu ec : Nat} (heu : eu = 56) (hec : ec = 63) (hkg : 1000000 <= kg) (hL : ∀ x ∈ L, I64 x) (hm0 : 1 <= most) (hm1 : most <= 5) : ∃ d H2, (∃ us I2, (UnitsIn us /\ 2 <= us.length /\ us.length <= 11) /\ d = .osl 500000 us.length /\ H2 = ((500000, ⟨us.map dUR, 3, eu, false⟩) :: fbx ec us) ++ [(kg, gB L I2 eg), (kg, gB L I eg)]) /\ OkH Tryz.prog 30 [.ref kg 0 0, .int .i64 most] [(kg, gB L I eg)] d H2 := by
 subst heu hec
 have e3 : ¬ kg = 500000 := by omega
 have k1 := Qpu (a := 18) (b := 500000) hkg (by decide) (by decide)
 have k2 := Qpu (a := 16) (b := 500001) hkg (by decide) (by decide)
 refine OkH.ofX (R := fun d H2 => ∃ us I2, (UnitsIn us /\ 2 <= us.length /\ us.length <= 11) /\ d = .osl 500000 us.length /\ H2 = ((500000, ⟨us.map dUR, 3, 56, false⟩) :: fbx 63 us) ++ [(kg, gB L I2 eg), (kg, gB L I eg)]) Z4 Tryz.func30 Qui (Qvd Z) ?_
 show TX _ _ tf30.body _ _
 refine Zs fun K hK => Qb Z (hK _ _ (Q8 (kp2 Z Z) ?_))
 refine Zs fun K hK => ?_
 refine QP Z (by repeat (first | exact Z | refine ZD (by first | decide | omega) ?_)) ?_
 refine Qb Z (hK _ _ (Q8 (kp3 Z Z Z) ?_))
 refine Qmu (Qkk (l := [0, 1]) (B := [_]) (A := []) (H0 := [(kg, gB L I eg)]) 14 5 (kp2 rfl rfl) rfl rfl rfl rfl (by intro p hp hk; simp only [Qvf, Qve, or_false] at hp; rcases hp with rfl | rfl <;> first | (simp [D.ids, D.sid, Za, QY, QX] at hk; done) | (simp [D.ids, D.sid, Za, QY, QX] at hk; omega)) (by intro p hp; cases hp) (by intro p hp h; simp only [Qvm] at hp; subst hp; simp only at h; omega) (fun k b h => by obtain ⟨rfl, rfl⟩ := Qag h; exact hkg) (fun k b h j hj => by obtain ⟨rfl, rfl⟩ := Qag h; simp [Box.ids, gB] at hj) (by intro p hp k hk; simp only [Qvf, Qve, or_false] at hp; rcases hp with rfl | rfl <;> first | (simp [D.ids, D.sid, Za, QY, QX] at hk; done) | (simp [D.ids, D.sid, Za, QY, QX] at hk; subst hk; repeat (first | exact Q3 | refine QZ ?_)))) ?_
 refine Zs fun K hK => Q2 Z Z ?_
 refine QP Z (by repeat (first | exact Z | refine ZD (by first | decide | omega) ?_)) ?_
 refine Q2 Z Z ?_
 refine QP Z (by repeat (first | exact Z | refine ZD (by first | decide | omega) ?_)) ?_
 refine Qb Z (hK _ _ (Q8 (kp4 Z Z Z Z) ?_))
 refine Zs fun K hK => QA (XC) Z Z (.inl Z) (Qb Z (hK _ _ (Q8 (kp5 Z Z Z Z Z) ?_)))
 refine QaI ?_ -- 0
 refine Zs fun K hK => Qb Z (hK _ _ (Q8 (kp6 Z Z Z Z Z Z) ?_))
 refine Xr ?_
 refine QfH (ι := List UR × Int × Nat) (fun ⟨us, J, n⟩ => ⟨[(0, .ref kg 0 0), (1, .int .i64 most), (5, .sl (Y8 names5)), (6, .osl 500000 us.length), (7, .sl (versions.map dVr)), (8, .int .i64 n)], [(500000, ⟨(us).map dUR, 3, 56, false⟩), (kg, gB L (J) eg)] ++ fbx 63 (us)⟩) (fun ⟨us, J, n⟩ => UnitsIn us /\ us.length <= 1 + 2 * n /\ n <= 5 /\ 1 + n <= us.length) (fun ⟨us, J, n⟩ => 5 - n) ([u0 v0], I, 0) ?_ ?_ ?_
 ·refine Qns (l := [0, 1, 5, 6, 7, 8]) hkg (kp6 Z Z Z Z Z Z) ?_; simp only [List.map_cons, List.map_nil, D.ren, D.renS, k1, k2]; rfl
 ·exact ⟨UnitsIn.zero, by simp, by omega, by simp⟩
 intro ⟨us, J, n⟩ hI
 try dsimp only at hI
 have e1 : ¬ kg = 500001 + us.length := by omega
 have e2 : ¬ 500000 = 500001 + us.length := by omega
 have e4 : ¬ 500001 + us.length = 500000 := by omega
 have hx0 : 0 <= nx L J most := Qln
 have hx1 : nx L J most < most := Qlm (by omega)
 have hn5 := Zg
 have hv4 := Qri
 try dsimp only
 refine QaI ?_ -- 1
 refine Zs fun K hK => Qb Z (Qb Z (Qb Z ?_))
 refine YW (Qcy (I := J) Z (by repeat (first | exact QD | refine Qo (by omega) ?_)) hL (by omega)) ?_
 refine Q9 Z Z (by first | exact Qs (by omega) (by omega) | rfl) (Z8 Z Z (Qb Z ?_))
 refine Qv (g := 26) Z (fun h1 => ?_) (fun h1 => ?_)
 ·try rw [h1]
  try simp only [qA] at h1
  refine Qf Z (Qb Z (Qf Z (Qb Z (Qf Z ?_))))
  first | refine Q0 rfl Zb ?_ | refine Q0 rfl rfl ?_
  refine Qf Z (Z8 Z Z (Qh Z Z (hK _ _ (Q8 (kp7 Z Z Z Z Z Z Z) ?_))))
  refine XM Z (fun h2 => ?_) (fun h2 => ?_)
  ·try rw [h2]
   try simp only [qA] at h2
   refine XZ (Zh (kp6 Z Z Z Z Z Z) ?_)
   refine QaI ?_ -- 2
   refine Xr (Zs fun K hK => Qb Z (hK _ _ (Q8 (kp7 Z Z Z Z Z Z Z) ?_)))
   refine Zs fun K hK => Qb Z ?_
   refine YW (Qcy (I := nxI J) Z (by repeat (first | exact QD | refine Qo (by omega) ?_)) hL (by omega)) ?_
   refine Qb Z (hK _ _ (Q8 (kp8 Z Z Z Z Z Z Z Z) ?_))
   refine QaI ?_ -- 3
   refine Zs fun K hK => Qb Z (hK _ _ (Q8 (kp9 Z Z Z Z Z Z Z Z Z) ?_))
   refine Xr ?_
   refine QfH (ι := List CR × Nat) (fun ⟨cs, i⟩ => ⟨[(0, .ref kg 0 0), (1, .int .i64 most), (5, .sl (Y8 names5)), (6, .osl 500000 us.length), (7, .sl (versions.map dVr)), (8, .int .i64 n), (9, .osl (500001 + us.length) cs.length), (10, .int .i64 (nx L (nxI J) 16)), (11, .int .i64 i)], [(500001 + (us).length, ⟨(cs).map dCR, 8, 63, true⟩), (500000, ⟨(us).map dUR, 3, 56, false⟩), (kg, gB L (nxI (nxI J)) eg)] ++ fbx 63 (us)⟩) (fun ⟨cs, i⟩ => i <= 4 /\ CsIn i cs) (fun ⟨cs, i⟩ => 4 - i) ([], 0) ?_ ?_ ?_
   ·exact le_trans (Y0 9 (500001 + us.length) 8 63 rfl (by repeat (first | exact Y9 hI.1.keys (.inr (by omega)) | refine ZD (by omega) ?_))) (Qrw (l := [0, 1, 5, 6, 7, 8, 9, 10, 11]) (B := [_, _, _, _, _]) (kp9 rfl rfl rfl rfl rfl rfl rfl rfl rfl) rfl hI.1.keys (by repeat (first | exact QD | refine Qo (by omega) ?_)) (by repeat (first | exact QD | refine Qo (by omega) ?_)) (by repeat (first | exact QD | refine Qo (by omega) ?_)) (by intro p hp h; simp only [Qvf, Qve, or_false] at hp; rcases hp with rfl | rfl | rfl | rfl | rfl <;> first | (simp only at h; omega) | exact .inl rfl | exact .inr rfl) (by intro p hp k hk; simp only [Qvf, Qve, or_false] at hp; rcases hp with rfl | rfl | rfl | rfl | rfl | rfl | rfl | rfl | rfl <;> first | (simp [D.ids, D.sid, Za, QY, QX] at hk; done) | (simp [D.ids, D.sid, Za, QY, QX] at hk; subst hk; first | exact .inl rfl | exact .inr (.inl rfl) | exact .inr (.inr (.inl rfl)) | (refine .inr (.inr (.inl ?_)); simp; done) | (first | exact .inr (.inr ⟨_, Qvs _ (Qvm.2 rfl), rfl⟩) | exact .inr (.inr (.inr ⟨_, Qvs _ (Qvm.2 rfl), rfl⟩))))))
   ·exact ⟨by omega, CsIn.nil _⟩
   intro ⟨cs, i⟩ hC
   try dsimp only at hC
   have hcl := hC.2.1
   try dsimp only
   refine QaI ?_ -- 4
   refine Zs fun K hK => Qb Z (Qb Z ?_)
   first | refine Q0 rfl Zb ?_ | refine Q0 rfl rfl ?_
   refine Z8 Z Z (hK _ _ (Q8 (Qec Z Z Z Z Z Z Z Z Z Z) ?_))
   refine XM Z (fun h3 => ?_) (fun h3 => ?_)
   ·try rw [h3]
    try simp only [qA] at h3
    refine XZ (Zh (kp9 Z Z Z Z Z Z Z Z Z) ?_)
    refine QaI ?_ -- 5
    refine Xr (Zs fun K hK => Qb Z (Qb Z (QfG Z (QfC (by omega) (by omega)) (QrL Z Z (by omega) (Qfb Z Z (YI Z Z (hK _ _ (Q8 (Qec Z Z Z Z Z Z Z Z Z Z) ?_))))))))
    refine XM Z (fun h4 => ?_) (fun h4 => ?_)
    ·try rw [h4]
     try simp only [qA] at h4
     refine Yf fun K hK => Qb Z (Qb Z (Qb Z (QM Z Z Z (by omega) (Zk (by omega)) Z (QB (cs := [_, _, _, _, _]) Z Z Z Z (Q2 Z Z ?_)))))
     refine QP Z (by repeat (first | exact Y9 hI.1.keys (.inl (by omega)) | exact Y9 hK1.keys (.inl (by omega)) | refine ZD (by first | decide | omega) ?_)) ?_
     refine QaN (hk0 := by omega) Z Z (fun _ h => Qah Z Z Z h) (Qo (by omega) QD) (by simp) Z Z Z (by simp; omega) (by simp; omega) (Qb Z (hK _ ?_))
     refine Qj (Zh (kp9 Z Z Z Z Z Z Z Z Z) (Yf fun K hK => Qb Z (Q9 Z Z (by first | exact Qs (by omega) (by omega) | rfl) (Qb Z (hK _ ?_)))))
     refine Qm (cs ++ [zr (versions[i]'(by omega)) 0], i + 1) ?_ ?_ ?_
     ·exact le_trans (Qh6 (B := [_, _, _, _, _]) (500001 + us.length) (QfY _ _)) (Qrw (l := [0, 1, 5, 6, 7, 8, 9, 10, 11]) (B := [_, _, _, _, _]) (kp9 rfl rfl rfl rfl rfl rfl rfl rfl rfl) (by simp [D.scrub, e1, e2, e3, e4] <;> omega) hI.1.keys (by rw [List.map_append]; exact QD) (by repeat (first | exact QD | exact Qli (QjJ hI.1.keys) | refine Qo (by omega) ?_)) (by repeat (first | exact QD | refine Qo (by omega) ?_)) (by intro p hp h; simp only [Qvf, Qve, or_false] at hp; rcases hp with rfl | rfl | rfl | rfl | rfl <;> first | (simp only at h; omega) | exact .inl rfl | exact .inr rfl) (by intro p hp k hk; simp only [Qvf, Qve, or_false] at hp; rcases hp with rfl | rfl | rfl | rfl | rfl | rfl | rfl | rfl | rfl <;> first | (simp [D.ids, D.sid, Za, QY, QX] at hk; done) | (simp [D.ids, D.sid, Za, QY, QX] at hk; subst hk; first | exact .inl rfl | exact .inr (.inl rfl) | exact .inr (.inr (.inl rfl)) | (refine .inr (.inr (.inl ?_)); simp; done) | (first | exact .inr (.inr ⟨_, Qvs _ (Qvm.2 rfl), rfl⟩) | exact .inr (.inr (.inr ⟨_, Qvs _ (Qvm.2 rfl), rfl⟩))))))
     ·try dsimp only
      exact ⟨by omega, hC.2.snoc (Qsv (by omega))⟩
     ·show 4 - (i + 1) < 4 - i; omega
    ·try rw [h4]
     try simp only [qA] at h4
     refine XZ (Qj (Zh (kp9 Z Z Z Z Z Z Z Z Z) (Yf fun K hK => Qb Z (Q9 Z Z (by first | exact Qs (by omega) (by omega) | rfl) (Qb Z (hK _ ?_))))))
     refine Qm (cs, i + 1) ?_ ?_ ?_
     ·exact Qrw (l := [0, 1, 5, 6, 7, 8, 9, 10, 11]) (B := [_, _, _]) (kp9 rfl rfl rfl rfl rfl rfl rfl rfl rfl) rfl hI.1.keys (by repeat (first | exact QD | refine Qo (by omega) ?_)) (by repeat (first | exact QD | refine Qo (by omega) ?_)) (by repeat (first | exact QD | refine Qo (by omega) ?_)) (by intro p hp h; simp only [Qvf, Qve, or_false] at hp; rcases hp with rfl | rfl | rfl <;> first | (simp only at h; omega) | exact .inl rfl | exact .inr rfl) (by intro p hp k hk; simp only [Qvf, Qve, or_false] at hp; rcases hp with rfl | rfl | rfl | rfl | rfl | rfl | rfl | rfl | rfl <;> first | (simp [D.ids, D.sid, Za, QY, QX] at hk; done) | (simp [D.ids, D.sid, Za, QY, QX] at hk; subst hk; first | exact .inl rfl | exact .inr (.inl rfl) | exact .inr (.inr (.inl rfl)) | (refine .inr (.inr (.inl ?_)); simp; done) | (first | exact .inr (.inr ⟨_, Qvs _ (Qvm.2 rfl), rfl⟩) | exact .inr (.inr (.inr ⟨_, Qvs _ (Qvm.2 rfl), rfl⟩)))))
     ·try dsimp only
      exact ⟨by omega, hC.2.keep⟩
     ·show 4 - (i + 1) < 4 - i; omega
   ·try rw [h3]
    try simp only [qA] at h3
    refine QeX (X6 (Qz (QH (Zh (kp7 Z Z Z Z Z Z Z) (Zs fun K hK => Qb Z (Qb Z (Qb Z (QM Z Z Z (by omega) (Zk (by omega)) Z (QC Z Z Z (Qb Z ?_))))))))))
    refine Q2 Z Z ?_
    refine QP Z (by repeat (first | exact Y9 hI.1.keys (.inl (by omega)) | exact Y9 hK1.keys (.inl (by omega)) | refine ZD (by first | decide | omega) ?_)) ?_
    refine QjW (hk0 := by decide) Z Z (fun _ h => Qah Z Z Z h) (Qo (by omega) (Qo (by omega) QD)) (by simp) Z Z (.inr (QlJ hI.1.keys (by omega))) (by simp; omega) (by simp; omega) (Qb Z (hK _ _ (Q8 (kp7 Z Z Z Z Z Z Z) ?_)))
    have hc4 : CsIn 4 cs := ⟨by omega, hC.2.2⟩
    refine Qmu (le_trans (Qh6 (B := [_, _, _, _, _]) 500000 (QfY _ _)) (Qsu (u := (UR.mk (names5[n]'(by have := Zg; omega)) [] (500001 + us.length) cs)) (l := [0, 1, 5, 6, 7, 8, 9]) (fr' := [(0, .ref kg 0 0), (1, .int .i64 most), (5, .sl (Y8 names5)), (6, .osl 500000 (us ++ [(UR.mk (names5[n]'(by have := Zg; omega)) [] (500001 + us.length) cs)]).length), (7, .sl (versions.map dVr)), (8, .int .i64 n), (9, .osl (500001 + us.length) cs.length)]) (B := [_, _, _, _, _]) (kp7 rfl rfl rfl rfl rfl rfl rfl) (by simp [D.scrub, e1, e2, e3, e4]) hI.1.keys rfl (by repeat (first | exact QD | refine Qo (by omega) ?_)) (by rw [List.map_append]; exact QD) (by repeat (first | exact QD | refine Qo (by omega) ?_)) (by intro p hp h; simp only [Qvf, Qve, or_false] at hp; rcases hp with rfl | rfl | rfl | rfl | rfl <;> first | (simp only at h; omega) | exact .inl rfl | exact .inr rfl) hkg (by omega) (by intro p hp k hk; simp only [Qvf, Qve, or_false] at hp; rcases hp with rfl | rfl | rfl | rfl | rfl | rfl | rfl <;> first | (simp [D.ids, D.sid, Za, QY, QX] at hk; done) | (simp [D.ids, D.sid, Za, QY, QX] at hk; subst hk; first | exact .inl rfl | exact .inr (.inl rfl) | (first | exact .inr (.inr ⟨_, Qvs _ (Qvm.2 rfl), rfl⟩) | exact .inr (.inr (.inr ⟨_, Qvs _ (Qvm.2 rfl), rfl⟩))))))) ?_
    have hK1 := hI.1.snoc (n := (names5[n]'(by have := Zg; omega))) (f := []) hc4.1 hc4.2
    have hl1 : (us ++ [(UR.mk (names5[n]'(by have := Zg; omega)) [] (500001 + us.length) cs)]).length = us.length + 1 := by simp
    have f1 : ¬ kg = 500001 + (us ++ [(UR.mk (names5[n]'(by have := Zg; omega)) [] (500001 + us.length) cs)]).length := by omega
    have f2 : ¬ 500000 = 500001 + (us ++ [(UR.mk (names5[n]'(by have := Zg; omega)) [] (500001 + us.length) cs)]).length := by omega
    have f4 : ¬ 500001 + (us ++ [(UR.mk (names5[n]'(by have := Zg; omega)) [] (500001 + us.length) cs)]).length = 500000 := by omega
    have f5 : ¬ 500001 + us.length = 500001 + (us ++ [(UR.mk (names5[n]'(by have := Zg; omega)) [] (500001 + us.length) cs)]).length := by omega
    refine Zs fun K hK => Qb Z (Z8 Z Z (Qb Z ?_))
    refine Qv (g := 67) Z (fun h5 => ?_) (fun h5 => ?_)
    ·try rw [h5]
     try simp only [qA] at h5
     refine Qf Z (Qb Z (Qf Z ?_))
     refine YW (Qcy (I := nxI (nxI J)) Z (by repeat (first | exact QD | refine Qo (by omega) ?_)) hL (by omega)) ?_
     refine Qf Z (YI Z Z (Qh Z Z (hK _ _ (Q8 (kp8 Z Z Z Z Z Z Z Z) ?_))))
     refine XM Z (fun h6 => ?_) (fun h6 => ?_)
     ·try rw [h6]
      try simp only [qA] at h6
      refine Zs fun K hK => Qb Z (hK _ _ (Q8 (kp8 Z Z Z Z Z Z Z Z) ?_))
      refine QaI ?_ -- 6
      refine Zs fun K hK => Qb Z (hK _ _ (Q8 (kp9 Z Z Z Z Z Z Z Z Z) ?_))
      refine Xr ?_
      refine QfH (ι := List CR × Nat × Int) (fun ⟨c2, m, J3⟩ => ⟨[(0, .ref kg 0 0), (1, .int .i64 most), (5, .sl (Y8 names5)), (6, .osl 500000 (us ++ [(UR.mk (names5[n]'(by have := Zg; omega)) [] (500001 + us.length) cs)]).length), (7, .sl (versions.map dVr)), (8, .int .i64 n), (9, .osl (500001 + us.length) cs.length), (12, .osl (500001 + (us ++ [(UR.mk (names5[n]'(by have := Zg; omega)) [] (500001 + us.length) cs)]).length) c2.length), (13, .int .i64 m)], [(500001 + (us ++ [(UR.mk (names5[n]'(by have := Zg; omega)) [] (500001 + us.length) cs)]).length, ⟨(c2).map dCR, 8, 63, true⟩), (500000, ⟨(us ++ [(UR.mk (names5[n]'(by have := Zg; omega)) [] (500001 + us.length) cs)]).map dUR, 3, 56, false⟩), (kg, gB L (J3) eg)] ++ fbx 63 (us ++ [(UR.mk (names5[n]'(by have := Zg; omega)) [] (500001 + us.length) cs)])⟩) (fun ⟨c2, m, J3⟩ => m <= cs.length /\ CsIn m c2) (fun ⟨c2, m, J3⟩ => cs.length - m) ([], 0, nxI (nxI (nxI J))) ?_ ?_ ?_
      ·exact le_trans (Y0 12 (500001 + (us ++ [(UR.mk (names5[n]'(by have := Zg; omega)) [] (500001 + us.length) cs)]).length) 8 63 rfl (by repeat (first | exact Y9 hK1.keys (.inr (by omega)) | refine ZD (by omega) ?_))) (Qrw (l := [0, 1, 5, 6, 7, 8, 9, 12, 13]) (B := [_, _, _, _]) (kp9 rfl rfl rfl rfl rfl rfl rfl rfl rfl) rfl hK1.keys (by repeat (first | exact QD | refine Qo (by omega) ?_)) (by repeat (first | exact QD | refine Qo (by omega) ?_)) (by repeat (first | exact QD | refine Qo (by omega) ?_)) (by intro p hp h; simp only [Qvf, Qve, or_false] at hp; rcases hp with rfl | rfl | rfl | rfl <;> first | (simp only at h; omega) | exact .inl rfl | exact .inr rfl) (by intro p hp k hk; simp only [Qvf, Qve, or_false] at hp; rcases hp with rfl | rfl | rfl | rfl | rfl | rfl | rfl | rfl | rfl <;> first | (simp [D.ids, D.sid, Za, QY, QX] at hk; done) | (simp [D.ids, D.sid, Za, QY, QX] at hk; subst hk; first | exact .inl rfl | exact .inr (.inl rfl) | exact .inr (.inr (.inl rfl)) | (refine .inr (.inr (.inl ?_)); simp; done) | (first | exact .inr (.inr ⟨_, Qvs _ (Qvm.2 rfl), rfl⟩) | exact .inr (.inr (.inr ⟨_, Qvs _ (Qvm.2 rfl), rfl⟩))))))
      ·exact ⟨by omega, CsIn.nil _⟩
      intro ⟨c2, m, J3⟩ hM
      try dsimp only at hM
      have hcl2 := hM.2.1
      try dsimp only
      refine QaI ?_ -- 7
      refine Zs fun K hK => Qb Z (Qb Z ?_)
      first | refine Q0 rfl Zb ?_ | refine Q0 rfl rfl ?_
      refine Z8 Z Z (hK _ _ (Q8 (Qec Z Z Z Z Z Z Z Z Z Z) ?_))
      refine XM Z (fun h7 => ?_) (fun h7 => ?_)
      ·try rw [h7]
       try simp only [qA] at h7
       refine XZ (Zh (kp9 Z Z Z Z Z Z Z Z Z) ?_)
       refine QaI ?_ -- 8
       refine Xr (Zs fun K hK => Qb Z ?_)
       refine YW (Qcy (I := J3) Z (by repeat (first | exact QD | refine Qo (by omega) ?_)) hL (by omega)) ?_
       refine Qdd Z Z (hK _ _ (Q8 (Qec Z Z Z Z Z Z Z Z Z Z) ?_))
       refine XM Z (fun h8 => ?_) (fun h8 => ?_)
       ·try rw [h8]
        try simp only [qA] at h8
        refine Yf fun K hK => Qb Z (Qb Z (Qb Z (Qby Z Z (Qo (by omega) (Qo (by omega) (Qo (by omega) (Qo (by omega) (QhV (u := (UR.mk (names5[n]'(by have := Zg; omega)) [] (500001 + us.length) cs)) hI.1.keys Z))))) (by simp) (by omega) (by omega) Z (Qg Z (ZA (Qo (by omega) (Qo (by omega) (Qo (by omega) (Qo (by omega) (QhV (u := (UR.mk (names5[n]'(by have := Zg; omega)) [] (500001 + us.length) cs)) hI.1.keys Z)))))) (QB (cs := [_, _, _, _, _]) Z (Yu (Qo (by omega) (Qo (by omega) (Qo (by omega) (Qo (by omega) (QhV (u := (UR.mk (names5[n]'(by have := Zg; omega)) [] (500001 + us.length) cs)) hI.1.keys Z))))) (Zk (l := cs) (by omega))) Z Z (Q2 Z Z ?_))))))
        refine QP Z (by repeat (first | exact Y9 hI.1.keys (.inl (by omega)) | exact Y9 hK1.keys (.inl (by omega)) | refine ZD (by first | decide | omega) ?_)) ?_
        refine QaN (hk0 := by omega) Z Z (fun _ h => Qah Z Z Z h) (Qo (by omega) (Qo (by omega) QD)) (by simp) Z Z Z (by simp; omega) (by simp; omega) (Qb Z (hK _ ?_))
        refine Qj (Zh (kp9 Z Z Z Z Z Z Z Z Z) (Yf fun K hK => Qb Z (Q9 Z Z (by first | exact Qs (by omega) (by omega) | rfl) (Qb Z (hK _ ?_)))))
        refine Qm (c2 ++ [zr (cs[m]'(by omega)).v 0], m + 1, nxI J3) ?_ ?_ ?_
        ·exact le_trans (Qh6 (B := [_, _, _, _, _, _]) (500001 + (us ++ [(UR.mk (names5[n]'(by have := Zg; omega)) [] (500001 + us.length) cs)]).length) (QfY _ _)) (Qrw (l := [0, 1, 5, 6, 7, 8, 9, 12, 13]) (B := [_, _, _, _, _, _]) (kp9 rfl rfl rfl rfl rfl rfl rfl rfl rfl) (by simp [D.scrub, f1, f2, f4, f5] <;> omega) hK1.keys (by rw [QqA (cs := c2)]; exact QD) (by repeat (first | exact QD | exact Qli (QjJ hK1.keys) | refine Qo (by omega) ?_)) (by repeat (first | exact QD | refine Qo (by omega) ?_)) (by intro p hp h; simp only [Qvf, Qve, or_false] at hp; rcases hp with rfl | rfl | rfl | rfl | rfl | rfl <;> first | (simp only at h; omega) | exact .inl rfl | exact .inr rfl) (by intro p hp k hk; simp only [Qvf, Qve, or_false] at hp; rcases hp with rfl | rfl | rfl | rfl | rfl | rfl | rfl | rfl | rfl <;> first | (simp [D.ids, D.sid, Za, QY, QX] at hk; done) | (simp [D.ids, D.sid, Za, QY, QX] at hk; subst hk; first | exact .inl rfl | exact .inr (.inl rfl) | exact .inr (.inr (.inl rfl)) | (refine .inr (.inr (.inl ?_)); simp; done) | (first | exact .inr (.inr ⟨_, Qvs _ (Qvm.2 rfl), rfl⟩) | exact .inr (.inr (.inr ⟨_, Qvs _ (Qvm.2 rfl), rfl⟩))))))
        ·try dsimp only
         exact ⟨by omega, hM.2.snoc (hC.2.at (by omega))⟩
        ·show cs.length - (m + 1) < cs.length - m; omega
       ·try rw [h8]
        try simp only [qA] at h8
        refine XZ (Qj (Zh (kp9 Z Z Z Z Z Z Z Z Z) (Yf fun K hK => Qb Z (Q9 Z Z (by first | exact Qs (by omega) (by omega) | rfl) (Qb Z (hK _ ?_))))))
        refine Qm (c2, m + 1, nxI J3) ?_ ?_ ?_
        ·exact Qrw (l := [0, 1, 5, 6, 7, 8, 9, 12, 13]) (B := [_, _, _, _]) (kp9 rfl rfl rfl rfl rfl rfl rfl rfl rfl) rfl hK1.keys (by repeat (first | exact QD | refine Qo (by omega) ?_)) (by repeat (first | exact QD | refine Qo (by omega) ?_)) (by repeat (first | exact QD | refine Qo (by omega) ?_)) (by intro p hp h; simp only [Qvf, Qve, or_false] at hp; rcases hp with rfl | rfl | rfl | rfl <;> first | (simp only at h; omega) | exact .inl rfl | exact .inr rfl) (by intro p hp k hk; simp only [Qvf, Qve, or_false] at hp; rcases hp with rfl | rfl | rfl | rfl | rfl | rfl | rfl | rfl | rfl <;> first | (simp [D.ids, D.sid, Za, QY, QX] at hk; done) | (simp [D.ids, D.sid, Za, QY, QX] at hk; subst hk; first | exact .inl rfl | exact .inr (.inl rfl) | exact .inr (.inr (.inl rfl)) | (refine .inr (.inr (.inl ?_)); simp; done) | (first | exact .inr (.inr ⟨_, Qvs _ (Qvm.2 rfl), rfl⟩) | exact .inr (.inr (.inr ⟨_, Qvs _ (Qvm.2 rfl), rfl⟩)))))
        ·try dsimp only
         exact ⟨by omega, hM.2.keep⟩
        ·show cs.length - (m + 1) < cs.length - m; omega
      ·try rw [h7]
       try simp only [qA] at h7
       refine QeX (X6 (Qz (QH (Zh (kp7 Z Z Z Z Z Z Z) (Yf fun K hK => Qb Z (Qb Z (Qb Z (QM Z Z Z (by omega) (Zk (by omega)) Z (QC Z Z Z (Qb Z ?_))))))))))
       refine Q2 Z Z ?_
       refine QP Z (by repeat (first | exact Y9 hI.1.keys (.inl (by omega)) | exact Y9 hK1.keys (.inl (by omega)) | refine ZD (by first | decide | omega) ?_)) ?_
       refine QjW (hk0 := by decide) Z Z (fun _ h => Qah Z Z Z h) (Qo (by omega) (Qo (by omega) QD)) (by simp) Z Z (.inr (QlJ hK1.keys (by omega))) (by simp; omega) (by simp; omega) (Qb Z (hK _ ?_))
       refine Qj (Zh (kp6 Z Z Z Z Z Z) (Yf fun K hK => Qb Z (Q9 Z Z (by first | exact Qs (by omega) (by omega) | rfl) (Qb Z (hK _ ?_)))))
       refine Qm (us ++ [(UR.mk (names5[n]'(by have := Zg; omega)) [] (500001 + us.length) cs)] ++ [(UR.mk (names5[n]'(by have := Zg; omega)) [102] (500001 + (us ++ [(UR.mk (names5[n]'(by have := Zg; omega)) [] (500001 + us.length) cs)]).length) c2)], J3, n + 1) ?_ ?_ ?_
       ·exact le_trans (Qh6 (B := [_, _, _, _, _]) 500000 (QfY _ _)) (Qsu (u := (UR.mk (names5[n]'(by have := Zg; omega)) [102] (500001 + (us ++ [(UR.mk (names5[n]'(by have := Zg; omega)) [] (500001 + us.length) cs)]).length) c2)) (l := [0, 1, 5, 6, 7, 8]) (B := [_, _, _, _, _]) (kp6 rfl rfl rfl rfl rfl rfl) (by simp [D.scrub, f1, f2, e3, f4, e4] <;> omega) hK1.keys rfl (by repeat (first | exact QD | refine Qo (by omega) ?_)) (by rw [Qrg (u := (UR.mk (names5[n]'(by have := Zg; omega)) [102] (500001 + (us ++ [(UR.mk (names5[n]'(by have := Zg; omega)) [] (500001 + us.length) cs)]).length) c2))]; exact QD) (by repeat (first | exact QD | refine Qo (by omega) ?_)) (by intro p hp h; simp only [Qvf, Qve, or_false] at hp; rcases hp with rfl | rfl | rfl | rfl | rfl <;> first | (simp only at h; omega) | exact .inl rfl | exact .inr rfl) hkg (by omega) (by intro p hp k hk; simp only [Qvf, Qve, or_false] at hp; rcases hp with rfl | rfl | rfl | rfl | rfl | rfl <;> first | (simp [D.ids, D.sid, Za, QY, QX] at hk; done) | (simp [D.ids, D.sid, Za, QY, QX] at hk; subst hk; first | exact .inl rfl | exact .inr (.inl rfl) | (first | exact .inr (.inr ⟨_, Qvs _ (Qvm.2 rfl), rfl⟩) | exact .inr (.inr (.inr ⟨_, Qvs _ (Qvm.2 rfl), rfl⟩))))))
       ·try dsimp only
        exact ⟨hK1.snoc (by omega) hM.2.2, by simp; omega, by omega, by simp; omega⟩
       ·show 5 - (n + 1) < 5 - n; omega
     ·try rw [h6]
      try simp only [qA] at h6
      refine XZ (Qj (Zh (kp6 Z Z Z Z Z Z) (Yf fun K hK => Qb Z (Q9 Z Z (by first | exact Qs (by omega) (by omega) | rfl) (Qb Z (hK _ ?_))))))
      refine Qm (us ++ [(UR.mk (names5[n]'(by have := Zg; omega)) [] (500001 + us.length) cs)], nxI (nxI (nxI J)), n + 1) ?_ ?_ ?_
      ·exact QtZ (l := [0, 1, 5, 6, 7, 8]) (B := [_, _, _]) (kp6 rfl rfl rfl rfl rfl rfl) rfl hK1.keys (by repeat (first | exact QD | refine Qo (by omega) ?_)) (by repeat (first | exact QD | refine Qo (by omega) ?_)) (by intro p hp h; simp only [Qvf, Qve, or_false] at hp; rcases hp with rfl | rfl | rfl <;> first | (simp only at h; omega) | rfl) (by omega) (by intro p hp k hk; simp only [Qvf, Qve, or_false] at hp; rcases hp with rfl | rfl | rfl | rfl | rfl | rfl <;> first | (simp [D.ids, D.sid, Za, QY, QX] at hk; done) | (simp [D.ids, D.sid, Za, QY, QX] at hk; subst hk; first | exact .inl rfl | exact .inr (.inl rfl) | (first | exact .inr (.inr ⟨_, Qvs _ (Qvm.2 rfl), rfl⟩) | exact .inr (.inr (.inr ⟨_, Qvs _ (Qvm.2 rfl), rfl⟩)))))
      ·try dsimp only
       exact ⟨hK1, by simp; omega, by omega, by simp; omega⟩
      ·show 5 - (n + 1) < 5 - n; omega
    ·try rw [h5]
     try simp only [qA] at h5
     refine Qq Z (Qq Z (Qq Z (Qh Z Z (hK _ _ (Q8 (kp8 Z Z Z Z Z Z Z Z) ?_)))))
     refine Qmt Z (XZ (Qj (Zh (kp6 Z Z Z Z Z Z) (Yf fun K hK => Qb Z (Q9 Z Z (by first | exact Qs (by omega) (by omega) | rfl) (Qb Z (hK _ ?_)))))))
     refine Qm (us ++ [(UR.mk (names5[n]'(by have := Zg; omega)) [] (500001 + us.length) cs)], nxI (nxI J), n + 1) ?_ ?_ ?_
     ·exact QtZ (l := [0, 1, 5, 6, 7, 8]) (B := [_, _]) (kp6 rfl rfl rfl rfl rfl rfl) rfl hK1.keys (by repeat (first | exact QD | refine Qo (by omega) ?_)) (by repeat (first | exact QD | refine Qo (by omega) ?_)) (by intro p hp h; simp only [Qvf, Qve, or_false] at hp; rcases hp with rfl | rfl <;> first | (simp only at h; omega) | rfl) (by omega) (by intro p hp k hk; simp only [Qvf, Qve, or_false] at hp; rcases hp with rfl | rfl | rfl | rfl | rfl | rfl <;> first | (simp [D.ids, D.sid, Za, QY, QX] at hk; done) | (simp [D.ids, D.sid, Za, QY, QX] at hk; subst hk; first | exact .inl rfl | exact .inr (.inl rfl) | (first | exact .inr (.inr ⟨_, Qvs _ (Qvm.2 rfl), rfl⟩) | exact .inr (.inr (.inr ⟨_, Qvs _ (Qvm.2 rfl), rfl⟩)))))
     ·try dsimp only
      exact ⟨hK1, by simp; omega, by omega, by simp; omega⟩
     ·show 5 - (n + 1) < 5 - n; omega
  ·try rw [h2]
   try simp only [qA] at h2
   refine QeX (X6 (Qz (QH (Zh (kp1 Z) (Zs fun K hK => Qb Z (Qb Z (hK _ _ (Q8 (kp1 Z) ?_))))))))
   refine QiL ?_
   refine ⟨.osl 500000 us.length, ((500000, ⟨us.map dUR, 3, 56, false⟩) :: fbx 63 us) ++ [(kg, gB L (nxI J) eg), (kg, gB L I eg)], ⟨us, _, ⟨hI.1, by omega, by omega⟩, rfl, rfl⟩, (Qbw (g3 := gB L J eg) hI.1.keys hkg Z Z (by omega)).1, (Qbw (g3 := gB L J eg) hI.1.keys hkg Z Z (by omega)).2.1, QaF Z Z (Qbw (g3 := gB L J eg) hI.1.keys hkg Z Z (by omega)).2.2⟩
 ·try rw [h1]
  try simp only [qA] at h1
  refine Qq Z (Qq Z (Qq Z (Qq Z (Qh Z Z (hK _ _ (Q8 (kp7 Z Z Z Z Z Z Z) ?_))))))
  refine Qmt Z (QeX (X6 (Qz (QH (Zh (kp1 Z) (Zs fun K hK => Qb Z (Qb Z (hK _ _ (Q8 (kp1 Z) ?_)))))))))
  refine QiL ?_
  refine ⟨.osl 500000 us.length, ((500000, ⟨us.map dUR, 3, 56, false⟩) :: fbx 63 us) ++ [(kg, gB L (nxI J) eg), (kg, gB L I eg)], ⟨us, _, ⟨hI.1, by omega, by omega⟩, rfl, rfl⟩, (Qbw (g3 := gB L J eg) hI.1.keys hkg Z Z (by omega)).1, (Qbw (g3 := gB L J eg) hI.1.keys hkg Z Z (by omega)).2.1, QaF Z Z (Qbw (g3 := gB L J eg) hI.1.keys hkg Z Z (by omega)).2.2⟩
end Go.Proofs
