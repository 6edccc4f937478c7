/- Part 4 of the means of the proof: a verified abstract evaluator, the prepared functions, and contracts of functions. It states nothing of the claim by itself. -/
import Derived.Test.YtgikdkfobdfmfaaB3
set_option maxRecDepth 4000
set_option linter.unusedSimpArgs false
set_option linter.unusedVariables false
namespace Go.Proofs
open Go Go.Abs M3
set_option linter.unusedVariables false
set_option linter.unusedSimpArgs false
theorem Qar {s : List UInt8} (hl : s.length <= 1000000) : Ok Try.prog 89 [.str s] (.tup [.int .i64 (Ya s).1, .bool (Ya s).2]) := by
 refine Ok.ofT Z1 Try.func89 Qqn (Nat.le_of_ble_eq_true Z) ?_
 show TW _ _ tf89.body _ _
 refine Qe fun K hK => Qa Z (Qa Z (hK _ _ (Qb (kp1 Z) ?_)))
 refine QjG (ι := Unit) (fun _u => ⟨[(0, .str s)], []⟩) (fun _u => ¬ (s = [] \/ 4 < s.length \/ (1 < s.length /\ s.head? = some 48))) ?_ ?_
 ·skip
  refine Qe fun K hK => Qa Z (Qbh Z Z (Qa Z ?_))
  refine QB (g := 9) Z (fun h1 => ?_) (fun h1 => ?_)
  ·try rw [h1]
   try simp only [qB, Bool.and_eq_true, Bool.and_eq_false_iff, decide_eq_true_eq] at h1
   refine Qy Z (Qy Z (Qy Z (Qn Z Z (Qa Z (Qy Z (Qy Z (Qy Z (Qy Z (QX Z (QX Z (QX Z ?_)))))))))))
   refine Qy Z (Qn Z Z (hK _ _ (Qb (kp2 Z Z) ?_)))
   refine ZH Z (Qe fun K hK => Qa Z (Qa Z (hK _ _ (Qb (kp2 Z Z) ?_))))
   refine Qs (QbN (ZR Z Z ?_))
   first | (rw [Qao (s := s) (by first | (left; assumption) | (right; omega))]; exact ⟨rfl, rfl⟩) | (rw [Yx (s := s) (by omega) (by assumption)]; exact ⟨rfl, rfl⟩) | (rw [Xi (s := s) (i := i) (by omega) (by simp [Yh]; omega)]; exact ⟨rfl, rfl⟩) | (rw [QbB (s := s) (i := i) hJ (by omega) hI.2.1]; exact ⟨rfl, by simp [Qad, D.fz, D.fzS, D.can, D.canS]; omega⟩)
  ·try rw [h1]
   try simp only [qB, Bool.and_eq_true, Bool.and_eq_false_iff, decide_eq_true_eq] at h1
   refine Qj Z (Qa Z (Qj Z (Yi Z (Qj Z (Qcs Z Z (Qn Z Z (Qa Z ?_)))))))
   refine QB (g := 14) Z (fun h2 => ?_) (fun h2 => ?_)
   ·try rw [h2]
    try simp only [qB, Bool.and_eq_true, Bool.and_eq_false_iff, decide_eq_true_eq] at h2
    refine Qy Z (Qy Z (Qy Z (Qy Z (QX Z (QX Z (QX Z (Qy Z (Qn Z Z (hK _ _ (Qb (kp2 Z Z) ?_))))))))))
    refine ZH Z (Qe fun K hK => Qa Z (Qa Z (hK _ _ (Qb (kp2 Z Z) ?_))))
    refine Qs (QbN (ZR Z Z ?_))
    first | (rw [Qao (s := s) (by first | (left; assumption) | (right; omega))]; exact ⟨rfl, rfl⟩) | (rw [Yx (s := s) (by omega) (by assumption)]; exact ⟨rfl, rfl⟩) | (rw [Xi (s := s) (i := i) (by omega) (by simp [Yh]; omega)]; exact ⟨rfl, rfl⟩) | (rw [QbB (s := s) (i := i) hJ (by omega) hI.2.1]; exact ⟨rfl, by simp [Qad, D.fz, D.fzS, D.can, D.canS]; omega⟩)
   ·try rw [h2]
    try simp only [qB, Bool.and_eq_true, Bool.and_eq_false_iff, decide_eq_true_eq] at h2
    refine Qj Z (Qa Z (Qj Z (Yc Z Z (by omega) (XO (i := 0) (List.length_pos_iff.2 (by assumption))) (Qj Z (YP Z Z (Qj Z (Qa Z ?_)))))))
    refine QB (g := 18) Z (fun h3 => ?_) (fun h3 => ?_)
    ·try rw [h3]
     try simp only [qB, Bool.and_eq_true, Bool.and_eq_false_iff, decide_eq_true_eq] at h3
     refine Qj Z (Qa Z (Qj Z (Yi Z (Qj Z (Qcs Z Z (Qj Z (Qn Z Z (Qn Z Z (hK _ _ (Qb (kp2 Z Z) ?_))))))))))
     refine Qz Z (fun h4 => ?_) (fun h4 => ?_)
     ·try rw [h4]
      try simp only [qB, Bool.and_eq_true, Bool.and_eq_false_iff, decide_eq_true_eq] at h4
      refine Qe fun K hK => Qa Z (Qa Z (hK _ _ (Qb (kp2 Z Z) ?_)))
      refine Qs (QbN (ZR Z Z ?_))
      first | (rw [Qao (s := s) (by first | (left; assumption) | (right; omega))]; exact ⟨rfl, rfl⟩) | (rw [Yx (s := s) (by omega) (by assumption)]; exact ⟨rfl, rfl⟩) | (rw [Xi (s := s) (i := i) (by omega) (by simp [Yh]; omega)]; exact ⟨rfl, rfl⟩) | (rw [QbB (s := s) (i := i) hJ (by omega) hI.2.1]; exact ⟨rfl, by simp [Qad, D.fz, D.fzS, D.can, D.canS]; omega⟩)
     ·try rw [h4]
      try simp only [qB, Bool.and_eq_true, Bool.and_eq_false_iff, decide_eq_true_eq] at h4
      refine Qu ?_
      refine ZS () ?_ ?_
      ·exact QW (kp1 rfl)
      ·rintro (q | q | q) <;> first | (simp_all; done) | omega | exact Qf9 (s := s) (by omega) (by assumption) q.2
    ·try rw [h3]
     try simp only [qB, Bool.and_eq_true, Bool.and_eq_false_iff, decide_eq_true_eq] at h3
     refine Qy Z (Qy Z (Qy Z (Qj Z (Qn Z Z (Qn Z Z (hK _ _ (Qb (kp2 Z Z) ?_)))))))
     refine ZA Z (Qu ?_)
     refine ZS () ?_ ?_
     ·exact QW (kp1 rfl)
     ·rintro (q | q | q) <;> first | (simp_all; done) | omega | exact Qf9 (s := s) (by omega) (by assumption) q.2
 intro _u hJ
 try dsimp only
 refine Qe fun K hK => Qa Z (hK _ _ (Qb (kp2 Z Z) ?_))
 refine QD ?_ -- 1
 refine Qe fun K hK => Qa Z (QjE Z Z (hK _ _ (Qb (kp2 Z Z) ?_)))
 refine QG ?_
 refine ZM (ι := Nat) (fun i => ⟨[(4, .int .i64 (val (s.take i))), (25, .ref 25 0 0)], [(25, ⟨[], 0, Zq s i, false⟩)]⟩) (fun i => i <= s.length /\ (s.take i).all Yh = true /\ s.length <= 4 /\ 0 < s.length) (fun i => s.length - i) 0 ?_ ?_ ?_
 ·exact Zg (l := [4, 25]) (lH := [25]) (kp2 rfl rfl) (Qg rfl Qr) (by simp [val]) rfl rfl
 ·exact ⟨Nat.zero_le _, rfl, Nat.le_of_not_lt fun h => hJ (.inr (.inl h)), List.length_pos_iff.2 fun h => hJ (.inl h)⟩
 intro i hI
 have hv := QkY (s := s.take i) hI.2.1
 have hp : 10 ^ (s.take i).length <= 10 ^ 4 := Nat.pow_le_pow_right (by omega) (by simp; omega)
 have hI1 := hI.1
 have hI3 := hI.2.2.1
 try dsimp only
 refine Qe fun K hK => ?_
 rcases Nat.lt_or_ge (i) (s).length with h5 | h5
 ·rcases Nat.lt_or_ge (((s)[i]).toNat) 128 with h6 | h6
  ·refine Qiw Z Z h5 (Qg0 h5 h6) (Zi Z Z (hK _ _ (Qb (kp4 Z Z Z Z) ?_)))
   refine QD ?_ -- 2
   refine ZH Z (Qu (Qd (kp3 Z Z Z) (QG (Qe fun K hK => Zi Z Z (Qa Z (hK _ _ (Qb (kp3 Z Z Z) ?_)))))))
   refine QG (Qe fun K hK => Qa Z (Qiu Z Z (Qa Z ?_)))
   refine QB (g := 32) Z (fun h7 => ?_) (fun h7 => ?_)
   ·try rw [h7]
    try simp only [qB, Bool.and_eq_true, Bool.and_eq_false_iff, decide_eq_true_eq] at h7
    refine Qj Z (Qa Z (Qj Z (Qlb Z Z (Qn Z Z (Qa Z (hK _ _ (Qb (kp4 Z Z Z Z) ?_)))))))
    refine Qz Z (fun h8 => ?_) (fun h8 => ?_)
    ·try rw [h8]
     try simp only [qB, Bool.and_eq_true, Bool.and_eq_false_iff, decide_eq_true_eq] at h8
     refine Q0 fun K hK => Qa Z (QjD Z Z (by first | exact Qq (by omega) (by omega) | exact QH (by omega) (by omega) | exact QN (by omega) (by omega) | rfl) (Qa Z (Qcu Z Z (by first | exact Qq (by omega) (by omega) | exact QH (by omega) (by omega) | exact QN (by omega) (by omega) | rfl) (Qfi Z (by first | exact Qq (by omega) (by omega) | exact QH (by omega) (by omega) | exact QN (by omega) (by omega) | rfl) (Za Z Z (by first | exact Qq (by omega) (by omega) | exact QH (by omega) (by omega) | exact QN (by omega) (by omega) | rfl) (Qa Z (hK _ ?_)))))))
     refine Qf (Qf ?_)
     refine Qh (i + 1) ?_ ?_ ?_
     ·first | exact Zg (l := [4, 25]) (lH := [25]) (kp2 rfl rfl) (Qg rfl Qr) rfl rfl rfl | exact Zg (l := [4, 25]) (lH := [25]) (kp2 rfl rfl) (Qg rfl Qr) (by rw [Qd3 (by omega)]; simp; omega) rfl rfl | (exfalso; omega)
     ·first | exact ⟨by omega, Zh (by omega) hI.2.1 (by simp [Yh]; omega), hI.2.2⟩ | (exfalso; omega)
     ·first | omega | (simp only; omega) | (dsimp only; omega)
    ·try rw [h8]
     try simp only [qB, Bool.and_eq_true, Bool.and_eq_false_iff, decide_eq_true_eq] at h8
     refine Qe fun K hK => Qa Z (Qa Z (hK _ _ (Qb (kp2 Z Z) ?_)))
     refine Qs (Qt (Qt (Q8 (Qt (Qk (ZR Z Z ?_))))))
     first | (rw [Qao (s := s) (by first | (left; assumption) | (right; omega))]; exact ⟨rfl, rfl⟩) | (rw [Yx (s := s) (by omega) (by assumption)]; exact ⟨rfl, rfl⟩) | (rw [Xi (s := s) (i := i) (by omega) (by simp [Yh]; omega)]; exact ⟨rfl, rfl⟩) | (rw [QbB (s := s) (i := i) hJ (by omega) hI.2.1]; exact ⟨rfl, by simp [Qad, D.fz, D.fzS, D.can, D.canS]; omega⟩)
   ·try rw [h7]
    try simp only [qB, Bool.and_eq_true, Bool.and_eq_false_iff, decide_eq_true_eq] at h7
    refine Qy Z (Qy Z (Qn Z Z (Qa Z (hK _ _ (Qb (kp4 Z Z Z Z) ?_)))))
    refine ZA Z (Qe fun K hK => Qa Z (Qa Z (hK _ _ (Qb (kp2 Z Z) ?_))))
    refine Qs (Qt (Qt (Q8 (Qt (Qk (ZR Z Z ?_))))))
    first | (rw [Qao (s := s) (by first | (left; assumption) | (right; omega))]; exact ⟨rfl, rfl⟩) | (rw [Yx (s := s) (by omega) (by assumption)]; exact ⟨rfl, rfl⟩) | (rw [Xi (s := s) (i := i) (by omega) (by simp [Yh]; omega)]; exact ⟨rfl, rfl⟩) | (rw [QbB (s := s) (i := i) hJ (by omega) hI.2.1]; exact ⟨rfl, by simp [Qad, D.fz, D.fzS, D.can, D.canS]; omega⟩)
  ·obtain ⟨cwh6, nwh6, hch6, hdh6⟩ := QiD h5 h6
   refine Qiw Z Z h5 hdh6 (Zi Z Z (hK _ _ (Qb (kp4 Z Z Z Z) ?_)))
   refine QD ?_ -- 2
   refine ZH Z (Qu (Qd (kp3 Z Z Z) (QG (Qe fun K hK => Zi Z Z (Qa Z (hK _ _ (Qb (kp3 Z Z Z) ?_)))))))
   refine QG (Qe fun K hK => Qa Z (Qiu Z Z (Qa Z ?_)))
   refine QB (g := 32) Z (fun h9 => ?_) (fun h9 => ?_)
   ·try rw [h9]
    try simp only [qB, Bool.and_eq_true, Bool.and_eq_false_iff, decide_eq_true_eq] at h9
    refine Qj Z (Qa Z (Qj Z (Qlb Z Z (Qn Z Z (Qa Z (hK _ _ (Qb (kp4 Z Z Z Z) ?_)))))))
    refine Qz Z (fun h10 => ?_) (fun h10 => ?_)
    ·try rw [h10]
     try simp only [qB, Bool.and_eq_true, Bool.and_eq_false_iff, decide_eq_true_eq] at h10
     refine Q0 fun K hK => Qa Z (QjD Z Z (by first | exact Qq (by omega) (by omega) | exact QH (by omega) (by omega) | exact QN (by omega) (by omega) | rfl) (Qa Z (Qcu Z Z (by first | exact Qq (by omega) (by omega) | exact QH (by omega) (by omega) | exact QN (by omega) (by omega) | rfl) (Qfi Z (by first | exact Qq (by omega) (by omega) | exact QH (by omega) (by omega) | exact QN (by omega) (by omega) | rfl) (Za Z Z (by first | exact Qq (by omega) (by omega) | exact QH (by omega) (by omega) | exact QN (by omega) (by omega) | rfl) (Qa Z (hK _ ?_)))))))
     refine Qf (Qf ?_)
     refine Qh (i + 1) ?_ ?_ ?_
     ·first | exact Zg (l := [4, 25]) (lH := [25]) (kp2 rfl rfl) (Qg rfl Qr) rfl rfl rfl | exact Zg (l := [4, 25]) (lH := [25]) (kp2 rfl rfl) (Qg rfl Qr) (by rw [Qd3 (by omega)]; simp; omega) rfl rfl | (exfalso; omega)
     ·first | exact ⟨by omega, Zh (by omega) hI.2.1 (by simp [Yh]; omega), hI.2.2⟩ | (exfalso; omega)
     ·first | omega | (simp only; omega) | (dsimp only; omega)
    ·try rw [h10]
     try simp only [qB, Bool.and_eq_true, Bool.and_eq_false_iff, decide_eq_true_eq] at h10
     refine Qe fun K hK => Qa Z (Qa Z (hK _ _ (Qb (kp2 Z Z) ?_)))
     refine Qs (Qt (Qt (Q8 (Qt (Qk (ZR Z Z ?_))))))
     first | (rw [Qao (s := s) (by first | (left; assumption) | (right; omega))]; exact ⟨rfl, rfl⟩) | (rw [Yx (s := s) (by omega) (by assumption)]; exact ⟨rfl, rfl⟩) | (rw [Xi (s := s) (i := i) (by omega) (by simp [Yh]; omega)]; exact ⟨rfl, rfl⟩) | (rw [QbB (s := s) (i := i) hJ (by omega) hI.2.1]; exact ⟨rfl, by simp [Qad, D.fz, D.fzS, D.can, D.canS]; omega⟩)
   ·try rw [h9]
    try simp only [qB, Bool.and_eq_true, Bool.and_eq_false_iff, decide_eq_true_eq] at h9
    refine Qy Z (Qy Z (Qn Z Z (Qa Z (hK _ _ (Qb (kp4 Z Z Z Z) ?_)))))
    refine ZA Z (Qe fun K hK => Qa Z (Qa Z (hK _ _ (Qb (kp2 Z Z) ?_))))
    refine Qs (Qt (Qt (Q8 (Qt (Qk (ZR Z Z ?_))))))
    first | (rw [Qao (s := s) (by first | (left; assumption) | (right; omega))]; exact ⟨rfl, rfl⟩) | (rw [Yx (s := s) (by omega) (by assumption)]; exact ⟨rfl, rfl⟩) | (rw [Xi (s := s) (i := i) (by omega) (by simp [Yh]; omega)]; exact ⟨rfl, rfl⟩) | (rw [QbB (s := s) (i := i) hJ (by omega) hI.2.1]; exact ⟨rfl, by simp [Qad, D.fz, D.fzS, D.can, D.canS]; omega⟩)
 ·refine QgJ Z Z (by omega) (Zi Z Z (hK _ _ (Qb (kp4 Z Z Z Z) ?_)))
  refine QD ?_ -- 2
  refine ZA Z (Zl (QJ (Qx (QC (Qd (kp1 Z) (Qe fun K hK => Qa Z (Qa Z (Qlb Z Z (Qa Z (Qa Z ?_))))))))))
  refine hK _ _ (Qb (kp2 Z Z) ?_)
  refine Qs (ZR Z Z ?_)
  first | (rw [Qao (s := s) (by first | (left; assumption) | (right; omega))]; exact ⟨rfl, rfl⟩) | (rw [Yx (s := s) (by omega) (by assumption)]; exact ⟨rfl, rfl⟩) | (rw [Xi (s := s) (i := i) (by omega) (by simp [Yh]; omega)]; exact ⟨rfl, rfl⟩) | (rw [QbB (s := s) (i := i) hJ (by omega) hI.2.1]; exact ⟨rfl, by simp [Qad, D.fz, D.fzS, D.can, D.canS]; omega⟩)
theorem Qat {s : List UInt8} (hl : s.length <= 1000000) : Ok Try.prog 86 [.str s] (.bool (Qcb s)) := by
 refine Ok.ofT Z1 Try.func86 Qqk (Nat.le_of_ble_eq_true Z) ?_
 show TW _ _ tf86.body _ _
 refine Qe fun K hK => Qa Z (hK _ _ (Qb (kp1 Z) ?_))
 refine QmE (Qe fun K hK => Qa Z (QE (XS (by omega)) Z Z (.inl Z) (Qa Z (hK _ _ (Qb (kp1 Z) ?_)))))
 refine Qe fun K hK => Qa Z (Q7 Z Z (Qlb Z Z (Qa Z (hK _ _ (Qb (kp2 Z Z) ?_)))))
 refine QD ?_ -- 0
 refine Qu (Qd (kp2 Z Z) ?_)
 refine QD ?_ -- 1
 refine Qe fun K hK => Qa Z (Q7 Z Z (Qa Z (hK _ _ (Qb (kp4 Z Z Z Z) ?_))))
 refine QG ?_
 refine ZM (ι := Nat) (fun i => ⟨[(4, .bool (decide ((Q4 s 46).length <= 4))), (14, .sl (Yb (Q4 s 46))), (15, .int .i64 (Q4 s 46).length), (16, .int .i64 i)], []⟩) (fun i => i <= (Q4 s 46).length /\ ((Q4 s 46).take i).all Qbg = true) (fun i => (Q4 s 46).length - i) 0 ?_ ?_ ?_
 ·exact Zg (l := [4, 14, 15, 16]) (kp4 rfl rfl rfl rfl) Qr (by simp [Qo]; omega) rfl rfl
 ·exact ⟨Nat.zero_le _, rfl⟩
 intro i hI
 have sl := Qdc (s := s) (c := 46)
 try dsimp only
 refine Qe fun K hK => Yz Z Z (hK _ _ (Qb (kp5 Z Z Z Z Z) ?_))
 refine QD ?_ -- 2
 refine Qz Z (fun h1 => ?_) (fun h1 => ?_)
 ·try rw [h1]
  try simp only [qB, Qo] at h1
  refine Qu (Qd (kp4 Z Z Z Z) ?_)
  refine QD ?_ -- 3
  refine QG (Qe fun K hK => QM Z Z Z (by omega) (YZ (by omega)) Z (QF Z Z Z (Qa Z (hK _ _ (Qb (kp5 Z Z Z Z Z) ?_)))))
  refine QD ?_ -- 4
  refine Qe fun K hK => Qa Z (Qbh Z Z (Qa Z ?_))
  refine QB (g := 22) Z (fun h2 => ?_) (fun h2 => ?_)
  ·try rw [h2]
   try simp only [qB, Qo] at h2
   refine Qy Z (Qy Z (Qy Z (Qn Z Z (hK _ _ (Qb (kp6 Z Z Z Z Z Z) ?_)))))
   refine ZH Z (Qe fun K hK => Qa Z (hK _ _ (Qb (kp1 Z) ?_)))
   refine Zl (QJ (Zd (by decide) (QJ (Qx (QC (Qd (kp1 Z) (Qe fun K hK => Qa Z (Qa Z (hK _ _ (Qb (kp1 Z) ?_))))))))))
   refine Qs (Qp Z ?_)
   first | exact (ZO (i := i) (by omega) (Xh (by first | (left; assumption) | (right; omega)))).symm | exact (ZO (i := i) (by omega) (Xg (Yd (i := j) (by omega) (by simp [ZL]; omega)))).symm | exact (YI (by omega) hI.2).symm
  ·try rw [h2]
   try simp only [qB, Qo] at h2
   refine Qj Z (Qa Z (Qj Z (Yi Z (Qj Z (Qcs Z Z (Qn Z Z (hK _ _ (Qb (kp6 Z Z Z Z Z Z) ?_))))))))
   refine Qz Z (fun h3 => ?_) (fun h3 => ?_)
   ·try rw [h3]
    try simp only [qB, Qo] at h3
    refine Qe fun K hK => Qa Z (hK _ _ (Qb (kp1 Z) ?_))
    refine Zl (QJ (Zd (by decide) (QJ (Qx (QC (Qd (kp1 Z) (Qe fun K hK => Qa Z (Qa Z (hK _ _ (Qb (kp1 Z) ?_))))))))))
    refine Qs (Qp Z ?_)
    first | exact (ZO (i := i) (by omega) (Xh (by first | (left; assumption) | (right; omega)))).symm | exact (ZO (i := i) (by omega) (Xg (Yd (i := j) (by omega) (by simp [ZL]; omega)))).symm | exact (YI (by omega) hI.2).symm
   ·try rw [h3]
    try simp only [qB, Qo] at h3
    refine Qu (Qd (kp5 Z Z Z Z Z) (Qe fun K hK => Qa Z (QjE Z Z (hK _ _ (Qb (kp5 Z Z Z Z Z) ?_)))))
    refine QG ?_
    have hlt : i < (Q4 s 46).length := by omega
    refine ZM (ι := Nat) (fun j => ⟨[(4, .bool (decide ((Q4 s 46).length <= 4))), (14, .sl (Yb (Q4 s 46))), (15, .int .i64 (Q4 s 46).length), (16, .int .i64 i), (28, .ref 28 0 0)], [(28, ⟨[], 0, Zq ((Q4 s 46)[i]'hlt) j, false⟩)]⟩) (fun j => j <= ((Q4 s 46)[i]'hlt).length /\ (((Q4 s 46)[i]'hlt).take j).all ZL = true) (fun j => ((Q4 s 46)[i]'hlt).length - j) 0 ?_ ?_ ?_
    ·first | exact Zg (l := [4, 14, 15, 16, 28]) (lH := [28]) (kp5 rfl rfl rfl rfl rfl) (Qg rfl Qr) rfl rfl rfl | (exfalso; omega)
    ·exact ⟨Nat.zero_le _, rfl⟩
    intro j hJ
    have hJ1 := hJ.1
    try dsimp only
    refine Qe fun K hK => ?_
    rcases Nat.lt_or_ge (j) (((Q4 s 46)[i]'hlt)).length with h4 | h4
    ·rcases Nat.lt_or_ge (((((Q4 s 46)[i]'hlt))[j]).toNat) 128 with h5 | h5
     ·refine Qiw Z Z h4 (Qg0 h4 h5) (Zi Z Z (hK _ _ (Qb (kp7 Z Z Z Z Z Z Z) ?_)))
      refine QD ?_ -- 5
      refine ZH Z (Qu (Qd (kp6 Z Z Z Z Z Z) (QG (Qe fun K hK => Zi Z Z (Qa Z (hK _ _ (Qb (kp6 Z Z Z Z Z Z) ?_)))))))
      refine Qe fun K hK => Qa Z (Yz Z Z (Qa Z ?_))
      refine QB (g := 34) Z (fun h6 => ?_) (fun h6 => ?_)
      ·try rw [h6]
       try simp only [qB, Qo] at h6
       refine Qy Z (Qy Z (Qn Z Z (Qa Z (Qj Z (Qa Z (Qj Z (Yz Z Z (Qj Z (Qa Z ?_)))))))))
       refine QB (g := 41) Z (fun h7 => ?_) (fun h7 => ?_)
       ·try rw [h7]
        try simp only [qB, Qo] at h7
        refine Qy Z (Qy Z (Qj Z (Qn Z Z (Qn Z Z (Qa Z (Qj Z (Qa Z (Qj Z (Xn Z Z (Qn Z Z (hK _ _ (Qb (kp6 Z Z Z Z Z Z) ?_))))))))))))
        refine Qz Z (fun h8 => ?_) (fun h8 => ?_)
        ·try rw [h8]
         try simp only [qB, Qo] at h8
         refine Qe fun K hK => Qa Z (hK _ _ (Qb (kp1 Z) ?_))
         refine Zl (Zd (by decide) (Qx (Zd (by decide) (Zd (by decide) (QJ (Qx (QC (Qd (kp1 Z) (Qe fun K hK => Qa Z (Qa Z ?_))))))))))
         refine hK _ _ (Qb (kp1 Z) ?_)
         refine Qs (Qp Z ?_)
         first | exact (ZO (i := i) (by omega) (Xh (by first | (left; assumption) | (right; omega)))).symm | exact (ZO (i := i) (by omega) (Xg (Yd (i := j) (by omega) (by simp [ZL]; omega)))).symm | exact (YI (by omega) hI.2).symm
        ·try rw [h8]
         try simp only [qB, Qo] at h8
         refine Qu (Qf ?_)
         refine Qh (j + 1) ?_ ?_ ?_
         ·first | exact Zg (l := [4, 14, 15, 16, 28]) (lH := [28]) (kp5 rfl rfl rfl rfl rfl) (Qg rfl Qr) rfl rfl rfl | (exfalso; omega)
         ·first | exact ⟨by omega, Zh (by omega) hJ.2 (by simp [ZL]; omega)⟩ | (exfalso; omega)
         ·first | omega | (simp only; omega) | (dsimp only; omega)
       ·try rw [h7]
        try simp only [qB, Qo] at h7
        refine Qj Z (Qa Z (Qj Z (Qcs Z Z (Qj Z (Qn Z Z (Qn Z Z (Qa Z ?_)))))))
        refine QB (g := 46) Z (fun h9 => ?_) (fun h9 => ?_)
        ·try rw [h9]
         try simp only [qB, Qo] at h9
         refine Qj Z (Qa Z (Qj Z (Xn Z Z (Qn Z Z (hK _ _ (Qb (kp6 Z Z Z Z Z Z) ?_))))))
         refine Qz Z (fun h10 => ?_) (fun h10 => ?_)
         ·try rw [h10]
          try simp only [qB, Qo] at h10
          refine Qe fun K hK => Qa Z (hK _ _ (Qb (kp1 Z) ?_))
          refine Zl (Zd (by decide) (Qx (Zd (by decide) (Zd (by decide) (QJ (Qx (QC (Qd (kp1 Z) (Qe fun K hK => Qa Z (Qa Z ?_))))))))))
          refine hK _ _ (Qb (kp1 Z) ?_)
          refine Qs (Qp Z ?_)
          first | exact (ZO (i := i) (by omega) (Xh (by first | (left; assumption) | (right; omega)))).symm | exact (ZO (i := i) (by omega) (Xg (Yd (i := j) (by omega) (by simp [ZL]; omega)))).symm | exact (YI (by omega) hI.2).symm
         ·try rw [h10]
          try simp only [qB, Qo] at h10
          refine Qu (Qf ?_)
          refine Qh (j + 1) ?_ ?_ ?_
          ·first | exact Zg (l := [4, 14, 15, 16, 28]) (lH := [28]) (kp5 rfl rfl rfl rfl rfl) (Qg rfl Qr) rfl rfl rfl | (exfalso; omega)
          ·first | exact ⟨by omega, Zh (by omega) hJ.2 (by simp [ZL]; omega)⟩ | (exfalso; omega)
          ·first | omega | (simp only; omega) | (dsimp only; omega)
        ·try rw [h9]
         try simp only [qB, Qo] at h9
         refine Qy Z (Qy Z (Qn Z Z (hK _ _ (Qb (kp6 Z Z Z Z Z Z) ?_))))
         refine ZA Z (Qu (Qf ?_))
         refine Qh (j + 1) ?_ ?_ ?_
         ·first | exact Zg (l := [4, 14, 15, 16, 28]) (lH := [28]) (kp5 rfl rfl rfl rfl rfl) (Qg rfl Qr) rfl rfl rfl | (exfalso; omega)
         ·first | exact ⟨by omega, Zh (by omega) hJ.2 (by simp [ZL]; omega)⟩ | (exfalso; omega)
         ·first | omega | (simp only; omega) | (dsimp only; omega)
      ·try rw [h6]
       try simp only [qB, Qo] at h6
       refine Qj Z (Qa Z (Qj Z (Qcs Z Z (Qn Z Z (Qa Z ?_)))))
       refine QB (g := 38) Z (fun h11 => ?_) (fun h11 => ?_)
       ·try rw [h11]
        try simp only [qB, Qo] at h11
        refine Qj Z (Qa Z (Qj Z (Yz Z Z (Qj Z (Qa Z ?_)))))
        refine QB (g := 41) Z (fun h12 => ?_) (fun h12 => ?_)
        ·try rw [h12]
         try simp only [qB, Qo] at h12
         refine Qy Z (Qy Z (Qj Z (Qn Z Z (Qn Z Z (Qa Z (Qj Z (Qa Z (Qj Z (Xn Z Z (Qn Z Z (hK _ _ (Qb (kp6 Z Z Z Z Z Z) ?_))))))))))))
         refine Qz Z (fun h13 => ?_) (fun h13 => ?_)
         ·try rw [h13]
          try simp only [qB, Qo] at h13
          refine Qe fun K hK => Qa Z (hK _ _ (Qb (kp1 Z) ?_))
          refine Zl (Zd (by decide) (Qx (Zd (by decide) (Zd (by decide) (QJ (Qx (QC (Qd (kp1 Z) (Qe fun K hK => Qa Z (Qa Z ?_))))))))))
          refine hK _ _ (Qb (kp1 Z) ?_)
          refine Qs (Qp Z ?_)
          first | exact (ZO (i := i) (by omega) (Xh (by first | (left; assumption) | (right; omega)))).symm | exact (ZO (i := i) (by omega) (Xg (Yd (i := j) (by omega) (by simp [ZL]; omega)))).symm | exact (YI (by omega) hI.2).symm
         ·try rw [h13]
          try simp only [qB, Qo] at h13
          refine Qu (Qf ?_)
          refine Qh (j + 1) ?_ ?_ ?_
          ·first | exact Zg (l := [4, 14, 15, 16, 28]) (lH := [28]) (kp5 rfl rfl rfl rfl rfl) (Qg rfl Qr) rfl rfl rfl | (exfalso; omega)
          ·first | exact ⟨by omega, Zh (by omega) hJ.2 (by simp [ZL]; omega)⟩ | (exfalso; omega)
          ·first | omega | (simp only; omega) | (dsimp only; omega)
        ·try rw [h12]
         try simp only [qB, Qo] at h12
         refine Qj Z (Qa Z (Qj Z (Qcs Z Z (Qj Z (Qn Z Z (Qn Z Z (Qa Z ?_)))))))
         refine QB (g := 46) Z (fun h14 => ?_) (fun h14 => ?_)
         ·try rw [h14]
          try simp only [qB, Qo] at h14
          refine Qj Z (Qa Z (Qj Z (Xn Z Z (Qn Z Z (hK _ _ (Qb (kp6 Z Z Z Z Z Z) ?_))))))
          refine Qz Z (fun h15 => ?_) (fun h15 => ?_)
          ·try rw [h15]
           try simp only [qB, Qo] at h15
           refine Qe fun K hK => Qa Z (hK _ _ (Qb (kp1 Z) ?_))
           refine Zl (Zd (by decide) (Qx (Zd (by decide) (Zd (by decide) (QJ (Qx (QC (Qd (kp1 Z) (Qe fun K hK => Qa Z (Qa Z ?_))))))))))
           refine hK _ _ (Qb (kp1 Z) ?_)
           refine Qs (Qp Z ?_)
           first | exact (ZO (i := i) (by omega) (Xh (by first | (left; assumption) | (right; omega)))).symm | exact (ZO (i := i) (by omega) (Xg (Yd (i := j) (by omega) (by simp [ZL]; omega)))).symm | exact (YI (by omega) hI.2).symm
          ·try rw [h15]
           try simp only [qB, Qo] at h15
           refine Qu (Qf ?_)
           refine Qh (j + 1) ?_ ?_ ?_
           ·first | exact Zg (l := [4, 14, 15, 16, 28]) (lH := [28]) (kp5 rfl rfl rfl rfl rfl) (Qg rfl Qr) rfl rfl rfl | (exfalso; omega)
           ·first | exact ⟨by omega, Zh (by omega) hJ.2 (by simp [ZL]; omega)⟩ | (exfalso; omega)
           ·first | omega | (simp only; omega) | (dsimp only; omega)
         ·try rw [h14]
          try simp only [qB, Qo] at h14
          refine Qy Z (Qy Z (Qn Z Z (hK _ _ (Qb (kp6 Z Z Z Z Z Z) ?_))))
          refine ZA Z (Qu (Qf ?_))
          refine Qh (j + 1) ?_ ?_ ?_
          ·first | exact Zg (l := [4, 14, 15, 16, 28]) (lH := [28]) (kp5 rfl rfl rfl rfl rfl) (Qg rfl Qr) rfl rfl rfl | (exfalso; omega)
          ·first | exact ⟨by omega, Zh (by omega) hJ.2 (by simp [ZL]; omega)⟩ | (exfalso; omega)
          ·first | omega | (simp only; omega) | (dsimp only; omega)
       ·try rw [h11]
        try simp only [qB, Qo] at h11
        refine Qy Z (Qy Z (Qy Z (QX Z (QX Z (Qy Z (Qn Z Z (Qa Z (Qy Z (Qy Z (Qn Z Z (hK _ _ (Qb (kp6 Z Z Z Z Z Z) ?_))))))))))))
        refine ZA Z (Qu (Qf ?_))
        refine Qh (j + 1) ?_ ?_ ?_
        ·first | exact Zg (l := [4, 14, 15, 16, 28]) (lH := [28]) (kp5 rfl rfl rfl rfl rfl) (Qg rfl Qr) rfl rfl rfl | (exfalso; omega)
        ·first | exact ⟨by omega, Zh (by omega) hJ.2 (by simp [ZL]; omega)⟩ | (exfalso; omega)
        ·first | omega | (simp only; omega) | (dsimp only; omega)
     ·obtain ⟨cwh5, nwh5, hch5, hdh5⟩ := QiD h4 h5
      refine Qiw Z Z h4 hdh5 (Zi Z Z (hK _ _ (Qb (kp7 Z Z Z Z Z Z Z) ?_)))
      refine QD ?_ -- 5
      refine ZH Z (Qu (Qd (kp6 Z Z Z Z Z Z) (QG (Qe fun K hK => Zi Z Z (Qa Z (hK _ _ (Qb (kp6 Z Z Z Z Z Z) ?_)))))))
      refine Qe fun K hK => Qa Z (Yz Z Z (Qa Z ?_))
      refine QB (g := 34) Z (fun h16 => ?_) (fun h16 => ?_)
      ·try rw [h16]
       try simp only [qB, Qo] at h16
       refine Qy Z (Qy Z (Qn Z Z (Qa Z (Qj Z (Qa Z (Qj Z (Yz Z Z (Qj Z (Qa Z ?_)))))))))
       refine QB (g := 41) Z (fun h17 => ?_) (fun h17 => ?_)
       ·try rw [h17]
        try simp only [qB, Qo] at h17
        refine Qy Z (Qy Z (Qj Z (Qn Z Z (Qn Z Z (Qa Z (Qj Z (Qa Z (Qj Z (Xn Z Z (Qn Z Z (hK _ _ (Qb (kp6 Z Z Z Z Z Z) ?_))))))))))))
        refine Qz Z (fun h18 => ?_) (fun h18 => ?_)
        ·try rw [h18]
         try simp only [qB, Qo] at h18
         refine Qe fun K hK => Qa Z (hK _ _ (Qb (kp1 Z) ?_))
         refine Zl (Zd (by decide) (Qx (Zd (by decide) (Zd (by decide) (QJ (Qx (QC (Qd (kp1 Z) (Qe fun K hK => Qa Z (Qa Z ?_))))))))))
         refine hK _ _ (Qb (kp1 Z) ?_)
         refine Qs (Qp Z ?_)
         first | exact (ZO (i := i) (by omega) (Xh (by first | (left; assumption) | (right; omega)))).symm | exact (ZO (i := i) (by omega) (Xg (Yd (i := j) (by omega) (by simp [ZL]; omega)))).symm | exact (YI (by omega) hI.2).symm
        ·try rw [h18]
         try simp only [qB, Qo] at h18
         refine Qu (Qf ?_)
         refine Qh (j + 1) ?_ ?_ ?_
         ·first | exact Zg (l := [4, 14, 15, 16, 28]) (lH := [28]) (kp5 rfl rfl rfl rfl rfl) (Qg rfl Qr) rfl rfl rfl | (exfalso; omega)
         ·first | exact ⟨by omega, Zh (by omega) hJ.2 (by simp [ZL]; omega)⟩ | (exfalso; omega)
         ·first | omega | (simp only; omega) | (dsimp only; omega)
       ·try rw [h17]
        try simp only [qB, Qo] at h17
        refine Qj Z (Qa Z (Qj Z (Qcs Z Z (Qj Z (Qn Z Z (Qn Z Z (Qa Z ?_)))))))
        refine QB (g := 46) Z (fun h19 => ?_) (fun h19 => ?_)
        ·try rw [h19]
         try simp only [qB, Qo] at h19
         refine Qj Z (Qa Z (Qj Z (Xn Z Z (Qn Z Z (hK _ _ (Qb (kp6 Z Z Z Z Z Z) ?_))))))
         refine Qz Z (fun h20 => ?_) (fun h20 => ?_)
         ·try rw [h20]
          try simp only [qB, Qo] at h20
          refine Qe fun K hK => Qa Z (hK _ _ (Qb (kp1 Z) ?_))
          refine Zl (Zd (by decide) (Qx (Zd (by decide) (Zd (by decide) (QJ (Qx (QC (Qd (kp1 Z) (Qe fun K hK => Qa Z (Qa Z ?_))))))))))
          refine hK _ _ (Qb (kp1 Z) ?_)
          refine Qs (Qp Z ?_)
          first | exact (ZO (i := i) (by omega) (Xh (by first | (left; assumption) | (right; omega)))).symm | exact (ZO (i := i) (by omega) (Xg (Yd (i := j) (by omega) (by simp [ZL]; omega)))).symm | exact (YI (by omega) hI.2).symm
         ·try rw [h20]
          try simp only [qB, Qo] at h20
          refine Qu (Qf ?_)
          refine Qh (j + 1) ?_ ?_ ?_
          ·first | exact Zg (l := [4, 14, 15, 16, 28]) (lH := [28]) (kp5 rfl rfl rfl rfl rfl) (Qg rfl Qr) rfl rfl rfl | (exfalso; omega)
          ·first | exact ⟨by omega, Zh (by omega) hJ.2 (by simp [ZL]; omega)⟩ | (exfalso; omega)
          ·first | omega | (simp only; omega) | (dsimp only; omega)
        ·try rw [h19]
         try simp only [qB, Qo] at h19
         refine Qy Z (Qy Z (Qn Z Z (hK _ _ (Qb (kp6 Z Z Z Z Z Z) ?_))))
         refine ZA Z (Qu (Qf ?_))
         refine Qh (j + 1) ?_ ?_ ?_
         ·first | exact Zg (l := [4, 14, 15, 16, 28]) (lH := [28]) (kp5 rfl rfl rfl rfl rfl) (Qg rfl Qr) rfl rfl rfl | (exfalso; omega)
         ·first | exact ⟨by omega, Zh (by omega) hJ.2 (by simp [ZL]; omega)⟩ | (exfalso; omega)
         ·first | omega | (simp only; omega) | (dsimp only; omega)
      ·try rw [h16]
       try simp only [qB, Qo] at h16
       refine Qj Z (Qa Z (Qj Z (Qcs Z Z (Qn Z Z (Qa Z ?_)))))
       refine QB (g := 38) Z (fun h21 => ?_) (fun h21 => ?_)
       ·try rw [h21]
        try simp only [qB, Qo] at h21
        refine Qj Z (Qa Z (Qj Z (Yz Z Z (Qj Z (Qa Z ?_)))))
        refine QB (g := 41) Z (fun h22 => ?_) (fun h22 => ?_)
        ·try rw [h22]
         try simp only [qB, Qo] at h22
         refine Qy Z (Qy Z (Qj Z (Qn Z Z (Qn Z Z (Qa Z (Qj Z (Qa Z (Qj Z (Xn Z Z (Qn Z Z (hK _ _ (Qb (kp6 Z Z Z Z Z Z) ?_))))))))))))
         refine Qz Z (fun h23 => ?_) (fun h23 => ?_)
         ·try rw [h23]
          try simp only [qB, Qo] at h23
          refine Qe fun K hK => Qa Z (hK _ _ (Qb (kp1 Z) ?_))
          refine Zl (Zd (by decide) (Qx (Zd (by decide) (Zd (by decide) (QJ (Qx (QC (Qd (kp1 Z) (Qe fun K hK => Qa Z (Qa Z ?_))))))))))
          refine hK _ _ (Qb (kp1 Z) ?_)
          refine Qs (Qp Z ?_)
          first | exact (ZO (i := i) (by omega) (Xh (by first | (left; assumption) | (right; omega)))).symm | exact (ZO (i := i) (by omega) (Xg (Yd (i := j) (by omega) (by simp [ZL]; omega)))).symm | exact (YI (by omega) hI.2).symm
         ·try rw [h23]
          try simp only [qB, Qo] at h23
          refine Qu (Qf ?_)
          refine Qh (j + 1) ?_ ?_ ?_
          ·first | exact Zg (l := [4, 14, 15, 16, 28]) (lH := [28]) (kp5 rfl rfl rfl rfl rfl) (Qg rfl Qr) rfl rfl rfl | (exfalso; omega)
          ·first | exact ⟨by omega, Zh (by omega) hJ.2 (by simp [ZL]; omega)⟩ | (exfalso; omega)
          ·first | omega | (simp only; omega) | (dsimp only; omega)
        ·try rw [h22]
         try simp only [qB, Qo] at h22
         refine Qj Z (Qa Z (Qj Z (Qcs Z Z (Qj Z (Qn Z Z (Qn Z Z (Qa Z ?_)))))))
         refine QB (g := 46) Z (fun h24 => ?_) (fun h24 => ?_)
         ·try rw [h24]
          try simp only [qB, Qo] at h24
          refine Qj Z (Qa Z (Qj Z (Xn Z Z (Qn Z Z (hK _ _ (Qb (kp6 Z Z Z Z Z Z) ?_))))))
          refine Qz Z (fun h25 => ?_) (fun h25 => ?_)
          ·try rw [h25]
           try simp only [qB, Qo] at h25
           refine Qe fun K hK => Qa Z (hK _ _ (Qb (kp1 Z) ?_))
           refine Zl (Zd (by decide) (Qx (Zd (by decide) (Zd (by decide) (QJ (Qx (QC (Qd (kp1 Z) (Qe fun K hK => Qa Z (Qa Z ?_))))))))))
           refine hK _ _ (Qb (kp1 Z) ?_)
           refine Qs (Qp Z ?_)
           first | exact (ZO (i := i) (by omega) (Xh (by first | (left; assumption) | (right; omega)))).symm | exact (ZO (i := i) (by omega) (Xg (Yd (i := j) (by omega) (by simp [ZL]; omega)))).symm | exact (YI (by omega) hI.2).symm
          ·try rw [h25]
           try simp only [qB, Qo] at h25
           refine Qu (Qf ?_)
           refine Qh (j + 1) ?_ ?_ ?_
           ·first | exact Zg (l := [4, 14, 15, 16, 28]) (lH := [28]) (kp5 rfl rfl rfl rfl rfl) (Qg rfl Qr) rfl rfl rfl | (exfalso; omega)
           ·first | exact ⟨by omega, Zh (by omega) hJ.2 (by simp [ZL]; omega)⟩ | (exfalso; omega)
           ·first | omega | (simp only; omega) | (dsimp only; omega)
         ·try rw [h24]
          try simp only [qB, Qo] at h24
          refine Qy Z (Qy Z (Qn Z Z (hK _ _ (Qb (kp6 Z Z Z Z Z Z) ?_))))
          refine ZA Z (Qu (Qf ?_))
          refine Qh (j + 1) ?_ ?_ ?_
          ·first | exact Zg (l := [4, 14, 15, 16, 28]) (lH := [28]) (kp5 rfl rfl rfl rfl rfl) (Qg rfl Qr) rfl rfl rfl | (exfalso; omega)
          ·first | exact ⟨by omega, Zh (by omega) hJ.2 (by simp [ZL]; omega)⟩ | (exfalso; omega)
          ·first | omega | (simp only; omega) | (dsimp only; omega)
       ·try rw [h21]
        try simp only [qB, Qo] at h21
        refine Qy Z (Qy Z (Qy Z (QX Z (QX Z (Qy Z (Qn Z Z (Qa Z (Qy Z (Qy Z (Qn Z Z (hK _ _ (Qb (kp6 Z Z Z Z Z Z) ?_))))))))))))
        refine ZA Z (Qu (Qf ?_))
        refine Qh (j + 1) ?_ ?_ ?_
        ·first | exact Zg (l := [4, 14, 15, 16, 28]) (lH := [28]) (kp5 rfl rfl rfl rfl rfl) (Qg rfl Qr) rfl rfl rfl | (exfalso; omega)
        ·first | exact ⟨by omega, Zh (by omega) hJ.2 (by simp [ZL]; omega)⟩ | (exfalso; omega)
        ·first | omega | (simp only; omega) | (dsimp only; omega)
    ·refine QgJ Z Z (by omega) (Zi Z Z (hK _ _ (Qb (kp7 Z Z Z Z Z Z Z) ?_)))
     refine QD ?_ -- 5
     refine ZA Z (Zl (QJ (Qx (QC (Qf (Qd (kp4 Z Z Z Z) (Q0 fun K hK => Za Z Z (by first | exact Qq (by omega) (by omega) | exact QH (by omega) (by omega) | exact QN (by omega) (by omega) | rfl) (Qa Z (hK _ ?_)))))))))
     refine Qh (i + 1) ?_ ?_ ?_
     ·exact Zg (l := [4, 14, 15, 16]) (kp4 rfl rfl rfl rfl) Qr rfl rfl rfl
     ·exact ⟨by omega, Zh (by omega) hI.2 (Qm0 (by assumption) (by omega) (Y3 (by omega) hJ.2))⟩
     ·first | omega | (simp only; omega) | (dsimp only; omega)
 ·try rw [h1]
  try simp only [qB, Qo] at h1
  refine Zl (QJ (Qx (QC (Qd (kp1 Z) (Qe fun K hK => Qa Z (Qa Z (hK _ _ (Qb (kp1 Z) ?_))))))))
  refine Qs (Qp Z ?_)
  first | exact (ZO (i := i) (by omega) (Xh (by first | (left; assumption) | (right; omega)))).symm | exact (ZO (i := i) (by omega) (Xg (Yd (i := j) (by omega) (by simp [ZL]; omega)))).symm | exact (YI (by omega) hI.2).symm
end Go.Proofs
namespace Go.Proofs
open Go Go.Abs M3
set_option linter.unusedVariables false
set_option linter.unusedSimpArgs false
theorem QfW {a b : List UInt8} (ha : a.length <= 1000000) (hb : b.length <= 1000000) : Ok Try.prog 70 [.str a, .str b] (.int .i64 (Qfd a b)) := by
 refine Ok.ofT Z1 Try.func70 Qp4 (Nat.le_of_ble_eq_true Z) ?_
 show TW _ _ tf70.body _ _
 refine Qe fun K hK => Qa Z (hK _ _ (Qb (kp2 Z Z) ?_))
 refine Qe fun K hK => Qa Z (QE (Xr (by omega)) Z Z (.inr Z) (Qa Z (QE (Xr (by omega)) Z Z (.inr Z) (Qa Z (Qa Z (hK _ _ (Qb (kp4 Z Z Z Z) ?_)))))))
 refine QD ?_ -- 0
 refine Qe fun K hK => Qa Z (Qa Z ?_)
 refine QB (g := 16) Z (fun h1 => ?_) (fun h1 => ?_)
 ·try rw [h1]
  try simp only [qB] at h1
  refine Qj Z (Qa Z (Qn Z Z (hK _ _ (Qb (kp5 Z Z Z Z Z) ?_))))
  refine Qz Z (fun h2 => ?_) (fun h2 => ?_)
  ·try rw [h2]
   try simp only [qB] at h2
   refine Qe fun K hK => Qa Z (QE (Qar (by omega)) Z Z (.inr Z) (Qa Z (Zi Z Z (Zi Z Z (Qa Z (Qa Z (hK _ _ (Qb (kp2 Z Z) ?_))))))))
   refine Qe fun K hK => Qa Z (QE (Qar (by omega)) Z Z (.inr Z) (Qa Z (Zi Z Z (Zi Z Z (Qa Z (Qa Z (hK _ _ (Qb (kp2 Z Z) ?_))))))))
   refine Qe fun K hK => Qa Z (Qa Z (QE (Z2) Z Z (.inr Z) (Qa Z (hK _ _ (Qb (kp1 Z) ?_)))))
   refine Qs (Qk (Qv Z ?_))
   (repeat clear hK K); first | (simp [Qfd, h1, h2]; done) | (simp_all [Qfd]; done)
  ·try rw [h2]
   try simp only [qB] at h2
   refine Qu (Qd (kp4 Z Z Z Z) ?_)
   refine QD ?_ -- 1
   refine Qe fun K hK => Qa Z (Qa Z (QmC Z Z (hK _ _ (Qb (kp4 Z Z Z Z) ?_))))
   refine Qz Z (fun h3 => ?_) (fun h3 => ?_)
   ·try rw [h3]
    try simp only [qB] at h3
    refine QD ?_ -- 2
    refine Qe fun K hK => Qa Z (hK _ _ (Qb (kp1 Z) ?_))
    refine ZH Z (Qe fun K hK => Qa Z (hK _ _ (Qb (kp1 Z) ?_)))
    refine Qs (Qk (Qk (Qv Z ?_)))
    (repeat clear hK K); first | (simp [Qfd, h1, h2, h3]; done) | (simp_all [Qfd]; done)
   ·try rw [h3]
    try simp only [qB] at h3
    refine Qu (Qd (kp2 Z Z) (Qe fun K hK => Qa Z (Qa Z (QE (XI) Z Z (.inr Z) (Qa Z (hK _ _ (Qb (kp1 Z) ?_)))))))
    refine Qs (Qv Z ?_)
    (repeat clear hK K); first | (simp [Qfd, h1, h2, h3]; done) | (simp_all [Qfd]; done)
 ·try rw [h1]
  try simp only [qB] at h1
  refine Qy Z (Qn Z Z (hK _ _ (Qb (kp5 Z Z Z Z Z) ?_)))
  refine ZA Z (Qu (Qd (kp4 Z Z Z Z) ?_))
  refine QD ?_ -- 1
  refine Qe fun K hK => Qa Z (Qa Z (QmC Z Z (hK _ _ (Qb (kp4 Z Z Z Z) ?_))))
  refine Qz Z (fun h4 => ?_) (fun h4 => ?_)
  ·try rw [h4]
   try simp only [qB] at h4
   refine QD ?_ -- 2
   refine Qe fun K hK => Qa Z (hK _ _ (Qb (kp1 Z) ?_))
   refine ZA Z (Qu (Qd (QO) (Qe fun K hK => Qa Z (hK _ _ (Qb (kp1 Z) ?_)))))
   refine Qs (Qk (Qv Z ?_))
   (repeat clear hK K); first | (simp [Qfd, h1, h4]; done) | (simp_all [Qfd]; done)
  ·try rw [h4]
   try simp only [qB] at h4
   refine Qu (Qd (kp2 Z Z) (Qe fun K hK => Qa Z (Qa Z (QE (XI) Z Z (.inr Z) (Qa Z (hK _ _ (Qb (kp1 Z) ?_)))))))
   refine Qs (Qv Z ?_)
   (repeat clear hK K); first | (simp [Qfd, h1, h4]; done) | (simp_all [Qfd]; done)
theorem QfV {s : List UInt8} (hl : s.length <= 1000000) : Ok Try.prog 85 [.str s] (.bool (Qfe s)) := by
 refine Ok.ofT Z1 Try.func85 Qqj (Nat.le_of_ble_eq_true Z) ?_
 show TW _ _ tf85.body _ _
 refine Qe fun K hK => Qa Z (hK _ _ (Qb (kp1 Z) ?_))
 refine QD ?_ -- 0
 refine Qe fun K hK => Qa Z (QE (Qat (by omega)) Z Z (.inr Z) (Yj Z (hK _ _ (Qb (kp2 Z Z) ?_))))
 refine Qz Z (fun h1 => ?_) (fun h1 => ?_)
 ·try rw [h1]
  try simp only [qB, Qo] at h1
  refine Qe fun K hK => Qa Z (hK _ _ (Qb (kp1 Z) ?_))
  refine Qs (Qk (Qp Z ?_))
  first | (simp [Qfe, h1]; done) | exact (Qib (i := i) (by omega) (by simp [QdP, h1])).symm | exact (Qgm (i := i) (by assumption) (by omega) hI.2).symm
 ·try rw [h1]
  try simp only [qB, Qo] at h1
  refine Qu (Qd (kp1 Z) ?_)
  refine QD ?_ -- 1
  refine Qe fun K hK => Qa Z (QE (XS (by omega)) Z Z (.inl Z) (Q7 Z Z (Qa Z (hK _ _ (Qb (kp3 Z Z Z) ?_)))))
  refine QG ?_
  refine ZM (ι := Nat) (fun i => ⟨[(11, .sl (Yb (Q4 s 46))), (12, .int .i64 (Q4 s 46).length), (13, .int .i64 i)], []⟩) (fun i => i <= (Q4 s 46).length /\ ((Q4 s 46).take i).all QdP = true) (fun i => (Q4 s 46).length - i) 0 ?_ ?_ ?_
  ·exact Zg (l := [11, 12, 13]) (kp3 rfl rfl rfl) Qr (by simp [Qo]) rfl rfl
  ·exact ⟨Nat.zero_le _, rfl⟩
  intro i hI
  have sl := Qdc (s := s) (c := 46)
  try dsimp only
  refine Qe fun K hK => Yz Z Z (hK _ _ (Qb (kp4 Z Z Z Z) ?_))
  refine QD ?_ -- 2
  refine Qz Z (fun h2 => ?_) (fun h2 => ?_)
  ·try rw [h2]
   try simp only [qB, Qo] at h2
   refine Qu (Qd (kp3 Z Z Z) ?_)
   refine QD ?_ -- 3
   refine QG (Qe fun K hK => QM Z Z Z (by omega) (YZ (by omega)) Z (QF Z Z Z (Qa Z (hK _ _ (Qb (kp4 Z Z Z Z) ?_)))))
   refine Qe fun K hK => Qa Z (QE (Qar (XY (by omega) hl)) Z Z (.inr Z) (Qa Z (Zi Z Z (Zi Z Z (Qa Z (Qa Z (hK _ _ (Qb (kp5 Z Z Z Z Z) ?_))))))))
   refine Qe fun K hK => Qa Z (QE (Xr (XY (by omega) hl)) Z Z (.inr Z) (Qa Z ?_))
   refine QB (g := 24) Z (fun h3 => ?_) (fun h3 => ?_)
   ·try rw [h3]
    try simp only [qB, Qo] at h3
    refine Qj Z (Qa Z (Qj Z (Yj Z (Qn Z Z (hK _ _ (Qb (kp4 Z Z Z Z) ?_))))))
    refine Qz Z (fun h4 => ?_) (fun h4 => ?_)
    ·try rw [h4]
     try simp only [qB, Qo] at h4
     refine Qe fun K hK => Qa Z (hK _ _ (Qb (kp1 Z) ?_))
     refine Qs (Qt (Qk (Q8 (Qt (Qk (Qp Z ?_))))))
     first | (simp [Qfe, h1, h2, h3, h4]; done) | exact (Qib (i := i) (by omega) (by simp [QdP, h1, h2, h3, h4])).symm | exact (Qgm (i := i) (by assumption) (by omega) hI.2).symm
    ·try rw [h4]
     try simp only [qB, Qo] at h4
     refine Qu (Qf (Qd (kp3 Z Z Z) (Q0 fun K hK => Za Z Z (by first | exact Qq (by omega) (by omega) | exact QH (by omega) (by omega) | exact QN (by omega) (by omega) | rfl) (Qa Z (hK _ ?_)))))
     refine Qh (i + 1) ?_ ?_ ?_
     ·exact QW (kp3 rfl rfl rfl)
     ·exact ⟨by omega, Zh (by omega) hI.2 (by simp [QdP, h1, h2, h3, h4])⟩
     ·first | omega | (simp only; omega) | (dsimp only; omega)
   ·try rw [h3]
    try simp only [qB, Qo] at h3
    refine Qy Z (Qy Z (Qn Z Z (hK _ _ (Qb (kp4 Z Z Z Z) ?_))))
    refine ZA Z (Qu (Qf (Qd (kp3 Z Z Z) (Q0 fun K hK => Za Z Z (by first | exact Qq (by omega) (by omega) | exact QH (by omega) (by omega) | exact QN (by omega) (by omega) | rfl) (Qa Z (hK _ ?_))))))
    refine Qh (i + 1) ?_ ?_ ?_
    ·exact QW (kp3 rfl rfl rfl)
    ·exact ⟨by omega, Zh (by omega) hI.2 (by simp [QdP, h1, h2, h3])⟩
    ·first | omega | (simp only; omega) | (dsimp only; omega)
  ·try rw [h2]
   try simp only [qB, Qo] at h2
   refine Zl (QJ (Qx (QC (Qd (QO) (Qe fun K hK => Qa Z (hK _ _ (Qb (kp1 Z) ?_)))))))
   refine Qs (Qp Z ?_)
   first | (simp [Qfe, h1, h2]; done) | exact (Qib (i := i) (by omega) (by simp [QdP, h1, h2])).symm | exact (Qgm (i := i) (by assumption) (by omega) hI.2).symm
theorem QcF {a b c : Int} {p q : List UInt8} (hp : p.length <= 1000000) (hq : q.length <= 1000000) : Ok Try.prog 65 [.agg [.int .i64 a, .int .i64 b, .int .i64 c, .str p, .str q]] (.bool (Qbf a b c p q)) := by
 refine Ok.ofT Z1 Try.func65 QpZ (Nat.le_of_ble_eq_true Z) ?_
 show TW _ _ tf65.body _ _
 refine Qe fun K hK => ZP Z Z Z (Qa Z (hK _ _ (Qb (kp1 Z) ?_)))
 refine Qe fun K hK => Qm Z Z (QF Z Z Z (QE (Qas) Z Z (.inr Z) (Qa Z ?_)))
 refine QB (g := 6) Z (fun h1 => ?_) (fun h1 => ?_)
 ·try rw [h1]
  try simp only [qB] at h1
  refine Qj Z (Qm Z Z (Qj Z (QF Z Z Z (Qj Z (QE (Qas) Z Z (.inr Z) (Qn Z Z (Qa Z ?_)))))))
  refine QB (g := 11) Z (fun h2 => ?_) (fun h2 => ?_)
  ·try rw [h2]
   try simp only [qB] at h2
   refine Qj Z (Qm Z Z (Qj Z (QF Z Z Z (Qj Z (QE (Qas) Z Z (.inr Z) (Qn Z Z (Qa Z ?_)))))))
   refine QB (g := 16) Z (fun h3 => ?_) (fun h3 => ?_)
   ·try rw [h3]
    try simp only [qB] at h3
    refine Qj Z (Qm Z Z (Qj Z (QF Z Z Z (Qj Z (Qbh Z Z (Qj Z (Qa Z ?_)))))))
    refine QB (g := 20) Z (fun h4 => ?_) (fun h4 => ?_)
    ·try rw [h4]
     try simp only [qB] at h4
     refine Qy Z (Qy Z (Qy Z (Qj Z (Qn Z Z (Qn Z Z (Qa Z (Qj Z (Qm Z Z (Qj Z (QF Z Z Z (Qj Z ?_)))))))))))
     refine Qbh Z Z (Qj Z (Qa Z ?_))
     refine QB (g := 30) Z (fun h5 => ?_) (fun h5 => ?_)
     ·try rw [h5]
      try simp only [qB] at h5
      refine Qy Z (Qy Z (Qy Z (Qj Z (Qn Z Z (Qn Z Z (Qa Z (hK _ _ (Qb (kp1 Z) ?_))))))))
      refine Qs (Qp Z ?_)
      simp [Qbf, YF, Y9, h1, h2, h3, h4, h5]
     ·try rw [h5]
      try simp only [qB] at h5
      refine Qj Z (Qm Z Z (Qj Z (QF Z Z Z (Qj Z (QE (Qat (by omega)) Z Z (.inr Z) (Qj Z (Qn Z Z (Qn Z Z (Qa Z (hK _ _ (Qb (kp1 Z) ?_)))))))))))
      refine Qs (Qp Z ?_)
      simp [Qbf, YF, Y9, h1, h2, h3, h4, h5]
    ·try rw [h4]
     try simp only [qB] at h4
     refine Qj Z (Qm Z Z (Qj Z (QF Z Z Z (Qj Z (QE (QfV (by omega)) Z Z (.inr Z) (Qj Z (Qn Z Z (Qn Z Z (Qa Z ?_)))))))))
     refine QB (g := 26) Z (fun h6 => ?_) (fun h6 => ?_)
     ·try rw [h6]
      try simp only [qB] at h6
      refine Qj Z (Qm Z Z (Qj Z (QF Z Z Z (Qj Z (Qbh Z Z (Qj Z (Qa Z ?_)))))))
      refine QB (g := 30) Z (fun h7 => ?_) (fun h7 => ?_)
      ·try rw [h7]
       try simp only [qB] at h7
       refine Qy Z (Qy Z (Qy Z (Qj Z (Qn Z Z (Qn Z Z (Qa Z (hK _ _ (Qb (kp1 Z) ?_))))))))
       refine Qs (Qp Z ?_)
       simp [Qbf, YF, Y9, h1, h2, h3, h4, h6, h7]
      ·try rw [h7]
       try simp only [qB] at h7
       refine Qj Z (Qm Z Z (Qj Z (QF Z Z Z (Qj Z (QE (Qat (by omega)) Z Z (.inr Z) (Qj Z (Qn Z Z (Qn Z Z (Qa Z (hK _ _ (Qb (kp1 Z) ?_)))))))))))
       refine Qs (Qp Z ?_)
       simp [Qbf, YF, Y9, h1, h2, h3, h4, h6, h7]
     ·try rw [h6]
      try simp only [qB] at h6
      refine Qy Z (Qy Z (Qy Z (Qy Z (QX Z (QX Z (QX Z (Qy Z (Qn Z Z (Qa Z (hK _ _ (Qb (kp1 Z) ?_)))))))))))
      refine Qs (Qp Z ?_)
      simp [Qbf, YF, Y9, h1, h2, h3, h4, h6]
   ·try rw [h3]
    try simp only [qB] at h3
    refine Qy Z (Qy Z (Qy Z (Qy Z (QX Z (QX Z (QX Z (Qy Z (Qn Z Z (Qa Z (Qy Z (Qy Z ?_)))))))))))
    refine Qy Z (Qy Z (QX Z (QX Z (QX Z (Qy Z (Qn Z Z (Qa Z (hK _ _ (Qb (kp1 Z) ?_)))))))))
    refine Qs (Qp Z ?_)
    simp [Qbf, YF, Y9, h1, h2, h3]
  ·try rw [h2]
   try simp only [qB] at h2
   refine Qy Z (Qy Z (Qy Z (Qn Z Z (Qa Z (Qy Z (Qy Z (Qy Z (Qy Z (QX Z (QX Z (QX Z ?_)))))))))))
   refine Qy Z (Qn Z Z (Qa Z (Qy Z (Qy Z (Qy Z (Qy Z (QX Z (QX Z (QX Z (Qy Z (Qn Z Z ?_)))))))))))
   refine Qa Z (hK _ _ (Qb (kp1 Z) ?_))
   refine Qs (Qp Z ?_)
   simp [Qbf, YF, Y9, h1, h2]
 ·try rw [h1]
  try simp only [qB] at h1
  refine Qy Z (Qy Z (Qy Z (Qn Z Z (Qa Z (Qy Z (Qy Z (Qy Z (Qn Z Z (Qa Z (Qy Z (Qy Z ?_)))))))))))
  refine Qy Z (Qy Z (QX Z (QX Z (QX Z (Qy Z (Qn Z Z (Qa Z (Qy Z (Qy Z (Qy Z (Qy Z ?_)))))))))))
  refine QX Z (QX Z (QX Z (Qy Z (Qn Z Z (Qa Z (hK _ _ (Qb (kp1 Z) ?_)))))))
  refine Qs (Qp Z ?_)
  simp [Qbf, YF, Y9, h1]
theorem Qdl {a b c : Int} {p q : List UInt8} (hp : p.length <= 1000000) (hq : q.length <= 1000000) {a' b' c' : Int} {p' q' : List UInt8} (hp' : p'.length <= 1000000) (hq' : q'.length <= 1000000) : Ok Try.prog 41 [.agg [.int .i64 a, .int .i64 b, .int .i64 c, .str p, .str q], .agg [.int .i64 a', .int .i64 b', .int .i64 c', .str p', .str q']] (.int .i64 (Qb3 a b c p q a' b' c' p' q')) := by
 refine Ok.ofT Z1 Try.func41 QpE (Nat.le_of_ble_eq_true Z) ?_
 show TW _ _ tf41.body _ _
 refine Qe fun K hK => ZP Z Z Z (ZP Z Z Z (Qa Z (hK _ _ (Qb (kp2 Z Z) ?_))))
 refine QD ?_ -- 0
 refine Qe fun K hK => QU (ds0 := [13, 12, 11, 10, 9, 8, 7, 6, 5, 4, 3, 2, 1, 0]) (cs := [_, _, _, _, _]) Z Z Z Z Z Z (Ze (ds0 := [12, 11, 10, 9, 8, 7, 6, 5, 4, 3, 2, 1, 0]) (QcF (by omega) (by omega)) Z Z (.inr Z) Z Z (Yj Z (Qa Z ?_)))
 refine QB (g := 13) Z (fun h1 => ?_) (fun h1 => ?_)
 ·try rw [h1]
  try simp only [qB, Qo] at h1
  refine Qy Z (Qy Z (Qy Z (Qn Z Z (Qa Z (Qy Z (Qy Z (Qy Z (Qy Z (Qy Z (Qn Z Z (hK _ _ (Qb (kp3 Z Z Z) ?_))))))))))))
  refine ZH Z (Qe fun K hK => Qa Z (hK _ _ (Qb (kp1 Z) ?_)))
  refine Qs (Qk (Qv Z ?_))
  first | (simp [Qb3, h1]; done) | (exact (QcJ (by assumption) (by assumption) (by assumption)).symm) | (exact QaQ (by assumption) (by assumption) (by assumption)) | (exact (XU (by assumption) (by assumption) (by assumption) (by assumption) (by assumption)).symm) | (exact (XV (by assumption) (by assumption) (by assumption) (by assumption) (by assumption)).symm) | (rw [hI.2.2, Yo (by omega) (by omega) (by assumption)]) | (rw [hI.2.2, Yn (by omega) (by omega) (by omega)]; simp [Qo])
 ·try rw [h1]
  try simp only [qB, Qo] at h1
  refine Qj Z (QU (ds0 := [9, 8, 7, 6, 5, 4, 3, 2, 1, 0]) (cs := [_, _, _, _, _]) Z Z Z Z Z Z (Qj Z (Ze (ds0 := [8, 7, 6, 5, 4, 3, 2, 1, 0]) (QcF (by omega) (by omega)) Z Z (.inr Z) Z Z (Qj Z (Yj Z (Qn Z Z (Qa Z ?_)))))))
  refine QB (g := 18) Z (fun h2 => ?_) (fun h2 => ?_)
  ·try rw [h2]
   try simp only [qB, Qo] at h2
   refine Qy Z (Qy Z (Qy Z (Qy Z (Qy Z (Qn Z Z (hK _ _ (Qb (kp3 Z Z Z) ?_)))))))
   refine ZH Z (Qe fun K hK => Qa Z (hK _ _ (Qb (kp1 Z) ?_)))
   refine Qs (Qk (Qv Z ?_))
   first | (simp [Qb3, h1, h2]; done) | (exact (QcJ (by assumption) (by assumption) (by assumption)).symm) | (exact QaQ (by assumption) (by assumption) (by assumption)) | (exact (XU (by assumption) (by assumption) (by assumption) (by assumption) (by assumption)).symm) | (exact (XV (by assumption) (by assumption) (by assumption) (by assumption) (by assumption)).symm) | (rw [hI.2.2, Yo (by omega) (by omega) (by assumption)]) | (rw [hI.2.2, Yn (by omega) (by omega) (by omega)]; simp [Qo])
  ·try rw [h2]
   try simp only [qB, Qo] at h2
   refine Qj Z (QU (ds0 := [4, 1, 0]) (cs := [_, _, _, _, _]) Z Z Z Z Z Z (Qj Z (Ze (ds0 := [1, 0]) (Qb7) Z Z (.inl Z) Z Z (Qj Z (QU (ds0 := [2, 1, 0]) (cs := [_, _, _, _, _]) Z Z Z Z Z Z (Qj Z (Ze (ds0 := [1, 0]) (Qb7) Z Z (.inl Z) Z Z (Qj Z (QjC Z Z Z (Qn Z Z (hK _ _ (Qb (kp3 Z Z Z) ?_))))))))))))
   refine Qz Z (fun h3 => ?_) (fun h3 => ?_)
   ·try rw [h3]
    try simp only [qB, Qo] at h3
    refine Qe fun K hK => Qa Z (hK _ _ (Qb (kp1 Z) ?_))
    refine Qs (Qk (Qv Z ?_))
    first | (simp [Qb3, h1, h2, h3]; done) | (exact (QcJ (by assumption) (by assumption) (by assumption)).symm) | (exact QaQ (by assumption) (by assumption) (by assumption)) | (exact (XU (by assumption) (by assumption) (by assumption) (by assumption) (by assumption)).symm) | (exact (XV (by assumption) (by assumption) (by assumption) (by assumption) (by assumption)).symm) | (rw [hI.2.2, Yo (by omega) (by omega) (by assumption)]) | (rw [hI.2.2, Yn (by omega) (by omega) (by omega)]; simp [Qo])
   ·try rw [h3]
    try simp only [qB, Qo] at h3
    refine Qu (Qd (kp2 Z Z) ?_)
    refine QD ?_ -- 1
    refine Qe fun K hK => Qm Z Z (Zt (ds0 := [13, 2, 1, 0]) Z Z Z Z Z (Qm Z Z (Zt (ds0 := [13, 2, 1, 0]) Z Z Z Z Z (Ze (ds0 := [2, 1, 0]) (Z2) Z Z (.inr Z) Z Z (Qm Z Z (Zt (ds0 := [8, 2, 1, 0]) Z Z Z Z Z (Qm Z Z (Zt (ds0 := [8, 2, 1, 0]) Z Z Z Z Z (Ze (ds0 := [2, 1, 0]) (Z2) Z Z (.inr Z) Z Z (Qm Z Z ?_))))))))))
    refine Zt (ds0 := [3, 2, 1, 0]) Z Z Z Z Z (Qm Z Z (Zt (ds0 := [3, 2, 1, 0]) Z Z Z Z Z (Ze (ds0 := [2, 1, 0]) (Z2) Z Z (.inr Z) Z Z (QL Z Z (Ze (ds0 := [0]) (QgQ (l := [ZW a a', ZW b b', ZW c c']) (by simp)) Z Z (.inr Z) Z Z (Qa Z (hK _ _ (Qb (kp3 Z Z Z) ?_))))))))
    refine Qe fun K hK => Qa Z (Xn Z Z (hK _ _ (Qb (kp4 Z Z Z Z) ?_)))
    refine Qz Z (fun h4 => ?_) (fun h4 => ?_)
    ·try rw [h4]
     try simp only [qB, Qo] at h4
     refine Qe fun K hK => Qa Z (Qa Z (hK _ _ (Qb (kp1 Z) ?_)))
     refine Qs (Qk (Qv Z ?_))
     first | (simp [Qb3, h1, h2, h3, h4]; done) | (exact (QcJ (by assumption) (by assumption) (by assumption)).symm) | (exact QaQ (by assumption) (by assumption) (by assumption)) | (exact (XU (by assumption) (by assumption) (by assumption) (by assumption) (by assumption)).symm) | (exact (XV (by assumption) (by assumption) (by assumption) (by assumption) (by assumption)).symm) | (rw [hI.2.2, Yo (by omega) (by omega) (by assumption)]) | (rw [hI.2.2, Yn (by omega) (by omega) (by omega)]; simp [Qo])
    ·try rw [h4]
     try simp only [qB, Qo] at h4
     refine Qu (Qd (kp2 Z Z) ?_)
     refine QD ?_ -- 2
     refine Qe fun K hK => Qm Z Z (QF Z Z Z (Qbh Z Z (hK _ _ (Qb (kp3 Z Z Z) ?_))))
     refine Qz Z (fun h5 => ?_) (fun h5 => ?_)
     ·try rw [h5]
      try simp only [qB, Qo] at h5
      refine Qe fun K hK => Qa Z (hK _ _ (Qb (kp1 Z) ?_))
      refine Qs (Qk (Qv Z ?_))
      first | (simp [Qb3, h1, h2, h3, h4, h5]; done) | (exact (QcJ (by assumption) (by assumption) (by assumption)).symm) | (exact QaQ (by assumption) (by assumption) (by assumption)) | (exact (XU (by assumption) (by assumption) (by assumption) (by assumption) (by assumption)).symm) | (exact (XV (by assumption) (by assumption) (by assumption) (by assumption) (by assumption)).symm) | (rw [hI.2.2, Yo (by omega) (by omega) (by assumption)]) | (rw [hI.2.2, Yn (by omega) (by omega) (by omega)]; simp [Qo])
     ·try rw [h5]
      try simp only [qB, Qo] at h5
      refine Qu (Qd (kp2 Z Z) ?_)
      refine QD ?_ -- 3
      refine Qe fun K hK => Qm Z Z (QF Z Z Z (Qbh Z Z (hK _ _ (Qb (kp3 Z Z Z) ?_))))
      refine Qz Z (fun h6 => ?_) (fun h6 => ?_)
      ·try rw [h6]
       try simp only [qB, Qo] at h6
       refine Qe fun K hK => Qa Z (hK _ _ (Qb (kp1 Z) ?_))
       refine Qs (Qk (Qv Z ?_))
       first | (simp [Qb3, h1, h2, h3, h4, h5, h6]; done) | (exact (QcJ (by assumption) (by assumption) (by assumption)).symm) | (exact QaQ (by assumption) (by assumption) (by assumption)) | (exact (XU (by assumption) (by assumption) (by assumption) (by assumption) (by assumption)).symm) | (exact (XV (by assumption) (by assumption) (by assumption) (by assumption) (by assumption)).symm) | (rw [hI.2.2, Yo (by omega) (by omega) (by assumption)]) | (rw [hI.2.2, Yn (by omega) (by omega) (by omega)]; simp [Qo])
      ·try rw [h6]
       try simp only [qB, Qo] at h6
       refine Qu (Qd (kp2 Z Z) (Qe fun K hK => Qm Z Z (Zt (ds0 := [5, 1]) Z Z Z Z Z (Ze (ds0 := [1]) (XS (by omega)) Z Z (.inl Z) Z Z (Qm Z Z (Zt (ds0 := [2, 0]) Z Z Z Z Z (Ze (ds0 := [0]) (XS (by omega)) Z Z (.inl Z) Z Z (Qa Z (Qa Z (hK _ _ (Qb (kp2 Z Z) ?_)))))))))))
       refine QD ?_ -- 4
       refine Qe fun K hK => Qa Z (hK _ _ (Qb (kp3 Z Z Z) ?_))
       refine QG ?_
       refine ZM (ι := Nat) (fun i => ⟨[(6, .sl (Yb (Q4 p 46))), (7, .sl (Yb (Q4 p' 46))), (8, .int .i64 i)], []⟩) (fun i => i <= (Q4 p 46).length /\ i <= (Q4 p' 46).length /\ Qb3 a b c p q a' b' c' p' q' = Qi0 ((Q4 p 46).drop i) ((Q4 p' 46).drop i)) (fun i => (Q4 p 46).length - i) 0 ?_ ?_ ?_
       ·exact Zg (l := [6, 7, 8]) (kp3 rfl rfl rfl) Qr rfl rfl rfl
       ·exact ⟨Nat.zero_le _, Nat.zero_le _, QmQ (by assumption) (by assumption) (by assumption) (by assumption) (by assumption) (by assumption)⟩
       intro i hI
       have sl := Qdc (s := p) (c := 46)
       try dsimp only
       refine QD ?_ -- 5
       refine Qe fun K hK => Qa Z (Qa Z (Q7 Z Z (Yz Z Z (Qa Z ?_))))
       refine QB (g := 61) Z (fun h7 => ?_) (fun h7 => ?_)
       ·try rw [h7]
        try simp only [qB, Qo] at h7
        refine Qj Z (Qa Z (Qj Z (Qa Z (Qj Z (Q7 Z Z (Qj Z (Yz Z Z (Qn Z Z (hK _ _ (Qb (kp4 Z Z Z Z) ?_))))))))))
        refine Qz Z (fun h8 => ?_) (fun h8 => ?_)
        ·try rw [h8]
         try simp only [qB, Qo] at h8
         refine Qu (Qd (kp3 Z Z Z) ?_)
         refine QD ?_ -- 6
         refine QG (Qe fun K hK => Qa Z (Qa Z (QM Z Z Z (by omega) (YZ (by omega)) Z (Zt (ds0 := [1, 0]) Z Z Z Z Z (Qa Z (Qa Z (QM Z Z Z (by omega) (YZ (by omega)) Z (Zt (ds0 := [1, 0]) Z Z Z Z Z (Ze (ds0 := [0]) (QfW (XY (by omega) hp) (XY (by omega) hp')) Z Z (.inr Z) Z Z (Qa Z ?_))))))))))
         refine hK _ _ (Qb (kp4 Z Z Z Z) ?_)
         refine Qe fun K hK => Qa Z (Xn Z Z (hK _ _ (Qb (kp5 Z Z Z Z Z) ?_)))
         refine Qz Z (fun h9 => ?_) (fun h9 => ?_)
         ·try rw [h9]
          try simp only [qB, Qo] at h9
          refine Qe fun K hK => Qa Z (Qa Z (hK _ _ (Qb (kp1 Z) ?_)))
          refine Qs (Qt (Qk (Q8 (Qt (Qk (Qv Z ?_))))))
          first | (simp [Qb3, h1, h2, h3, h4, h5, h6, h7, h8, h9]; done) | (exact (QcJ (by assumption) (by assumption) (by assumption)).symm) | (exact QaQ (by assumption) (by assumption) (by assumption)) | (exact (XU (by assumption) (by assumption) (by assumption) (by assumption) (by assumption)).symm) | (exact (XV (by assumption) (by assumption) (by assumption) (by assumption) (by assumption)).symm) | (rw [hI.2.2, Yo (by omega) (by omega) (by assumption)]) | (rw [hI.2.2, Yn (by omega) (by omega) (by omega)]; simp [Qo])
         ·try rw [h9]
          try simp only [qB, Qo] at h9
          refine Qu (Qf (Qd (kp3 Z Z Z) (Q0 fun K hK => Qa Z (Za Z Z (by first | exact Qq (by omega) (by omega) | exact QH (by omega) (by omega) | exact QN (by omega) (by omega) | rfl) (Qa Z (hK _ ?_))))))
          refine Qh (i + 1) ?_ ?_ ?_
          ·exact QW (kp3 rfl rfl rfl)
          ·exact ⟨by omega, by omega, by rw [hI.2.2, Qhi (by omega) (by omega) (by assumption)]⟩
          ·first | omega | (simp only; omega) | (dsimp only; omega)
        ·try rw [h8]
         try simp only [qB, Qo] at h8
         refine Zl (QJ (Qx (QC (Qd (kp2 Z Z) (Qe fun K hK => Qa Z (Q7 Z Z (Qa Z (Q7 Z Z (QE (Z2) Z Z (.inr Z) (Qa Z ?_))))))))))
         refine hK _ _ (Qb (kp1 Z) ?_)
         refine Qs (Qv Z ?_)
         first | (simp [Qb3, h1, h2, h3, h4, h5, h6, h7, h8]; done) | (exact (QcJ (by assumption) (by assumption) (by assumption)).symm) | (exact QaQ (by assumption) (by assumption) (by assumption)) | (exact (XU (by assumption) (by assumption) (by assumption) (by assumption) (by assumption)).symm) | (exact (XV (by assumption) (by assumption) (by assumption) (by assumption) (by assumption)).symm) | (rw [hI.2.2, Yo (by omega) (by omega) (by assumption)]) | (rw [hI.2.2, Yn (by omega) (by omega) (by omega)]; simp [Qo])
       ·try rw [h7]
        try simp only [qB, Qo] at h7
        refine Qy Z (Qy Z (Qy Z (Qy Z (Qn Z Z (hK _ _ (Qb (kp4 Z Z Z Z) ?_))))))
        refine ZA Z (Zl (QJ (Qx (QC (Qd (kp2 Z Z) (Qe fun K hK => Qa Z (Q7 Z Z (Qa Z (Q7 Z Z (QE (Z2) Z Z (.inr Z) ?_))))))))))
        refine Qa Z (hK _ _ (Qb (kp1 Z) ?_))
        refine Qs (Qv Z ?_)
        first | (simp [Qb3, h1, h2, h3, h4, h5, h6, h7]; done) | (exact (QcJ (by assumption) (by assumption) (by assumption)).symm) | (exact QaQ (by assumption) (by assumption) (by assumption)) | (exact (XU (by assumption) (by assumption) (by assumption) (by assumption) (by assumption)).symm) | (exact (XV (by assumption) (by assumption) (by assumption) (by assumption) (by assumption)).symm) | (rw [hI.2.2, Yo (by omega) (by omega) (by assumption)]) | (rw [hI.2.2, Yn (by omega) (by omega) (by omega)]; simp [Qo])
end Go.Proofs
namespace M3
open Go Go.Abs
end M3
namespace M3
open Go Go.Abs
end M3
namespace M3
open Go Go.Abs
end M3
namespace M25
open Go Go.Abs M3
def QfA (a b c : Int) : Bool := decide (a = 0) && decide (b = 0) && decide (c = 0)
def XW (a b c : Int) (p q : List UInt8) (part : Int) : Option (Int × Int × Int) :=
 if Qbf a b c p q = false \/ part < 0 \/ 2 < part then none
 else
  let o := if part = 0 then (a + 1, 0, 0) else if part = 1 then (a, b + 1, 0) else (a, b, c + 1)
  if Qbf o.1 o.2.1 o.2.2 [] [] = true then some o else none
def dOV (o : Option (Int × Int × Int)) : D := .tup [.agg [.int .i64 (o.getD (0, 0, 0)).1, .int .i64 (o.getD (0, 0, 0)).2.1, .int .i64 (o.getD (0, 0, 0)).2.2, .str [], .str []], .bool o.isSome]
def Xv (a b c : Int) (p q : List UInt8) : Nat -> Option (Int × Int × Int)
 | 0 => none
 | n + 1 => if (XW a b c p q n).isSome = true then XW a b c p q n else Xv a b c p q n
def Qhh (a b c : Int) (p q : List UInt8) : Option (Int × Int × Int) :=
 if Qbf a b c p q = false then none else if p ≠ [] then some (a, b, c) else Xv a b c p q 3
theorem QbP {a b c : Int} {p q : List UInt8} (h : Qbf a b c p q = true) : (0 <= a /\ a <= 9999) /\ (0 <= b /\ b <= 9999) /\ (0 <= c /\ c <= 9999) := by
 simp only [Qbf, Qe9, Bool.and_eq_true, decide_eq_true_eq] at h
 omega
theorem QhM {a b c : Int} {p q : List UInt8} {m : Nat} (hm : 0 < m) (h : (XW a b c p q ((m : Int) - 1)).isSome = false) : Xv a b c p q m = Xv a b c p q (m - 1) := by
 obtain ⟨n, rfl⟩ : ∃ n, m = n + 1 := ⟨m - 1, by omega⟩
 rw [show ((n + 1 : Nat) : Int) - 1 = (n : Int) by omega] at h
 rw [Xv, if_neg (by rw [h]; simp)]; rfl
theorem QgP {a b c : Int} {p q : List UInt8} {m : Nat} (hm : 0 < m) (h : (XW a b c p q ((m : Int) - 1)).isSome = true) : Xv a b c p q m = XW a b c p q ((m : Int) - 1) := by
 obtain ⟨n, rfl⟩ : ∃ n, m = n + 1 := ⟨m - 1, by omega⟩
 rw [show ((n + 1 : Nat) : Int) - 1 = (n : Int) by omega] at h ⊢
 rw [Xv, if_pos h]
def dCu (x : Cu) : List D := [.int .i64 x.e, .int .i64 x.a, .int .i64 x.b, .int .i64 x.c, .str x.p, .str x.q, .bool x.f]
def QdM (s : Cu × Cu) : List D := dCu s.1 ++ dCu s.2
def ZN (l : List (Cu × Cu)) : D := .sl (l.map QdM)
def QgC (s : List (Cu × Cu) × List (Cu × Cu)) : D := .agg [ZN s.1, ZN s.2]
def Qb8 : Cu := ⟨-1, 0, 0, 0, [], [], false⟩
def Qe8 : Cu := ⟨1, 0, 0, 0, [], [], false⟩
def QeL (a b c : Int) : Cu := if QfA a b c = true then Qb8 else ⟨0, a, b, c, [], [], false⟩
def QcW (a b c : Int) : Cu := match Qhh a b c [] [] with
 | none => Qe8
 | some o => ⟨0, o.1, o.2.1, o.2.2, [], [], false⟩
def Y8 (a b c : Int) (p q : List UInt8) : List (Cu × Cu) × List (Cu × Cu) :=
 if Qbf a b c p q = false then ([], []) else if p ≠ [] then ([], [(⟨0, a, b, c, p, [], false⟩, ⟨0, a, b, c, p, [], true⟩)]) else ([(QeL a b c, QcW a b c)], [])
def QfD (e a b c : Int) (p q : List UInt8) (f : Bool) : Bool := !decide (e = 0) || (!f && decide (p = []) && !QfA a b c)
def Cu.sm (x : Cu) : Prop := x.p.length <= 1000000 /\ x.q.length <= 1000000
def Sm (l : List (Cu × Cu)) : Prop := l.length <= 1000000 /\ ∀ s ∈ l, Cu.sm s.1 /\ Cu.sm s.2
theorem Sm.at {l : List (Cu × Cu)} (h : Sm l) {i : Nat} (hi : i < l.length) : (l[i].1.p.length <= 1000000 /\ l[i].1.q.length <= 1000000) /\ (l[i].2.p.length <= 1000000 /\ l[i].2.q.length <= 1000000) := h.2 _ (List.getElem_mem hi)
def QcY (s : Cu × Cu) : Bool := Qhj s.1.e s.1.a s.1.b s.1.c s.1.p s.1.q s.1.f s.2.e s.2.a s.2.b s.2.c s.2.p s.2.q s.2.f
def Qa1 (x y : Cu) : Int := Qa0 x.e x.a x.b x.c x.p x.q x.f y.e y.a y.b y.c y.p y.q y.f
def Qnt (l : List (Cu × Cu)) (i : Nat) : Bool := match l[i]? with
 | none => true
 | some s => QcY s && (decide (i = 0) || match l[i - 1]? with | none => true | some r => decide (Qa1 r.2 s.1 < 0))
theorem Qky {l : List (Cu × Cu)} {i : Nat} (h : i < l.length) : Qnt l i = (QcY l[i] && (decide (i = 0) || decide (Qa1 (l[i - 1]'(by omega)).2 l[i].1 < 0))) := by
 unfold Qnt
 rw [List.getElem?_eq_getElem h, List.getElem?_eq_getElem (show i - 1 < l.length by omega)]
theorem Qmo {l : List (Cu × Cu)} {i : Nat} (h : i < l.length) (h1 : QcY l[i] = true) (h2 : i = 0 \/ Qa1 (l[i - 1]'(by omega)).2 l[i].1 < 0) : Qnt l i = true := by
 rw [Qky h, h1]; simpa using h2
theorem QfF {l : List (Cu × Cu)} {i : Nat} (h : i < l.length) (h1 : QcY l[i] = false \/ (i ≠ 0 /\ 0 <= Qa1 (l[i - 1]'(by omega)).2 l[i].1)) : Qnt l i = false := by
 rw [Qky h]
 rcases h1 with h1 | ⟨h1, h2⟩
 ·rw [h1]; rfl
 ·simp only [Bool.and_eq_false_iff, Bool.or_eq_false_iff, decide_eq_false_iff_not]
  exact .inr ⟨h1, by omega⟩
def Qfb (l : List (Cu × Cu)) : Bool := (List.range l.length).all (Qnt l)
theorem Qa3 {n i : Nat} {p : Nat -> Bool} (h : i < n) (hp : p i = false) : (List.range n).all p = false := by
 rw [Bool.eq_false_iff]; intro ha
 rw [List.all_eq_true] at ha
 rw [ha i (List.mem_range.2 h)] at hp; cases hp
theorem Qgo {i : Nat} {p : Nat -> Bool} (h : (List.range i).all p = true) (hp : p i = true) : (List.range (i + 1)).all p = true := by
 rw [List.range_succ, List.all_append, h]; simp [hp]
theorem Qgn {i : Nat} {p : Nat -> Bool} {n : Nat} (h : (List.range i).all p = true) (hn : n <= i) : (List.range n).all p = true := by
 rw [List.all_eq_true] at h ⊢
 exact fun x hx => h x (List.mem_range.2 (Nat.lt_of_lt_of_le (List.mem_range.1 hx) hn))
def inC (x y : Cu) (s : Cu × Cu) : Bool := decide (Qa1 s.1 x <= 0) && decide (Qa1 y s.2 <= 0)
theorem QnU {x y : Cu} {s : Cu × Cu} (h1 : Qa1 s.1 x <= 0) (h2 : Qa1 y s.2 <= 0) : inC x y s = true := by simp [inC, h1, h2]
theorem QnT {x y : Cu} {s : Cu × Cu} (h : ¬ Qa1 s.1 x <= 0 \/ ¬ Qa1 y s.2 <= 0) : inC x y s = false := by
 simp only [inC, Bool.and_eq_false_iff, decide_eq_false_iff_not]; exact h
def mIn (l : List (Cu × Cu)) (x y : Cu) : Bool := l.any (inC x y)
theorem QhK {α : Type} {s : List α} {p : α -> Bool} {i : Nat} (h : i < s.length) (hp : p s[i] = true) : s.any p = true := List.any_eq_true.2 ⟨_, List.getElem_mem h, hp⟩
theorem Ql7 {α : Type} {s : List α} {p : α -> Bool} {i : Nat} (hi : s.length <= i) (h : (s.take i).any p = false) : s.any p = false := by rwa [List.take_of_length_le hi] at h
theorem Qfk {α : Type} {s : List α} {p : α -> Bool} {i : Nat} (h : i < s.length) (ha : (s.take i).any p = false) (hp : p s[i] = false) : (s.take (i + 1)).any p = false := by
 rw [List.take_succ_eq_append_getElem h, List.any_append, ha]; simp [hp]
def Qba (x : Cu) : Bool := QfD x.e x.a x.b x.c x.p x.q x.f
def Qfc (s : List (Cu × Cu) × List (Cu × Cu)) : Bool := Qfb s.1 && Qfb s.2 && s.1.all fun x => Qba x.1 && Qba x.2
theorem Qay {s : List (Cu × Cu) × List (Cu × Cu)} (h : Qfb s.1 = false \/ Qfb s.2 = false) : Qfc s = false := by
 rw [Qfc]; rcases h with h | h <;> simp [h]
theorem Qax {s : List (Cu × Cu) × List (Cu × Cu)} {i : Nat} (hi : i < s.1.length) (h : Qba s.1[i].1 = false \/ Qba s.1[i].2 = false) : Qfc s = false := by
 have : (s.1.all fun x => Qba x.1 && Qba x.2) = false := Yd hi (by rcases h with h | h <;> simp [h])
 rw [Qfc, this, Bool.and_false]
theorem Qc1 {s : List (Cu × Cu) × List (Cu × Cu)} {i : Nat} (h1 : Qfb s.1 = true) (h2 : Qfb s.2 = true) (hi : s.1.length <= i) (h : (s.1.take i).all (fun x => Qba x.1 && Qba x.2) = true) : Qfc s = true := by
 rw [List.take_of_length_le hi] at h
 rw [Qfc, h1, h2, h]; rfl
def QfX (l : List Cu) : D := .sl (l.map dCu)
theorem Qht {l : List Cu} : ∀ r ∈ l.map dCu, r.length = 7 := fun r hr => by obtain ⟨x, _, rfl⟩ := List.mem_map.1 hr; rfl
theorem QlV {l : List Cu} {a b : Nat} : ∀ r ∈ ((l.map dCu).take a).drop b, r.length = 7 := fun r hr => Qht r (List.mem_of_mem_take (List.mem_of_mem_drop hr))
def Qbz : List Cu -> Cu -> List Cu
 | [], c => [c]
 | x :: r, c => if Qa1 x c < 0 then x :: Qbz r c else if Qa1 x c = 0 then x :: r else c :: x :: r
theorem Qkp {l : List Cu} {c : Cu} {k : Nat} (hk : k < l.length) (h : Qa1 l[k] c < 0) (hi : Qbz l c = l.take k ++ Qbz (l.drop k) c) : Qbz l c = l.take (k + 1) ++ Qbz (l.drop (k + 1)) c := by
 rw [hi, List.drop_eq_getElem_cons hk, Qbz, if_pos h, List.take_succ_eq_append_getElem hk, List.append_assoc]; rfl
theorem Qko {l : List Cu} {c : Cu} {k : Nat} (hk : k < l.length) (h : Qa1 l[k] c = 0) (hi : Qbz l c = l.take k ++ Qbz (l.drop k) c) : Qbz l c = l := by
 rw [hi, List.drop_eq_getElem_cons hk, Qbz, if_neg (by omega), if_pos h, <- List.drop_eq_getElem_cons hk, List.take_append_drop]
theorem QiZ {l : List Cu} {c : Cu} {k : Nat} (h : l.length <= k \/ ∃ hk : k < l.length, ¬ Qa1 l[k] c < 0 /\ Qa1 l[k] c ≠ 0) (hi : Qbz l c = l.take k ++ Qbz (l.drop k) c) : Qbz l c = l.take k ++ c :: l.drop k := by
 rw [hi]
 rcases h with h | ⟨hk, h1, h2⟩
 ·rw [List.drop_eq_nil_of_le h, Qbz]
 ·rw [List.drop_eq_getElem_cons hk, Qbz, if_neg h1, if_neg h2]
theorem QdZ : ∀ (l : List Cu) (c : Cu), (Qbz l c).length <= l.length + 1
 | [], c => by simp [Qbz]
 | x :: r, c => by
  have := QdZ r c
  simp only [Qbz]
  (repeat' split) <;> simp <;> omega
theorem Qgi : ∀ {l : List Cu} {c : Cu}, (∀ x ∈ l, Cu.sm x) -> Cu.sm c -> ∀ x ∈ Qbz l c, Cu.sm x
 | [], c, _, hc, x, hx => by simp [Qbz] at hx; exact hx ▸ hc
 | y :: r, c, hl, hc, x, hx => by
  simp only [Qbz] at hx
  split at hx
  ·rcases List.mem_cons.1 hx with rfl | hx
   ·exact hl _ (by simp)
   ·exact Qgi (fun z hz => hl z (by simp [hz])) hc x hx
  ·split at hx
   ·exact hl x hx
   ·rcases List.mem_cons.1 hx with rfl | hx
    ·exact hc
    ·exact hl x hx
def YL (l : List (Cu × Cu)) : List Cu := l.foldl (fun out s => Qbz (Qbz out s.1) s.2) [Qb8, Qe8]
theorem QlC {l : List (Cu × Cu)} {i : Nat} (h : i < l.length) : YL (l.take (i + 1)) = Qbz (Qbz (YL (l.take i)) l[i].1) l[i].2 := by
 rw [List.take_succ_eq_append_getElem h, YL, List.foldl_append]; rfl
theorem Qfx : ∀ (l : List (Cu × Cu)) (out : List Cu), (l.foldl (fun out s => Qbz (Qbz out s.1) s.2) out).length <= out.length + 2 * l.length
 | [], out => by simp
 | s :: l, out => by
  have h1 := QdZ out s.1
  have h2 := QdZ (Qbz out s.1) s.2
  have := Qfx l (Qbz (Qbz out s.1) s.2)
  simp only [List.foldl_cons, List.length_cons]; omega
theorem Qbw (l : List (Cu × Cu)) : (YL l).length <= 2 + 2 * l.length := Qfx l _
theorem Qhe : ∀ {l : List (Cu × Cu)} {out : List Cu}, (∀ s ∈ l, Cu.sm s.1 /\ Cu.sm s.2) -> (∀ x ∈ out, Cu.sm x) -> ∀ x ∈ l.foldl (fun out s => Qbz (Qbz out s.1) s.2) out, Cu.sm x
 | [], _, _, h => h
 | s :: l, out, hl, h => by
  rw [List.foldl_cons]
  exact Qhe (fun t ht => hl t (by simp [ht])) (Qgi (Qgi h (hl s (by simp)).1) (hl s (by simp)).2)
theorem QiW {l : List (Cu × Cu)} (hl : ∀ s ∈ l, Cu.sm s.1 /\ Cu.sm s.2) : ∀ x ∈ YL l, Cu.sm x := Qhe hl (by
 intro x hx
 simp only [List.mem_cons, List.not_mem_nil, or_false] at hx
 rcases hx with rfl | rfl <;> exact ⟨Nat.zero_le _, Nat.zero_le _⟩)
theorem QdY {l : List (Cu × Cu)} (hl : Sm l) (i : Nat) : (YL (l.take i)).length <= 2000002 /\ ∀ x ∈ YL (l.take i), Cu.sm x := by
 refine ⟨?_, QiW fun s hs => hl.2 s (List.mem_of_mem_take hs)⟩
 have := Qbw (l.take i)
 have h2 : (l.take i).length <= l.length := List.length_take_le' ..
 have := hl.1
 omega
def Qby (l : List (Cu × Cu)) (x y : Cu) : List (Cu × Cu) := match l.getLast? with
 | some s => if Qa1 s.2 x = 0 then l.dropLast ++ [(s.1, y)] else l ++ [(x, y)]
 | none => l ++ [(x, y)]
theorem Qhf {l : List (Cu × Cu)} {x y : Cu} {i : Nat} (hi : i + 1 = l.length) (h : Qa1 (l[i]'(by omega)).2 x = 0) : Qby l x y = l.set i ((l[i]'(by omega)).1, y) := by
 have hg : l.getLast? = some (l[i]'(by omega)) := by
  rw [List.getLast?_eq_getElem?, show l.length - 1 = i by omega, List.getElem?_eq_getElem]
 rw [Qby, hg]
 simp only [h, if_true]
 rw [List.dropLast_eq_take, show l.length - 1 = i by omega, List.set_eq_take_append_cons_drop, if_pos (by omega), List.drop_eq_nil_of_le (by omega)]
theorem QcX {l : List (Cu × Cu)} {x y : Cu} (h : l = [] \/ ∃ i, ∃ hi : i + 1 = l.length, Qa1 (l[i]'(by omega)).2 x ≠ 0) : Qby l x y = l ++ [(x, y)] := by
 rcases h with rfl | ⟨i, hi, h⟩
 ·rfl
 ·have hg : l.getLast? = some (l[i]'(by omega)) := by
   rw [List.getLast?_eq_getElem?, show l.length - 1 = i by omega, List.getElem?_eq_getElem]
  rw [Qby, hg]
  simp only [if_neg h]
theorem Qhg (l : List (Cu × Cu)) (x y : Cu) : (Qby l x y).length <= l.length + 1 := by
 unfold Qby
 split
 ·split
  ·simp
  ·simp
 ·simp
theorem QiX {l : List (Cu × Cu)} {x y : Cu} (hl : ∀ s ∈ l, Cu.sm s.1 /\ Cu.sm s.2) (hx : Cu.sm x) (hy : Cu.sm y) : ∀ s ∈ Qby l x y, Cu.sm s.1 /\ Cu.sm s.2 := by
 intro s hs
 unfold Qby at hs
 split at hs
 ·rename_i t ht
  have ht' := List.mem_of_getLast? ht
  split at hs
  ·rcases List.mem_append.1 hs with hs | hs
   ·exact hl s (List.dropLast_subset _ hs)
   ·simp at hs; subst hs; exact ⟨(hl t ht').1, hy⟩
  ·rcases List.mem_append.1 hs with hs | hs
   ·exact hl s hs
   ·simp at hs; subst hs; exact ⟨hx, hy⟩
 ·rcases List.mem_append.1 hs with hs | hs
  ·exact hl s hs
  ·simp at hs; subst hs; exact ⟨hx, hy⟩
theorem QiS {α β : Type} {l : List α} {f : α -> β} {i : Nat} (h : i + 1 < l.length) : (l.map f)[((i : Int) + 1).toNat]? = some (f l[i + 1]) := by
 rw [show ((i : Int) + 1).toNat = i + 1 by omega, List.getElem?_map, List.getElem?_eq_getElem h]; rfl
def Qbx (f : Cu -> Cu -> Bool) : List Cu -> List (Cu × Cu) -> List (Cu × Cu)
 | x :: y :: r, out => Qbx f (y :: r) (if f x y = true then Qby out x y else out)
 | _, out => out
def Qh6 (l : List (Cu × Cu)) : List (Cu × Cu) := if l.all QcY = true then Qbx (mIn l) (YL l) [] else []
theorem Qfy {f : Cu -> Cu -> Bool} {c : List Cu} {out : List (Cu × Cu)} {i : Nat} (h : i + 1 < c.length) : Qbx f (c.drop i) out = Qbx f (c.drop (i + 1)) (if f c[i] c[i + 1] = true then Qby out c[i] c[i + 1] else out) := by
 rw [List.drop_eq_getElem_cons (show i < c.length by omega), List.drop_eq_getElem_cons h, Qbx]
theorem Qkn {f : Cu -> Cu -> Bool} {c : List Cu} {out : List (Cu × Cu)} {i : Nat} (h : c.length <= i + 1) : Qbx f (c.drop i) out = out := by
 have : (c.drop i).length <= 1 := by simp; omega
 match hd : c.drop i with
 | [] => rfl
 | [x] => rfl
 | x :: y :: r => rw [hd] at this; simp at this
def FillI (f : Cu -> Cu -> Bool) (c : List Cu) (i : Nat) (out : List (Cu × Cu)) : Prop :=
 out.length <= i /\ (∀ s ∈ out, Cu.sm s.1 /\ Cu.sm s.2) /\ Qbx f c [] = Qbx f (c.drop i) out
theorem FillI.zero {f : Cu -> Cu -> Bool} {c : List Cu} : FillI f c 0 [] := ⟨Nat.zero_le _, by simp, by simp⟩
theorem FillI.take {f : Cu -> Cu -> Bool} {c : List Cu} {i : Nat} {out : List (Cu × Cu)} (h : FillI f c i out) (hc : ∀ x ∈ c, Cu.sm x) (hi : i + 1 < c.length) (ht : f c[i] c[i + 1] = true) : FillI f c (i + 1) (Qby out c[i] c[i + 1]) := by
 obtain ⟨h1, h2, h3⟩ := h
 refine ⟨Nat.le_trans (Qhg ..) (by omega), QiX h2 (hc _ (List.getElem_mem _)) (hc _ (List.getElem_mem _)), ?_⟩
 rw [h3, Qfy hi, if_pos ht]
theorem FillI.skip {f : Cu -> Cu -> Bool} {c : List Cu} {i : Nat} {out : List (Cu × Cu)} (h : FillI f c i out) (hi : i + 1 < c.length) (ht : f c[i] c[i + 1] = false) : FillI f c (i + 1) out := by
 obtain ⟨h1, h2, h3⟩ := h
 exact ⟨by omega, h2, by rw [h3, Qfy hi, if_neg (by rw [ht]; simp)]⟩
theorem FillI.done {f : Cu -> Cu -> Bool} {c : List Cu} {i : Nat} {out : List (Cu × Cu)} (h : FillI f c i out) (hi : c.length <= i + 1) : Qbx f c [] = out := by rw [h.2.2, Qkn hi]
theorem Yr {l : List (Cu × Cu)} (hl : Sm l) : ∀ x ∈ YL l, Cu.sm x := QiW hl.2
def Qmi (a b : List (Cu × Cu)) : List (Cu × Cu) := if Qfb a = true /\ Qfb b = true then Qh6 (a ++ b) else []
def Qh7 (a : List (Cu × Cu)) : List (Cu × Cu) := if Qfb a = true then Qbx (fun x y => !mIn a x y) (YL a) [] else []
theorem Qmq {l : List (Cu × Cu)} : ∀ r ∈ l.map QdM, r.length = 14 := fun r hr => by obtain ⟨x, _, rfl⟩ := List.mem_map.1 hr; rfl
theorem Sm.app {a b : List (Cu × Cu)} (ha : Sm a) (hb : Sm b) (h : a.length + b.length <= 1000000) : Sm (a ++ b) := by
 refine ⟨by simp; omega, fun s hs => ?_⟩
 rcases List.mem_append.1 hs with hs | hs
 ·exact ha.2 s hs
 ·exact hb.2 s hs
theorem QoG {H : List (Nat × Box)} {S : Nat -> Bool} {k n : Nat} {b : Box} (hS : S k = true) (hb : lk H k = some b) (hp : b.pr = true) (hn : n = b.rows.length) : (D.osl k n).fz H S = .sl b.rows := by
 simp only [D.fz, D.fzS, hS, hb, if_true, hp, hn, and_self]
abbrev QhE := List (Cu × Cu) × List (Cu × Cu)
def Qmj (a b : QhE) : QhE := if Qfc a = true /\ Qfc b = true then (Qmi a.1 b.1, Qmi a.2 b.2) else ([], [])
def Qgh (a : QhE) : QhE := if Qfc a = true then (Qh7 a.1, Qh7 a.2) else ([], [])
def mPl (v n : Int) : Int := if n < 1 then 0 else QeM v n
theorem QfC {v n : Int} : 0 <= mPl v n := by
 unfold mPl; split
 ·omega
 ·exact QlP (by omega)
theorem QfB {v n : Int} (h : 1 <= n) : mPl v n < n := by
 rw [mPl, if_neg (by omega)]; exact QlO (by omega)
def Qk6 (l : List Int) (i : Int) : Int := if i < 0 \/ (l.length : Int) <= i then i.tmod 3 else l.getD i.toNat 0
theorem Qkm {l : List Int} {i : Int} (h0 : 0 <= i) (h : i < l.length) : Qk6 l i = l[i.toNat]'(by omega) := by
 rw [Qk6, if_neg (by omega), List.getD_eq_getElem?_getD, List.getElem?_eq_getElem (by omega)]; rfl
def I64 (x : Int) : Prop := -9223372036854775808 <= x /\ x <= 9223372036854775807
theorem QlB {l : List Int} {i : Int} (hl : ∀ x ∈ l, I64 x) (hi : I64 i) : I64 (Qk6 l i) := by
 by_cases h : i < 0 \/ (l.length : Int) <= i
 ·rw [Qk6, if_pos h]
  have h1 := Int.tmod_lt_of_pos i (show (0 : Int) < 3 by omega)
  have h2 := Int.lt_tmod_of_pos i (show (0 : Int) < 3 by omega)
  exact ⟨by omega, by omega⟩
 ·rw [Qkm (by omega) (by omega)]
  exact hl _ (List.getElem_mem _)
theorem Qk4 (x : Int) : I64 (IntKind.i64.wrap x) := by
 unfold IntKind.wrap I64
 simp only [IntKind.bits, IntKind.signed, Bool.true_and]
 split
 ·rename_i h
  have := of_decide_eq_true h
  omega
 ·rename_i h
  have : ¬ (x % 2 ^ 64 >= 2 ^ (64 - 1)) := fun hh => h (decide_eq_true hh)
  omega
theorem Qdt {α : Type} {k : Nat} {v : α} {l : List (Nat × α)} : lk ((k, v) :: l) k = some v := by rw [Ql, if_pos rfl]
theorem QdX {α : Type} {k : Nat} {v : α} {l : List (Nat × α)} : (lk ((k, v) :: l) k).isSome = true := by rw [Qdt]; rfl
def gB (L : List Int) (I : Int) (et : Nat) : Box := ⟨[[Zv L, .int .i64 I]], 2, et, true⟩
def nxI (I : Int) : Int := IntKind.i64.wrap (I + 1)
def nx (L : List Int) (I n : Int) : Int := mPl (Qk6 L (IntKind.i64.wrap (nxI I - 1))) n
def Qhk (h m : Int) : Int := if Qds .and .i64 h m = h then 2 else if Qds .and .i64 h m = 0 then 0 else 1
structure Vr where
 a : Int
 b : Int
 c : Int
 p : List UInt8
 q : List UInt8
def dVr (v : Vr) : List D := [.int .i64 v.a, .int .i64 v.b, .int .i64 v.c, .str v.p, .str v.q]
def Vr.sm (v : Vr) : Prop := v.p.length <= 100 /\ v.q.length <= 100
def versions : List Vr := [⟨1, 0, 0, [], []⟩, ⟨1, 2, 0, [], []⟩, ⟨2, 0, 0, [97, 46, 49], []⟩, ⟨2, 0, 0, [], []⟩]
theorem Qio : ∀ v ∈ versions, v.sm := by
 intro v hv
 simp only [versions, List.mem_cons, List.not_mem_nil, or_false] at hv
 rcases hv with rfl | rfl | rfl | rfl <;> exact ⟨by decide, by decide⟩
theorem Qc4 {i : Nat} : ((i : Int) - 1).toNat = i - 1 := by omega
end M25
namespace Go.Proofs
open Go Go.Abs M3 M25
set_option linter.unusedVariables false
set_option linter.unusedSimpArgs false
theorem X2 {a b c : Int} {p q : List UInt8} : Ok Try.prog 76 [.agg [.int .i64 a, .int .i64 b, .int .i64 c, .str p, .str q]] (.agg [.int .i64 a, .int .i64 b, .int .i64 c, .str p, .str []]) := by
 refine Ok.ofT Z1 Try.func76 Qqa (Nat.le_of_ble_eq_true Z) ?_
 show TW _ _ tf76.body _ _
 refine Qe fun K hK => ZP Z Z Z (ZD Z (hK _ _ (Qb (kp2 Z Z) ?_)))
 refine Qe fun K hK => Qm Z Z (QT Z Z Z Z Z Z Z Z (hK _ _ (Qb (kp2 Z Z) ?_)))
 refine Qe fun K hK => QP (cs := [_, _, _, _, _]) Z Z Z Z (QT Z Z Z Z Z Z Z Z (hK _ _ (Qb (kp1 Z) ?_)))
 refine Qs (Zz (cs := [_, _, _, _, _]) Z Z Z Z ?_)
 exact rfl
theorem YS  : Ok Try.prog 78 [] (.agg [.int .i64 (-1), .int .i64 0, .int .i64 0, .int .i64 0, .str [], .str [], .bool false]) := by
 refine Ok.ofT Z1 Try.func78 Qqc (Nat.le_of_ble_eq_true Z) ?_
 show TW _ _ tf78.body _ _
 refine Qe fun K hK => ZD Z (hK _ _ (Qb (kp1 Z) ?_))
 refine Qe fun K hK => QZ Z Z (QT Z Z Z Z Z Z Z Z (hK _ _ (Qb (kp1 Z) ?_)))
 refine Qs (Zz (cs := [_, _, _, _, _, _, _]) Z Z Z Z ?_)
 exact rfl
theorem Y4  : Ok Try.prog 80 [] (.agg [.int .i64 1, .int .i64 0, .int .i64 0, .int .i64 0, .str [], .str [], .bool false]) := by
 refine Ok.ofT Z1 Try.func80 Qqe (Nat.le_of_ble_eq_true Z) ?_
 show TW _ _ tf80.body _ _
 refine Qe fun K hK => ZD Z (hK _ _ (Qb (kp1 Z) ?_))
 refine Qe fun K hK => QZ Z Z (QT Z Z Z Z Z Z Z Z (hK _ _ (Qb (kp1 Z) ?_)))
 refine Qs (Zz (cs := [_, _, _, _, _, _, _]) Z Z Z Z ?_)
 exact rfl
theorem YB {a b c : Int} {p q : List UInt8} : Ok Try.prog 54 [.agg [.int .i64 a, .int .i64 b, .int .i64 c, .str p, .str q]] (.agg [.int .i64 0, .int .i64 a, .int .i64 b, .int .i64 c, .str p, .str [], .bool false]) := by
 refine Ok.ofT Z1 Try.func54 QpO (Nat.le_of_ble_eq_true Z) ?_
 show TW _ _ tf54.body _ _
 refine Qe fun K hK => ZP Z Z Z (ZD Z (hK _ _ (Qb (kp2 Z Z) ?_)))
 refine Qe fun K hK => QP (cs := [_, _, _, _, _]) Z Z Z Z (QE (X2) Z Z (.inl Z) (QZ Z Z (QT Z Z Z Z Z Z Z Z (hK _ _ (Qb (kp1 Z) ?_)))))
 refine Qs (Zz (cs := [_, _, _, _, _, _, _]) Z Z Z Z ?_)
 exact rfl
theorem Qbm {a b c : Int} {p q : List UInt8} : Ok Try.prog 55 [.agg [.int .i64 a, .int .i64 b, .int .i64 c, .str p, .str q]] (.agg [.int .i64 0, .int .i64 a, .int .i64 b, .int .i64 c, .str p, .str [], .bool true]) := by
 refine Ok.ofT Z1 Try.func55 QpP (Nat.le_of_ble_eq_true Z) ?_
 show TW _ _ tf55.body _ _
 refine Qe fun K hK => ZP Z Z Z (ZD Z (hK _ _ (Qb (kp2 Z Z) ?_)))
 refine Qe fun K hK => QP (cs := [_, _, _, _, _]) Z Z Z Z (QE (X2) Z Z (.inl Z) (QZ Z Z (QT Z Z Z Z Z Z Z Z (hK _ _ (Qb (kp1 Z) ?_)))))
 refine Qs (Zz (cs := [_, _, _, _, _, _, _]) Z Z Z Z ?_)
 exact rfl
theorem XL {a b c : Int} {p q : List UInt8} : Ok Try.prog 77 [.agg [.int .i64 a, .int .i64 b, .int .i64 c, .str p, .str q]] (.bool (QfA a b c)) := by
 refine Ok.ofT Z1 Try.func77 Qqb (Nat.le_of_ble_eq_true Z) ?_
 show TW _ _ tf77.body _ _
 refine Qe fun K hK => ZP Z Z Z (Qa Z (hK _ _ (Qb (kp1 Z) ?_)))
 refine Qe fun K hK => Qm Z Z (QF Z Z Z (YP Z Z (Qa Z ?_)))
 refine QB (g := 6) Z (fun h1 => ?_) (fun h1 => ?_)
 ·try rw [h1]
  try simp only [qB] at h1
  refine Qj Z (Qm Z Z (Qj Z (QF Z Z Z (Qj Z (YP Z Z (Qn Z Z (Qa Z ?_)))))))
  refine QB (g := 11) Z (fun h2 => ?_) (fun h2 => ?_)
  ·try rw [h2]
   try simp only [qB] at h2
   refine Qj Z (Qm Z Z (Qj Z (QF Z Z Z (Qj Z (YP Z Z (Qn Z Z (Qa Z (hK _ _ (Qb (kp1 Z) ?_)))))))))
   refine Qs (Qp Z ?_)
   (repeat clear hK K); simp_all [QfA]
  ·try rw [h2]
   try simp only [qB] at h2
   refine Qy Z (Qy Z (Qy Z (Qn Z Z (Qa Z (hK _ _ (Qb (kp1 Z) ?_))))))
   refine Qs (Qp Z ?_)
   (repeat clear hK K); simp_all [QfA]
 ·try rw [h1]
  try simp only [qB] at h1
  refine Qy Z (Qy Z (Qy Z (Qn Z Z (Qa Z (Qy Z (Qy Z (Qy Z (Qn Z Z (Qa Z (hK _ _ (Qb (kp1 Z) ?_)))))))))))
  refine Qs (Qp Z ?_)
  (repeat clear hK K); simp_all [QfA]
end Go.Proofs
namespace Go.Proofs
open Go Go.Abs M3 M25
set_option linter.unusedVariables false
set_option linter.unusedSimpArgs false
theorem Qcf {a b c : Int} {p q : List UInt8} (hp : p.length <= 1000000) (hq : q.length <= 1000000) {part : Int} : Ok Try.prog 95 [.agg [.int .i64 a, .int .i64 b, .int .i64 c, .str p, .str q], .int .i64 part] (dOV (XW a b c p q part)) := by
 refine Ok.ofT Z1 Try.func95 Qqt (Nat.le_of_ble_eq_true Z) ?_
 show TW _ _ tf95.body _ _
 refine Qe fun K hK => ZP Z Z Z (ZD Z (Qa Z (hK _ _ (Qb (kp3 Z Z Z) ?_))))
 refine QD ?_ -- 0
 refine Qe fun K hK => QP (cs := [_, _, _, _, _]) Z Z Z Z (QE (Zw (by omega) (by omega)) Z Z (.inr Z) (Yj Z (Qa Z ?_)))
 refine QB (g := 10) Z (fun h1 => ?_) (fun h1 => ?_)
 ·try rw [h1]
  try simp only [qB] at h1
  refine Qy Z (Qy Z (Qn Z Z (Qa Z (Qy Z (Qy Z (Qn Z Z (hK _ _ (Qb (kp4 Z Z Z Z) ?_))))))))
  refine ZH Z (Qe fun K hK => QZ Z Z (QT Z Z Z Z Z Z Z Z (Qa Z (hK _ _ (Qb (kp2 Z Z) ?_)))))
  refine Qs (Qk (Post.eq (Xs (ds := [.int .i64 _, .int .i64 _, .int .i64 _, .str _, .str _]) (d' := .bool _) (cs := [_, _, _, _, _]) Z Z Z Z Z ⟨rfl, rfl⟩) ?_))
  (repeat clear hK K); first | (simp [XW, dOV, h1]; done) | (simp_all [XW, dOV]; done)
 ·try rw [h1]
  try simp only [qB] at h1
  refine Qj Z (Qa Z (Qj Z (Yz Z Z (Qn Z Z (Qa Z ?_)))))
  refine QB (g := 14) Z (fun h2 => ?_) (fun h2 => ?_)
  ·try rw [h2]
   try simp only [qB] at h2
   refine Qy Z (Qy Z (Qn Z Z (hK _ _ (Qb (kp4 Z Z Z Z) ?_))))
   refine ZH Z (Qe fun K hK => QZ Z Z (QT Z Z Z Z Z Z Z Z (Qa Z (hK _ _ (Qb (kp2 Z Z) ?_)))))
   refine Qs (Qk (Post.eq (Xs (ds := [.int .i64 _, .int .i64 _, .int .i64 _, .str _, .str _]) (d' := .bool _) (cs := [_, _, _, _, _]) Z Z Z Z Z ⟨rfl, rfl⟩) ?_))
   (repeat clear hK K); first | (simp [XW, dOV, h1, h2]; done) | (simp_all [XW, dOV]; done)
  ·try rw [h2]
   try simp only [qB] at h2
   refine Qj Z (Qa Z (Qj Z (Qcs Z Z (Qn Z Z (hK _ _ (Qb (kp4 Z Z Z Z) ?_))))))
   refine Qz Z (fun h3 => ?_) (fun h3 => ?_)
   ·try rw [h3]
    try simp only [qB] at h3
    refine Qe fun K hK => QZ Z Z (QT Z Z Z Z Z Z Z Z (Qa Z (hK _ _ (Qb (kp2 Z Z) ?_))))
    refine Qs (Qk (Post.eq (Xs (ds := [.int .i64 _, .int .i64 _, .int .i64 _, .str _, .str _]) (d' := .bool _) (cs := [_, _, _, _, _]) Z Z Z Z Z ⟨rfl, rfl⟩) ?_))
    (repeat clear hK K); first | (simp [XW, dOV, h1, h2, h3]; done) | (simp_all [XW, dOV]; done)
   ·try rw [h3]
    try simp only [qB] at h3
    refine Qu (Qd (kp3 Z Z Z) (Qe fun K hK => ZD Z (hK _ _ (Qb (kp4 Z Z Z Z) ?_))))
    refine QD ?_ -- 1
    refine Qe fun K hK => Qa Z (hK _ _ (Qb (kp4 Z Z Z Z) ?_))
    refine QG (Qe fun K hK => YP Z Z (Qa Z (hK _ _ (Qb (kp5 Z Z Z Z Z) ?_))))
    refine Qz Z (fun h4 => ?_) (fun h4 => ?_)
    ·try rw [h4]
     try simp only [qB] at h4
     refine Q0 fun K hK => Qm Z Z (QF Z Z Z (Za Z Z (Qq (by have := QbP (by simpa using h1); omega) (by have := QbP (by simpa using h1); omega)) (QZ Z Z (QT Z Z Z Z Z Z Z Z (hK _ ?_)))))
     refine Qf (Qd (kp2 Z Z) ?_)
     refine QD ?_ -- 2
     refine Qe fun K hK => QP (cs := [_, _, _, _, _]) Z Z Z Z (QE (Zw (by simp) (by simp)) Z Z (.inr Z) (Yj Z (hK _ _ (Qb (kp3 Z Z Z) ?_))))
     refine Qz Z (fun h5 => ?_) (fun h5 => ?_)
     ·try rw [h5]
      try simp only [qB] at h5
      refine Qe fun K hK => QZ Z Z (QT Z Z Z Z Z Z Z Z (Qa Z (hK _ _ (Qb (kp2 Z Z) ?_))))
      refine Qs (Qk (Post.eq (Xs (ds := [.int .i64 _, .int .i64 _, .int .i64 _, .str _, .str _]) (d' := .bool _) (cs := [_, _, _, _, _]) Z Z Z Z Z ⟨rfl, rfl⟩) ?_))
      (repeat clear hK K); first | (simp [XW, dOV, h1, h2, h3, h4, h5]; done) | (simp_all [XW, dOV]; done)
     ·try rw [h5]
      try simp only [qB] at h5
      refine Qu (Qd (kp2 Z Z) (Qe fun K hK => QP (cs := [_, _, _, _, _]) Z Z Z Z (QT Z Z Z Z Z Z Z Z (Qa Z (hK _ _ (Qb (kp2 Z Z) ?_))))))
      refine Qs (Post.eq (Xs (ds := [.int .i64 _, .int .i64 _, .int .i64 _, .str _, .str _]) (d' := .bool _) (cs := [_, _, _, _, _]) Z Z Z Z Z ⟨rfl, rfl⟩) ?_)
      (repeat clear hK K); first | (simp [XW, dOV, h1, h2, h3, h4, h5]; done) | (simp_all [XW, dOV]; done)
    ·try rw [h4]
     try simp only [qB] at h4
     refine Qe fun K hK => YP Z Z (Qa Z (hK _ _ (Qb (kp4 Z Z Z Z) ?_)))
     refine Qz Z (fun h6 => ?_) (fun h6 => ?_)
     ·try rw [h6]
      try simp only [qB] at h6
      refine Q0 fun K hK => Qm Z Z (QF Z Z Z (Qm Z Z (QF Z Z Z (Za Z Z (Qq (by have := QbP (by simpa using h1); omega) (by have := QbP (by simpa using h1); omega)) (QZ Z Z (QT Z Z Z Z Z Z Z Z (hK _ ?_)))))))
      refine Qf (Qd (kp2 Z Z) ?_)
      refine QD ?_ -- 2
      refine Qe fun K hK => QP (cs := [_, _, _, _, _]) Z Z Z Z (QE (Zw (by simp) (by simp)) Z Z (.inr Z) (Yj Z (hK _ _ (Qb (kp3 Z Z Z) ?_))))
      refine Qz Z (fun h7 => ?_) (fun h7 => ?_)
      ·try rw [h7]
       try simp only [qB] at h7
       refine Qe fun K hK => QZ Z Z (QT Z Z Z Z Z Z Z Z (Qa Z (hK _ _ (Qb (kp2 Z Z) ?_))))
       refine Qs (Qk (Post.eq (Xs (ds := [.int .i64 _, .int .i64 _, .int .i64 _, .str _, .str _]) (d' := .bool _) (cs := [_, _, _, _, _]) Z Z Z Z Z ⟨rfl, rfl⟩) ?_))
       (repeat clear hK K); first | (simp [XW, dOV, h1, h2, h3, h4, h6, h7]; done) | (simp_all [XW, dOV]; done)
      ·try rw [h7]
       try simp only [qB] at h7
       refine Qu (Qd (kp2 Z Z) (Qe fun K hK => QP (cs := [_, _, _, _, _]) Z Z Z Z (QT Z Z Z Z Z Z Z Z (Qa Z (hK _ _ (Qb (kp2 Z Z) ?_))))))
       refine Qs (Post.eq (Xs (ds := [.int .i64 _, .int .i64 _, .int .i64 _, .str _, .str _]) (d' := .bool _) (cs := [_, _, _, _, _]) Z Z Z Z Z ⟨rfl, rfl⟩) ?_)
       (repeat clear hK K); first | (simp [XW, dOV, h1, h2, h3, h4, h6, h7]; done) | (simp_all [XW, dOV]; done)
     ·try rw [h6]
      try simp only [qB] at h6
      refine Q0 fun K hK => Qm Z Z (QF Z Z Z (Qm Z Z (QF Z Z Z (Qm Z Z (QF Z Z Z (Za Z Z (Qq (by have := QbP (by simpa using h1); omega) (by have := QbP (by simpa using h1); omega)) (QZ Z Z (QT Z Z Z Z Z Z Z Z (hK _ ?_)))))))))
      refine Qf (Qd (kp2 Z Z) ?_)
      refine QD ?_ -- 2
      refine Qe fun K hK => QP (cs := [_, _, _, _, _]) Z Z Z Z (QE (Zw (by simp) (by simp)) Z Z (.inr Z) (Yj Z (hK _ _ (Qb (kp3 Z Z Z) ?_))))
      refine Qz Z (fun h8 => ?_) (fun h8 => ?_)
      ·try rw [h8]
       try simp only [qB] at h8
       refine Qe fun K hK => QZ Z Z (QT Z Z Z Z Z Z Z Z (Qa Z (hK _ _ (Qb (kp2 Z Z) ?_))))
       refine Qs (Qk (Post.eq (Xs (ds := [.int .i64 _, .int .i64 _, .int .i64 _, .str _, .str _]) (d' := .bool _) (cs := [_, _, _, _, _]) Z Z Z Z Z ⟨rfl, rfl⟩) ?_))
       (repeat clear hK K); first | (simp [XW, dOV, h1, h2, h3, h4, h6, h8]; done) | (simp_all [XW, dOV]; done)
      ·try rw [h8]
       try simp only [qB] at h8
       refine Qu (Qd (kp2 Z Z) (Qe fun K hK => QP (cs := [_, _, _, _, _]) Z Z Z Z (QT Z Z Z Z Z Z Z Z (Qa Z (hK _ _ (Qb (kp2 Z Z) ?_))))))
       refine Qs (Post.eq (Xs (ds := [.int .i64 _, .int .i64 _, .int .i64 _, .str _, .str _]) (d' := .bool _) (cs := [_, _, _, _, _]) Z Z Z Z Z ⟨rfl, rfl⟩) ?_)
       (repeat clear hK K); first | (simp [XW, dOV, h1, h2, h3, h4, h6, h8]; done) | (simp_all [XW, dOV]; done)
theorem Qcg {a b c : Int} {p q : List UInt8} (hp : p.length <= 1000000) (hq : q.length <= 1000000) : Ok Try.prog 79 [.agg [.int .i64 a, .int .i64 b, .int .i64 c, .str p, .str q]] (dOV (Qhh a b c p q)) := by
 refine Ok.ofT Z1 Try.func79 Qqd (Nat.le_of_ble_eq_true Z) ?_
 show TW _ _ tf79.body _ _
 refine Qe fun K hK => ZP Z Z Z (ZD Z (Qa Z (hK _ _ (Qb (kp2 Z Z) ?_))))
 refine QD ?_ -- 0
 refine Qe fun K hK => QP (cs := [_, _, _, _, _]) Z Z Z Z (QE (Zw (by omega) (by omega)) Z Z (.inr Z) (Yj Z (hK _ _ (Qb (kp3 Z Z Z) ?_))))
 refine Qz Z (fun h1 => ?_) (fun h1 => ?_)
 ·try rw [h1]
  try simp only [qB] at h1
  refine Qe fun K hK => QZ Z Z (QT Z Z Z Z Z Z Z Z (Qa Z (hK _ _ (Qb (kp2 Z Z) ?_))))
  refine Qs (Qk (Post.eq (Xs (ds := [.int .i64 _, .int .i64 _, .int .i64 _, .str _, .str _]) (d' := .bool _) (cs := [_, _, _, _, _]) Z Z Z Z Z ⟨rfl, rfl⟩) ?_))
  simp [Qhh, dOV, h1]
 ·try rw [h1]
  try simp only [qB] at h1
  refine Qu (Qd (kp2 Z Z) ?_)
  refine QD ?_ -- 1
  refine Qe fun K hK => Qm Z Z (QF Z Z Z (QfN Z Z (hK _ _ (Qb (kp3 Z Z Z) ?_))))
  refine Qz Z (fun h2 => ?_) (fun h2 => ?_)
  ·try rw [h2]
   try simp only [qB] at h2
   refine Qe fun K hK => Qm Z Z (QF Z Z Z (Qm Z Z (QF Z Z Z (Qm Z Z (QF Z Z Z (QZ Z Z (QT Z Z Z Z Z Z Z Z (Qa Z (hK _ _ (Qb (kp2 Z Z) ?_))))))))))
   refine Qs (Qk (Post.eq (Xs (ds := [.int .i64 _, .int .i64 _, .int .i64 _, .str _, .str _]) (d' := .bool _) (cs := [_, _, _, _, _]) Z Z Z Z Z ⟨rfl, rfl⟩) ?_))
   simp [Qhh, dOV, h1, h2]
  ·try rw [h2]
   try simp only [qB] at h2
   refine Qu (Qd (kp2 Z Z) ?_)
   refine QD ?_ -- 2
   refine Qe fun K hK => Qa Z (hK _ _ (Qb (kp3 Z Z Z) ?_))
   refine QG ?_
   refine ZM (ι := Nat) (fun m => ⟨[(1, .ref 1 0 0), (2, .ref 2 0 0), (4, .int .i64 ((m : Int) - 1))], [(1, ⟨[[.int .i64 a, .int .i64 b, .int .i64 c, .str p, .str q]], 5, 49, true⟩), (2, ⟨[[.int .i64 0, .int .i64 0, .int .i64 0, .str [], .str []]], 5, 49, true⟩)]⟩) (fun m => m <= 3 /\ Xv a b c p q 3 = Xv a b c p q m) (fun m => m) 3 ?_ ?_ ?_
   ·exact Zg (l := [1, 2, 4]) (lH := [1, 2]) (kp3 rfl rfl rfl) (Qg rfl (Qg rfl Qr)) rfl rfl rfl
   ·exact ⟨by omega, rfl⟩
   intro m hI
   obtain ⟨hI1, hI2⟩ := hI
   try dsimp only
   refine QD ?_ -- 3
   refine Qe fun K hK => Qa Z (Qiu Z Z (hK _ _ (Qb (kp4 Z Z Z Z) ?_)))
   refine Qz Z (fun h3 => ?_) (fun h3 => ?_)
   ·try rw [h3]
    try simp only [qB] at h3
    rcases Nat.eq_zero_or_pos m with hm | hm <;> first | omega | skip
    refine Qu (Qd (kp3 Z Z Z) ?_)
    refine QD ?_ -- 4
    refine QG (Qe fun K hK => QP (cs := [_, _, _, _, _]) Z Z Z Z (Qa Z (QE (Qcf (by omega) (by omega)) Z Z (.inl Z) (Qa Z (Zi Z Z (Zi Z Z (ZD Z (QT Z Z Z Z Z Z Z Z (Qa Z (hK _ _ (Qb (kp5 Z Z Z Z Z) ?_)))))))))))
    refine Qe fun K hK => Qa Z (hK _ _ (Qb (kp5 Z Z Z Z Z) ?_))
    refine Qz Z (fun h4 => ?_) (fun h4 => ?_)
    ·try rw [h4]
     try simp only [qB] at h4
     refine Qe fun K hK => QP (cs := [_, _, _, _, _]) Z Z Z Z (QT Z Z Z Z Z Z Z Z (Qa Z (hK _ _ (Qb (kp2 Z Z) ?_))))
     refine Qs (Qt (Qk (Q8 (Qt (Qk (Post.eq (Xs (ds := [.int .i64 _, .int .i64 _, .int .i64 _, .str _, .str _]) (d' := .bool _) (cs := [_, _, _, _, _]) Z Z Z Z Z ⟨rfl, rfl⟩) ?_))))))
     subst h2
     simp [Qhh, dOV, h1, hI2, QgP hm h4, h4]
    ·try rw [h4]
     try simp only [qB] at h4
     refine Qu (Qf (Qd (kp3 Z Z Z) (Q0 fun K hK => Qa Z (Qcu Z Z (by first | exact Qq (by omega) (by omega) | rfl) (Qa Z (hK _ ?_))))))
     refine Qh (m - 1) ?_ ?_ ?_
     ·refine Zg (l := [1, 2, 4]) (lH := [1, 2]) (kp3 Z Z Z) (Qg Z (Qg Z Qr)) ?_ Z rfl; simp only [List.cons.injEq, Prod.mk.injEq, D.int.injEq, and_true, true_and]; omega
     ·exact ⟨by omega, by rw [hI2]; exact QhM hm h4⟩
     ·show m - 1 < m; omega
   ·try rw [h3]
    try simp only [qB] at h3
    rcases Nat.eq_zero_or_pos m with hm | hm <;> first | omega | skip
    refine Zl (QJ (Qx (QC (Qd (kp1 Z) (Qe fun K hK => QZ Z Z (QT Z Z Z Z Z Z Z Z (Qa Z (hK _ _ (Qb (kp2 Z Z) ?_)))))))))
    refine Qs (Post.eq (Xs (ds := [.int .i64 _, .int .i64 _, .int .i64 _, .str _, .str _]) (d' := .bool _) (cs := [_, _, _, _, _]) Z Z Z Z Z ⟨rfl, rfl⟩) ?_)
    subst h2
    subst hm
    have hb : Xv a b c [] q 3 = none := hI2
    simp [Qhh, dOV, h1, hb]
end Go.Proofs
namespace Go.Proofs
open Go Go.Abs M3 M25
set_option linter.unusedVariables false
set_option linter.unusedSimpArgs false
theorem XM {e a b c : Int} {p q : List UInt8} {f : Bool} : Ok Try.prog 103 [.agg [.int .i64 e, .int .i64 a, .int .i64 b, .int .i64 c, .str p, .str q, .bool f]] (.bool (QfD e a b c p q f)) := by
 refine Ok.ofT Z1 Try.func103 QoQ (Nat.le_of_ble_eq_true Z) ?_
 show TW _ _ tf103.body _ _
 refine Qe fun K hK => ZP Z Z Z (Qa Z (hK _ _ (Qb (kp1 Z) ?_)))
 refine Qe fun K hK => Qm Z Z (QF Z Z Z (Xn Z Z (Qa Z ?_)))
 refine QB (g := 6) Z (fun h1 => ?_) (fun h1 => ?_)
 ·try rw [h1]
  try simp only [qB] at h1
  refine Qy Z (Qy Z (Qy Z (Qy Z (QX Z (QX Z (QX Z (QX Z (Qy Z (Qy Z (QX Z (QX Z ?_)))))))))))
  refine QX Z (QX Z (Qy Z (Qn Z Z (Qa Z (hK _ _ (Qb (kp1 Z) ?_))))))
  refine Qs (Qp Z ?_)
  (repeat clear hK K); simp_all [QfD]
 ·try rw [h1]
  try simp only [qB] at h1
  refine Qj Z (Qm Z Z (Qj Z (QF Z Z Z (Qj Z (Yj Z (Qj Z (Qa Z ?_)))))))
  refine QB (g := 10) Z (fun h2 => ?_) (fun h2 => ?_)
  ·try rw [h2]
   try simp only [qB] at h2
   refine Qj Z (Qm Z Z (Qj Z (Qm Z Z (Qj Z (QF Z Z Z (Qj Z (Qbh Z Z (Qj Z (Qn Z Z (Qj Z (Qa Z ?_)))))))))))
   refine QB (g := 16) Z (fun h3 => ?_) (fun h3 => ?_)
   ·try rw [h3]
    try simp only [qB] at h3
    refine Qj Z (Qm Z Z (Qj Z (QP (cs := [_, _, _, _, _]) Z Z Z Z (Qj Z (QE (XL) Z Z (.inr Z) (Qj Z (Yj Z (Qj Z (Qn Z Z (Qn Z Z (Qa Z ?_)))))))))))
    refine hK _ _ (Qb (kp1 Z) ?_)
    refine Qs (Qp Z ?_)
    (repeat clear hK K); simp_all [QfD]
   ·try rw [h3]
    try simp only [qB] at h3
    refine Qy Z (Qy Z (Qy Z (Qy Z (Qj Z (Qn Z Z (Qn Z Z (Qa Z (hK _ _ (Qb (kp1 Z) ?_)))))))))
    refine Qs (Qp Z ?_)
    (repeat clear hK K); simp_all [QfD]
  ·try rw [h2]
   try simp only [qB] at h2
   refine Qy Z (Qy Z (Qy Z (Qy Z (Qj Z (Qn Z Z (Qj Z (Qa Z (Qy Z (Qy Z (Qy Z (Qy Z ?_)))))))))))
   refine Qj Z (Qn Z Z (Qn Z Z (Qa Z (hK _ _ (Qb (kp1 Z) ?_)))))
   refine Qs (Qp Z ?_)
   (repeat clear hK K); simp_all [QfD]
theorem Qb2 {a b c : Int} {p q : List UInt8} : Ok Try.prog 56 [.agg [.int .i64 a, .int .i64 b, .int .i64 c, .str p, .str q]] (.agg (dCu (QeL a b c))) := by
 refine Ok.ofT Z1 Try.func56 QpQ (Nat.le_of_ble_eq_true Z) ?_
 show TW _ _ tf56.body _ _
 refine Qe fun K hK => ZP Z Z Z (ZD Z (hK _ _ (Qb (kp2 Z Z) ?_)))
 refine QD ?_ -- 0
 refine Qe fun K hK => QP (cs := [_, _, _, _, _]) Z Z Z Z (QE (XL) Z Z (.inr Z) (hK _ _ (Qb (kp3 Z Z Z) ?_)))
 refine Qz Z (fun h1 => ?_) (fun h1 => ?_)
 ·try rw [h1]
  try simp only [qB] at h1
  refine Qe fun K hK => QE (YS) Z Z (.inl Z) (QT Z Z Z Z Z Z Z Z (hK _ _ (Qb (kp1 Z) ?_)))
  refine Qs (Qk (Post.eq (Zz (ds := [.int .i64 _, .int .i64 _, .int .i64 _, .int .i64 _, .str _, .str _, .bool _]) (cs := [_, _, _, _, _, _, _]) Z Z Z Z Z) ?_))
  simp [QeL, dCu, Qb8, h1]
 ·try rw [h1]
  try simp only [qB] at h1
  refine Qu (Qd (kp2 Z Z) (Qe fun K hK => Qm Z Z (QF Z Z Z (Qm Z Z (QF Z Z Z (Qm Z Z (QF Z Z Z (QZ Z Z (QE (YB) Z Z (.inl Z) (QT Z Z Z Z Z Z Z Z ?_))))))))))
  refine hK _ _ (Qb (kp1 Z) ?_)
  refine Qs (Post.eq (Zz (ds := [.int .i64 _, .int .i64 _, .int .i64 _, .int .i64 _, .str _, .str _, .bool _]) (cs := [_, _, _, _, _, _, _]) Z Z Z Z Z) ?_)
  simp [QeL, dCu, Qb8, h1]
theorem Qbn {a b c : Int} {p q : List UInt8} : Ok Try.prog 57 [.agg [.int .i64 a, .int .i64 b, .int .i64 c, .str p, .str q]] (.agg (dCu (QcW a b c))) := by
 refine Ok.ofT Z1 Try.func57 QpR (Nat.le_of_ble_eq_true Z) ?_
 show TW _ _ tf57.body _ _
 refine Qe fun K hK => ZP Z Z Z (ZD Z (hK _ _ (Qb (kp2 Z Z) ?_)))
 refine Qe fun K hK => Qm Z Z (QF Z Z Z (Qm Z Z (QF Z Z Z (Qm Z Z (QF Z Z Z (QZ Z Z (QE (Qcg (by simp) (by simp)) Z Z (.inl Z) (Qa Z (Zi Z Z (Zi Z Z ?_))))))))))
 refine ZD Z (QT Z Z Z Z Z Z Z Z (Qa Z (hK _ _ (Qb (kp3 Z Z Z) ?_))))
 refine QD ?_ -- 0
 refine Qe fun K hK => Qa Z (Yj Z (hK _ _ (Qb (kp3 Z Z Z) ?_)))
 refine Qz Z (fun h1 => ?_) (fun h1 => ?_)
 ·try rw [h1]
  try simp only [qB] at h1
  refine Qe fun K hK => QE (Y4) Z Z (.inl Z) (QT Z Z Z Z Z Z Z Z (hK _ _ (Qb (kp1 Z) ?_)))
  refine Qs (Qk (Post.eq (Zz (ds := [.int .i64 _, .int .i64 _, .int .i64 _, .int .i64 _, .str _, .str _, .bool _]) (cs := [_, _, _, _, _, _, _]) Z Z Z Z Z) ?_))
  cases hn : Qhh a b c [] [] <;> simp [QcW, dCu, Qe8, hn] at *
 ·try rw [h1]
  try simp only [qB] at h1
  refine Qu (Qd (kp2 Z Z) (Qe fun K hK => QP (cs := [_, _, _, _, _]) Z Z Z Z (QE (YB) Z Z (.inl Z) (QT Z Z Z Z Z Z Z Z (hK _ _ (Qb (kp1 Z) ?_))))))
  refine Qs (Post.eq (Zz (ds := [.int .i64 _, .int .i64 _, .int .i64 _, .int .i64 _, .str _, .str _, .bool _]) (cs := [_, _, _, _, _, _, _]) Z Z Z Z Z) ?_)
  cases hn : Qhh a b c [] [] <;> simp [QcW, dCu, Qe8, hn] at *
theorem XN  : Ok Try.prog 98 [] (ZN [(Qb8, Qe8)]) := by
 refine Ok.ofT Z1 Try.func98 Qqw (Nat.le_of_ble_eq_true Z) ?_
 show TW _ _ tf98.body _ _
 refine Qe fun K hK => Qa Z (hK _ _ (Qb (QO) ?_))
 refine Qe fun K hK => QE (YS) Z Z (.inl Z) (QE (Y4) Z Z (.inl Z) (QZ Z Z (QL Z Z (Qa Z (hK _ _ (Qb (kp1 Z) ?_))))))
 refine Qs (ZQ Z ?_)
 rfl
theorem Z3  : Ok Try.prog 53 [] (QgC ([], [])) := by
 refine Ok.ofT Z1 Try.func53 QpN (Nat.le_of_ble_eq_true Z) ?_
 show TW _ _ tf53.body _ _
 refine Qe fun K hK => ZD Z (hK _ _ (Qb (kp1 Z) ?_))
 refine Qe fun K hK => QZ Z Z (QT Z Z Z Z Z Z Z Z (hK _ _ (Qb (kp1 Z) ?_)))
 refine Qs (Post.eq (Zz (ds := [.sl _, .sl _]) (cs := [_, _]) Z Z Z Z Z) ?_)
 rfl
theorem QcD  : Ok Try.prog 82 [] (QgC ([(Qb8, Qe8)], [(Qb8, Qe8)])) := by
 refine Ok.ofT Z1 Try.func82 Qqg (Nat.le_of_ble_eq_true Z) ?_
 show TW _ _ tf82.body _ _
 refine Qe fun K hK => ZD Z (hK _ _ (Qb (kp1 Z) ?_))
 refine Qe fun K hK => QE (XN) Z Z (.inl Z) (QE (XN) Z Z (.inl Z) (QZ Z Z (QT Z Z Z Z Z Z Z Z (hK _ _ (Qb (kp1 Z) ?_)))))
 refine Qs (Post.eq (Zz (ds := [.sl _, .sl _]) (cs := [_, _]) Z Z Z Z Z) ?_)
 rfl
theorem XK {a b c : Int} {p q : List UInt8} (hp : p.length <= 1000000) (hq : q.length <= 1000000) : Ok Try.prog 27 [.agg [.int .i64 a, .int .i64 b, .int .i64 c, .str p, .str q]] (QgC (Y8 a b c p q)) := by
 refine Ok.ofT Z1 Try.func27 Qpr (Nat.le_of_ble_eq_true Z) ?_
 show TW _ _ tf27.body _ _
 refine Qe fun K hK => ZP Z Z Z (ZD Z (hK _ _ (Qb (kp2 Z Z) ?_)))
 refine QD ?_ -- 0
 refine Qe fun K hK => QP (cs := [_, _, _, _, _]) Z Z Z Z (QE (Zw (by omega) (by omega)) Z Z (.inr Z) (Yj Z (hK _ _ (Qb (kp3 Z Z Z) ?_))))
 refine Qz Z (fun h1 => ?_) (fun h1 => ?_)
 ·try rw [h1]
  try simp only [qB] at h1
  refine Qe fun K hK => QE (Z3) Z Z (.inl Z) (QT Z Z Z Z Z Z Z Z (hK _ _ (Qb (kp1 Z) ?_)))
  refine Qs (Qk (Post.eq (Zz (ds := [.sl _, .sl _]) (cs := [_, _]) Z Z Z Z Z) ?_))
  simp [Y8, QgC, ZN, QdM, dCu, h1]
 ·try rw [h1]
  try simp only [qB] at h1
  refine Qu (Qd (kp2 Z Z) ?_)
  refine QD ?_ -- 1
  refine Qe fun K hK => Qm Z Z (QF Z Z Z (QfN Z Z (hK _ _ (Qb (kp3 Z Z Z) ?_))))
  refine Qz Z (fun h2 => ?_) (fun h2 => ?_)
  ·try rw [h2]
   try simp only [qB] at h2
   refine Qe fun K hK => QU (ds0 := [6, 3, 2, 1, 0]) (cs := [_, _, _, _, _]) Z Z Z Z Z Z (Ze (ds0 := [3, 2, 1, 0]) (YB) Z Z (.inl Z) Z Z (QU (ds0 := [4, 3, 2, 1, 0]) (cs := [_, _, _, _, _]) Z Z Z Z Z Z (Ze (ds0 := [3, 2, 1, 0]) (Qbm) Z Z (.inl Z) Z Z (QZ Z Z (QL Z Z (QZ Z Z (Xu (ds0 := []) Z Z Z Z Z Z Z Z Z Z (hK _ _ (Qb (kp1 Z) ?_)))))))))
   refine Qs (Qk (Post.eq (Zz (ds := [.sl _, .sl _]) (cs := [_, _]) Z Z Z Z Z) ?_))
   simp [Y8, QgC, ZN, QdM, dCu, h1, h2]
  ·try rw [h2]
   try simp only [qB] at h2
   refine Qu (Qd (kp2 Z Z) (Qe fun K hK => QU (ds0 := [6, 3, 2, 1, 0]) (cs := [_, _, _, _, _]) Z Z Z Z Z Z (Ze (ds0 := [3, 2, 1, 0]) (Qb2) Z Z (.inl Z) Z Z (QU (ds0 := [4, 3, 2, 1, 0]) (cs := [_, _, _, _, _]) Z Z Z Z Z Z (Ze (ds0 := [3, 2, 1, 0]) (Qbn) Z Z (.inl Z) Z Z (QZ Z Z (QL Z Z (QZ Z Z (Xu (ds0 := []) Z Z Z Z Z Z Z Z Z Z (hK _ _ (Qb (kp1 Z) ?_)))))))))))
   refine Qs (Post.eq (Zz (ds := [.sl _, .sl _]) (cs := [_, _]) Z Z Z Z Z) ?_)
   subst h2
   simp [Y8, QgC, ZN, QdM, dCu, h1]
end Go.Proofs
namespace Go.Proofs
open Go Go.Abs M3 M25
set_option linter.unusedVariables false
set_option linter.unusedSimpArgs false
theorem Z7 {l : List (Cu × Cu)} (hl : Sm l) : Ok Try.prog 102 [ZN l] (.bool (Qfb l)) := by
 refine Ok.ofT Z1 Try.func102 QoP (Nat.le_of_ble_eq_true Z) ?_
 show TW _ _ tf102.body _ _
 have hn := hl.1
 refine Qe fun K hK => Qa Z (hK _ _ (Qb (kp1 Z) ?_))
 refine QD ?_ -- 0
 refine Qe fun K hK => Qa Z (hK _ _ (Qb (kp2 Z Z) ?_))
 refine QG ?_
 refine ZM (ι := Nat) (fun i => ⟨[(0, ZN l), (3, .int .i64 i)], []⟩) (fun i => i <= l.length /\ (List.range i).all (Qnt l) = true) (fun i => l.length - i) 0 ?_ ?_ ?_
 ·exact QW (kp2 rfl rfl)
 ·exact ⟨Nat.zero_le _, rfl⟩
 intro i hI
 try dsimp only
 refine QD ?_ -- 1
 refine Qe fun K hK => Qa Z (Qa Z (Q7 Z Z (Yz Z Z (hK _ _ (Qb (kp3 Z Z Z) ?_)))))
 refine Qz Z (fun h1 => ?_) (fun h1 => ?_)
 ·try rw [h1]
  try simp only [qA] at h1
  refine Qu (Qd (kp2 Z Z) ?_)
  refine QD ?_ -- 2
  refine QG (Qe fun K hK => Qa Z (Qa Z (QM Z Z Z (by omega) (Zj (by omega)) Z (QU (ds0 := [20, 19, 18, 17, 16, 15, 14, 13, 12, 11, 10, 9, 8, 7, 6, 5, 4, 3, 2, 1, 0]) (cs := [_, _, _, _, _, _, _, _, _, _, _, _, _, _]) Z Z Z Z Z Z (Ze (ds0 := [19, 18, 17, 16, 15, 14, 13, 12, 11, 10, 9, 8, 7, 6, 5, 4, 3, 2, 1, 0]) (Xp (hl.at (i := i) (by omega)).1.1 (hl.at (i := i) (by omega)).1.2 (hl.at (i := i) (by omega)).2.1 (hl.at (i := i) (by omega)).2.2) Z Z (.inr Z) Z Z (Yj Z (Qa Z ?_)))))))
  refine QB (g := 16) Z (fun h2 => ?_) (fun h2 => ?_)
  ·try rw [h2]
   try simp only [qA] at h2
   refine Qy Z (Qy Z (Qy Z (QX Z (QX Z (QX Z (QX Z (QX Z (QX Z (QX Z (QX Z (QX Z ?_)))))))))))
   refine QX Z (QX Z (QX Z (QX Z (Qy Z (Qn Z Z (hK _ _ (Qb (kp3 Z Z Z) ?_)))))))
   refine ZH Z (Qe fun K hK => Qa Z (hK _ _ (Qb (kp1 Z) ?_)))
   refine Qs (Qt (Qk (Q8 (Qt (Qk (Qp Z ?_))))))
   first
    | exact (Qgn hI.2 (by omega)).symm
    | exact (Qa3 (i := i) (by omega) (QfF (by omega) (.inl h2))).symm
    | (simp only [Qc4] at *; exact (Qa3 (i := i) (by omega) (QfF (by omega) (.inr ⟨by omega, h4⟩))).symm)
  ·try rw [h2]
   try simp only [qA] at h2
   refine Qj Z (Qa Z (Qj Z (Qcs Z Z (Qj Z (Qa Z ?_)))))
   refine QB (g := 19) Z (fun h3 => ?_) (fun h3 => ?_)
   ·try rw [h3]
    try simp only [qA] at h3
    refine Qj Z (Qa Z (Qj Z (Qa Z (Qj Z (Qcu Z Z (by first | exact Qq (by omega) (by omega) | rfl) (Qj Z (QM Z Z Z (by omega) (Xd (by omega) (by omega)) Z (Qj Z (ZZ Z Z (Qj Z (QU (ds0 := [3, 2, 1, 0]) (cs := [_, _, _, _, _, _, _]) Z Z Z Z Z Z ?_)))))))))))
    refine Qj Z (Qa Z (Qj Z (Qa Z (Qj Z (QM Z Z Z (by omega) (Zj (by omega)) Z (Qj Z (ZZ Z Z (Qj Z (QU (ds0 := [3, 2, 1, 0]) (cs := [_, _, _, _, _, _, _]) Z Z Z Z Z Z (Qj Z (Ze (ds0 := [2, 1, 0]) (Zu (hl.at (i := ((i : Int) - 1).toNat) (by omega)).2.1 (hl.at (i := ((i : Int) - 1).toNat) (by omega)).2.2 (hl.at (i := i) (by omega)).1.1 (hl.at (i := i) (by omega)).1.2) Z Z (.inr Z) Z Z ?_)))))))))))
    refine Qj Z (Qiu Z Z (Qj Z (Qn Z Z (Qn Z Z (hK _ _ (Qb (kp3 Z Z Z) ?_))))))
    refine Qz Z (fun h4 => ?_) (fun h4 => ?_)
    ·try rw [h4]
     try simp only [qA] at h4
     refine Qe fun K hK => Qa Z (hK _ _ (Qb (kp1 Z) ?_))
     refine Qs (Qt (Qk (Q8 (Qt (Qk (Qp Z ?_))))))
     first
      | exact (Qgn hI.2 (by omega)).symm
      | exact (Qa3 (i := i) (by omega) (QfF (by omega) (.inl h2))).symm
      | (simp only [Qc4] at *; exact (Qa3 (i := i) (by omega) (QfF (by omega) (.inr ⟨by omega, h4⟩))).symm)
    ·try rw [h4]
     try simp only [qA] at h4
     refine Qu (Qf (Qd (kp2 Z Z) (Q0 fun K hK => Qa Z (Za Z Z (by first | exact Qq (by omega) (by omega) | rfl) (Qa Z (hK _ ?_))))))
     refine Qh (i + 1) ?_ ?_ ?_
     ·exact QW (kp2 rfl rfl)
     ·exact ⟨by omega, Qgo hI.2 (Qmo (by omega) h2 (by first | exact .inl (by omega) | (simp only [Qc4] at *; exact .inr (Int.not_le.1 h4))))⟩
     ·first | omega | (simp only; omega) | (dsimp only; omega)
   ·try rw [h3]
    try simp only [qA] at h3
    refine Qy Z (Qy Z (Qy Z (Qy Z (Qy Z (Qy Z (Qy Z (Qy Z (Qy Z (Qy Z (Qy Z (Qy Z ?_)))))))))))
    refine Qy Z (Qj Z (Qn Z Z (Qn Z Z (hK _ _ (Qb (kp3 Z Z Z) ?_)))))
    refine ZA Z (Qu (Qf (Qd (kp2 Z Z) (Q0 fun K hK => Qa Z (Za Z Z (by first | exact Qq (by omega) (by omega) | rfl) (Qa Z (hK _ ?_)))))))
    refine Qh (i + 1) ?_ ?_ ?_
    ·exact QW (kp2 rfl rfl)
    ·exact ⟨by omega, Qgo hI.2 (Qmo (by omega) h2 (by first | exact .inl (by omega) | (simp only [Qc4] at *; exact .inr (Int.not_le.1 h4))))⟩
    ·first | omega | (simp only; omega) | (dsimp only; omega)
 ·try rw [h1]
  try simp only [qA] at h1
  refine Zl (QJ (Qx (QC (Qd (QO) (Qe fun K hK => Qa Z (hK _ _ (Qb (kp1 Z) ?_)))))))
  refine Qs (Qp Z ?_)
  first
   | exact (Qgn hI.2 (by omega)).symm
   | exact (Qa3 (i := i) (by omega) (QfF (by omega) (.inl h2))).symm
   | (simp only [Qc4] at *; exact (Qa3 (i := i) (by omega) (QfF (by omega) (.inr ⟨by omega, h4⟩))).symm)
theorem QaE {l : List (Cu × Cu)} (hl : Sm l) {x y : Cu} (hx : Cu.sm x) (hy : Cu.sm y) : Ok Try.prog 106 [ZN l, .agg (dCu x), .agg (dCu y)] (.bool (mIn l x y)) := by
 refine Ok.ofT Z1 Try.func106 QoT (Nat.le_of_ble_eq_true Z) ?_
 show TW _ _ tf106.body _ _
 have hn := hl.1
 refine Qe fun K hK => ZP Z Z Z (ZP Z Z Z (Qa Z (hK _ _ (Qb (kp3 Z Z Z) ?_))))
 refine QD ?_ -- 0
 refine Qe fun K hK => Qa Z (hK _ _ (Qb (kp4 Z Z Z Z) ?_))
 refine QG ?_
 refine ZM (ι := Nat) (fun i => ⟨[(0, ZN l), (4, .ref 4 0 0), (5, .ref 5 0 0), (7, .int .i64 i)], [(4, ⟨[dCu x], 7, 96, true⟩), (5, ⟨[dCu y], 7, 96, true⟩)]⟩) (fun i => i <= l.length /\ (l.take i).any (inC x y) = false) (fun i => l.length - i) 0 ?_ ?_ ?_
 ·exact Zg (l := [0, 4, 5, 7]) (lH := [4, 5]) (kp4 rfl rfl rfl rfl) (Qg rfl (Qg rfl Qr)) rfl rfl rfl
 ·exact ⟨Nat.zero_le _, by simp⟩
 intro i hI
 try dsimp only
 refine QD ?_ -- 1
 refine Qe fun K hK => Qa Z (Qa Z (Q7 Z Z (Yz Z Z (hK _ _ (Qb (kp5 Z Z Z Z Z) ?_)))))
 refine Qz Z (fun h1 => ?_) (fun h1 => ?_)
 ·try rw [h1]
  try simp only [qA] at h1
  refine Qu (Qd (kp4 Z Z Z Z) ?_)
  refine QD ?_ -- 2
  refine QG (Qe fun K hK => Qa Z (Qa Z (QM Z Z Z (by omega) (Zj (by omega)) Z (ZZ Z Z (QU (ds0 := [11, 10, 9, 8, 7, 6, 5, 4, 3, 2, 1, 0]) (cs := [_, _, _, _, _, _, _]) Z Z Z Z Z Z (QU (ds0 := [11, 10, 9, 8, 7, 6, 5, 4, 3, 2, 1, 0]) (cs := [_, _, _, _, _, _, _]) Z Z Z Z Z Z (Ze (ds0 := [10, 9, 8, 7, 6, 5, 4, 3, 2, 1, 0]) (Zu (hl.at (i := i) (by omega)).1.1 (hl.at (i := i) (by omega)).1.2 hx.1 hx.2) Z Z (.inr Z) Z Z (Qlb Z Z (Qa Z ?_)))))))))
  refine QB (g := 22) Z (fun h2 => ?_) (fun h2 => ?_)
  ·try rw [h2]
   try simp only [qA] at h2
   refine Qj Z (QU (ds0 := [2, 1, 0]) (cs := [_, _, _, _, _, _, _]) Z Z Z Z Z Z (Qj Z (Qa Z (Qj Z (Qa Z (Qj Z (QM Z Z Z (by omega) (Zj (by omega)) Z (Qj Z (ZZ Z Z (Qj Z (QU (ds0 := [2, 1, 0]) (cs := [_, _, _, _, _, _, _]) Z Z Z Z Z Z ?_)))))))))))
   refine Qj Z (Ze (ds0 := [1, 0]) (Zu hy.1 hy.2 (hl.at (i := i) (by omega)).2.1 (hl.at (i := i) (by omega)).2.2) Z Z (.inr Z) Z Z (Qj Z (Qlb Z Z (Qn Z Z (hK _ _ (Qb (kp5 Z Z Z Z Z) ?_))))))
   refine Qz Z (fun h3 => ?_) (fun h3 => ?_)
   ·try rw [h3]
    try simp only [qA] at h3
    refine Qe fun K hK => Qa Z (hK _ _ (Qb (kp1 Z) ?_))
    refine Qs (Qt (Qk (Q8 (Qt (Qk (Qp Z ?_))))))
    first
     | exact (Ql7 (i := i) (by omega) hI.2).symm
     | exact (QhK (i := i) (by omega) (QnU h2 h3)).symm
   ·try rw [h3]
    try simp only [qA] at h3
    refine Qu (Qf (Qd (kp4 Z Z Z Z) (Q0 fun K hK => Qa Z (Za Z Z (by first | exact Qq (by omega) (by omega) | rfl) (Qa Z (hK _ ?_))))))
    refine Qh (i + 1) ?_ ?_ ?_
    ·exact Zg (l := [0, 4, 5, 7]) (lH := [4, 5]) (kp4 rfl rfl rfl rfl) (Qg rfl (Qg rfl Qr)) rfl rfl rfl
    ·exact ⟨by omega, Qfk (by omega) hI.2 (QnT (by first | exact .inl h2 | exact .inr h3))⟩
    ·first | omega | (simp only; omega) | (dsimp only; omega)
  ·try rw [h2]
   try simp only [qA] at h2
   refine Qy Z (Qy Z (Qy Z (Qy Z (Qy Z (Qy Z (Qy Z (Qy Z (Qn Z Z (hK _ _ (Qb (kp5 Z Z Z Z Z) ?_))))))))))
   refine ZA Z (Qu (Qf (Qd (kp4 Z Z Z Z) (Q0 fun K hK => Qa Z (Za Z Z (by first | exact Qq (by omega) (by omega) | rfl) (Qa Z (hK _ ?_)))))))
   refine Qh (i + 1) ?_ ?_ ?_
   ·exact Zg (l := [0, 4, 5, 7]) (lH := [4, 5]) (kp4 rfl rfl rfl rfl) (Qg rfl (Qg rfl Qr)) rfl rfl rfl
   ·exact ⟨by omega, Qfk (by omega) hI.2 (QnT (by first | exact .inl h2 | exact .inr h3))⟩
   ·first | omega | (simp only; omega) | (dsimp only; omega)
 ·try rw [h1]
  try simp only [qA] at h1
  refine Zl (QJ (Qx (QC (Qd (QO) (Qe fun K hK => Qa Z (hK _ _ (Qb (kp1 Z) ?_)))))))
  refine Qs (Qp Z ?_)
  first
   | exact (Ql7 (i := i) (by omega) hI.2).symm
   | exact (QhK (i := i) (by omega) (QnU h2 h3)).symm
end Go.Proofs
namespace Go.Proofs
open Go Go.Abs M3 M25
set_option linter.unusedVariables false
set_option linter.unusedSimpArgs false
theorem Xc {s : List (Cu × Cu) × List (Cu × Cu)} (h1s : Sm s.1) (h2s : Sm s.2) : Ok Try.prog 96 [QgC s] (.bool (Qfc s)) := by
 refine Ok.ofT Z1 Try.func96 Qqu (Nat.le_of_ble_eq_true Z) ?_
 show TW _ _ tf96.body _ _
 have hn := h1s.1
 refine Qe fun K hK => ZP Z Z Z (Qa Z (hK _ _ (Qb (kp1 Z) ?_)))
 refine QD ?_ -- 0
 refine Qe fun K hK => Qm Z Z (QF Z Z Z (QE (Z7 h1s) Z Z (.inr Z) (Yj Z (Qa Z ?_))))
 refine QB (g := 8) Z (fun h1 => ?_) (fun h1 => ?_)
 ·try rw [h1]
  try simp only [qA] at h1
  refine Qy Z (Qy Z (Qy Z (Qy Z (Qn Z Z (hK _ _ (Qb (kp2 Z Z) ?_))))))
  refine ZH Z (Qe fun K hK => Qa Z (hK _ _ (Qb (kp1 Z) ?_)))
  refine Qs (Qk (Qp Z ?_))
  first
   | exact (Qc1 (i := i) h1 h2 (by omega) hI.2).symm
   | exact (Qax (i := i) (by omega) (.inl h4)).symm
   | exact (Qax (i := i) (by omega) (.inr h5)).symm
   | exact (Qay (.inl h1)).symm
   | exact (Qay (.inr h2)).symm
 ·try rw [h1]
  try simp only [qA] at h1
  refine Qj Z (Qm Z Z (Qj Z (QF Z Z Z (Qj Z (QE (Z7 h2s) Z Z (.inr Z) (Qj Z (Yj Z (Qn Z Z (hK _ _ (Qb (kp2 Z Z) ?_))))))))))
  refine Qz Z (fun h2 => ?_) (fun h2 => ?_)
  ·try rw [h2]
   try simp only [qA] at h2
   refine Qe fun K hK => Qa Z (hK _ _ (Qb (kp1 Z) ?_))
   refine Qs (Qk (Qp Z ?_))
   first
    | exact (Qc1 (i := i) h1 h2 (by omega) hI.2).symm
    | exact (Qax (i := i) (by omega) (.inl h4)).symm
    | exact (Qax (i := i) (by omega) (.inr h5)).symm
    | exact (Qay (.inl h1)).symm
    | exact (Qay (.inr h2)).symm
  ·try rw [h2]
   try simp only [qA] at h2
   refine Qu (Qd (kp1 Z) ?_)
   refine QD ?_ -- 1
   refine Qe fun K hK => Qa Z (hK _ _ (Qb (kp2 Z Z) ?_))
   refine QG ?_
   refine ZM (ι := Nat) (fun i => ⟨[(1, .ref 1 0 0), (3, .int .i64 i)], [(1, ⟨[[ZN s.1, ZN s.2]], 2, 74, true⟩)]⟩) (fun i => i <= s.1.length /\ (s.1.take i).all (fun x => Qba x.1 && Qba x.2) = true) (fun i => s.1.length - i) 0 ?_ ?_ ?_
   ·exact Zg (l := [1, 3]) (lH := [1]) (kp2 rfl rfl) (Qg rfl Qr) rfl rfl rfl
   ·exact ⟨Nat.zero_le _, by simp⟩
   intro i hI
   try dsimp only
   refine QD ?_ -- 2
   refine Qe fun K hK => Qa Z (Qm Z Z (QF Z Z Z (Q7 Z Z (Yz Z Z (hK _ _ (Qb (kp3 Z Z Z) ?_))))))
   refine Qz Z (fun h3 => ?_) (fun h3 => ?_)
   ·try rw [h3]
    try simp only [qA] at h3
    refine Qu (Qd (kp2 Z Z) ?_)
    refine QD ?_ -- 3
    refine QG (Qe fun K hK => Qm Z Z (QF Z Z Z (Qa Z (QM Z Z Z (by omega) (Zj (by omega)) Z (ZZ Z Z (QP (cs := [_, _, _, _, _, _, _]) Z Z Z Z (QE (XM) Z Z (.inr Z) (Yj Z (Qa Z ?_)))))))))
    refine QB (g := 29) Z (fun h4 => ?_) (fun h4 => ?_)
    ·try rw [h4]
     try simp only [qA] at h4
     refine Qy Z (Qy Z (Qy Z (Qy Z (Qy Z (Qy Z (Qy Z (Qy Z (Qn Z Z (hK _ _ (Qb (kp3 Z Z Z) ?_))))))))))
     refine ZH Z (Qe fun K hK => Qa Z (hK _ _ (Qb (kp1 Z) ?_)))
     refine Qs (Qt (Qk (Q8 (Qt (Qk (Qp Z ?_))))))
     first
      | exact (Qc1 (i := i) h1 h2 (by omega) hI.2).symm
      | exact (Qax (i := i) (by omega) (.inl h4)).symm
      | exact (Qax (i := i) (by omega) (.inr h5)).symm
      | exact (Qay (.inl h1)).symm
      | exact (Qay (.inr h2)).symm
    ·try rw [h4]
     try simp only [qA] at h4
     refine Qj Z (Qm Z Z (Qj Z (QF Z Z Z (Qj Z (Qa Z (Qj Z (QM Z Z Z (by omega) (Zj (by omega)) Z (Qj Z (ZZ Z Z (Qj Z (QP (cs := [_, _, _, _, _, _, _]) Z Z Z Z ?_)))))))))))
     refine Qj Z (QE (XM) Z Z (.inr Z) (Qj Z (Yj Z (Qn Z Z (hK _ _ (Qb (kp3 Z Z Z) ?_))))))
     refine Qz Z (fun h5 => ?_) (fun h5 => ?_)
     ·try rw [h5]
      try simp only [qA] at h5
      refine Qe fun K hK => Qa Z (hK _ _ (Qb (kp1 Z) ?_))
      refine Qs (Qt (Qk (Q8 (Qt (Qk (Qp Z ?_))))))
      first
       | exact (Qc1 (i := i) h1 h2 (by omega) hI.2).symm
       | exact (Qax (i := i) (by omega) (.inl h4)).symm
       | exact (Qax (i := i) (by omega) (.inr h5)).symm
       | exact (Qay (.inl h1)).symm
       | exact (Qay (.inr h2)).symm
     ·try rw [h5]
      try simp only [qA] at h5
      refine Qu (Qf (Qd (kp2 Z Z) (Q0 fun K hK => Qa Z (Za Z Z (by first | exact Qq (by omega) (by omega) | rfl) (Qa Z (hK _ ?_))))))
      refine Qh (i + 1) ?_ ?_ ?_
      ·exact Zg (l := [1, 3]) (lH := [1]) (kp2 rfl rfl) (Qg rfl Qr) rfl rfl rfl
      ·exact ⟨by omega, Zh (by omega) hI.2 (by rw [show Qba s.1[i].1 = true from h4, show Qba s.1[i].2 = true from h5]; rfl)⟩
      ·first | omega | (simp only; omega) | (dsimp only; omega)
   ·try rw [h3]
    try simp only [qA] at h3
    refine Zl (QJ (Qx (QC (Qd (QO) (Qe fun K hK => Qa Z (hK _ _ (Qb (kp1 Z) ?_)))))))
    refine Qs (Qp Z ?_)
    first
     | exact (Qc1 (i := i) h1 h2 (by omega) hI.2).symm
     | exact (Qax (i := i) (by omega) (.inl h4)).symm
     | exact (Qax (i := i) (by omega) (.inr h5)).symm
     | exact (Qay (.inl h1)).symm
     | exact (Qay (.inr h2)).symm
end Go.Proofs
namespace Go.Proofs
open Go Go.Abs M3 M25
set_option linter.unusedVariables false
set_option linter.unusedSimpArgs false
theorem Qak {l : List Cu} {c : Cu} (hl : l.length <= 3000000) (hs : ∀ x ∈ l, Cu.sm x) (hc : Cu.sm c) : Ok Try.prog 110 [QfX l, .agg (dCu c)] (QfX (Qbz l c)) := by
 refine Ok.ofT Z1 Try.func110 QoX (Nat.le_of_ble_eq_true Z) ?_
 show TW _ _ tf110.body _ _
 refine Qe fun K hK => ZP Z Z Z (Qa Z (hK _ _ (Qb (kp2 Z Z) ?_)))
 refine Qe fun K hK => Qa Z (hK _ _ (Qb (kp3 Z Z Z) ?_))
 refine QD ?_ -- 0
 refine QG ?_
 refine ZM (ι := Nat) (fun k => ⟨[(0, QfX l), (3, .ref 3 0 0), (5, .int .i64 k)], [(3, ⟨[dCu c], 7, 96, true⟩)]⟩) (fun k => k <= l.length /\ Qbz l c = l.take k ++ Qbz (l.drop k) c) (fun k => l.length - k) 0 ?_ ?_ ?_
 ·exact Zg (l := [0, 3, 5]) (lH := [3]) (kp3 rfl rfl rfl) (Qg rfl Qr) rfl rfl rfl
 ·exact ⟨Nat.zero_le _, by simp⟩
 intro k hI
 try dsimp only
 refine QD ?_ -- 1
 refine Qe fun K hK => Qa Z (Qa Z (Q7 Z Z (Yz Z Z (Qa Z ?_))))
 refine QB (g := 10) Z (fun h1 => ?_) (fun h1 => ?_)
 ·try rw [h1]
  try simp only [qA] at h1
  refine Qj Z (Qa Z (Qj Z (Qa Z (Qj Z (QM Z Z Z (by omega) (Zj (by omega)) Z (Qj Z (QU (ds0 := [2, 1, 0]) (cs := [_, _, _, _, _, _, _]) Z Z Z Z Z Z (Qj Z (QU (ds0 := [2, 1, 0]) (cs := [_, _, _, _, _, _, _]) Z Z Z Z Z Z (Qj Z (Ze (ds0 := [1, 0]) (Zu (hs _ (List.getElem_mem (by omega))).1 (hs _ (List.getElem_mem (by omega))).2 hc.1 hc.2) Z Z (.inr Z) Z Z ?_)))))))))))
  refine Qj Z (Yz Z Z (Qn Z Z (hK _ _ (Qb (kp4 Z Z Z Z) ?_))))
  refine Qz Z (fun h2 => ?_) (fun h2 => ?_)
  ·try rw [h2]
   try simp only [qA] at h2
   refine Qu (Qd (kp3 Z Z Z) (QG (Q0 fun K hK => Qa Z (Za Z Z (by first | exact Qq (by omega) (by omega) | rfl) (Qa Z (hK _ ?_))))))
   refine Qf ?_
   refine Qh (k + 1) ?_ ?_ ?_
   ·exact Zg (l := [0, 3, 5]) (lH := [3]) (kp3 rfl rfl rfl) (Qg rfl Qr) rfl rfl rfl
   ·exact ⟨by omega, Qkp (by omega) h2 hI.2⟩
   ·first | omega | (simp only; omega) | (dsimp only; omega)
  ·try rw [h2]
   try simp only [qA] at h2
   refine Zl (QJ (Qx (QC (Qd (kp3 Z Z Z) ?_))))
   refine QD ?_ -- 2
   refine Qe fun K hK => Qa Z (Qa Z (Q7 Z Z (Yz Z Z (Qa Z ?_))))
   refine QB (g := 25) Z (fun h3 => ?_) (fun h3 => ?_)
   ·try rw [h3]
    try simp only [qA] at h3
    refine Qj Z (Qa Z (Qj Z (Qa Z (Qj Z (QM Z Z Z (by omega) (Zj (by omega)) Z (Qj Z (QU (ds0 := [2, 1, 0]) (cs := [_, _, _, _, _, _, _]) Z Z Z Z Z Z (Qj Z (QU (ds0 := [2, 1, 0]) (cs := [_, _, _, _, _, _, _]) Z Z Z Z Z Z (Qj Z (Ze (ds0 := [1, 0]) (Zu (hs _ (List.getElem_mem (by omega))).1 (hs _ (List.getElem_mem (by omega))).2 hc.1 hc.2) Z Z (.inr Z) Z Z ?_)))))))))))
    refine Qj Z (YP Z Z (Qn Z Z (hK _ _ (Qb (kp4 Z Z Z Z) ?_))))
    refine Qz Z (fun h4 => ?_) (fun h4 => ?_)
    ·try rw [h4]
     try simp only [qA] at h4
     refine Qe fun K hK => Qa Z (Qa Z (hK _ _ (Qb (kp1 Z) ?_)))
     refine Qs (Qk (ZQ Z ?_))
     rw [Qko (k := k) (by omega) (by assumption) hI.2]; rfl
    ·try rw [h4]
     try simp only [qA] at h4
     refine Qu (Qd (kp3 Z Z Z) (Qe fun K hK => Qa Z (Qa Z (Qea Z Z Z Z (by omega) (by omega) (by simp; omega) Qht Z (QhH (ds0 := [5, 1, 0]) Z Z (fun _ h => ⟨QlV, h⟩) Z (.inl Z) (by simp) (by simp; omega) (by simp; omega) Z Z (QU (ds0 := [6, 5, 1, 0]) (cs := [_, _, _, _, _, _, _]) Z Z Z Z Z Z (QL Z Z (Qd9 (ds0 := [1, 0]) Z Z (by simp [D.ids, D.sid]) ⟨_, rfl, rfl, rfl, rfl, rfl⟩ Z Z (by simp) Z Z (by simp; omega) (by simp; omega) Z Z (Qa Z (Qa Z ?_))))))))))
     refine Qea Z Z Z Z (by omega) (by simp; omega) (by simp) Qht Z (Qd9 (ds0 := [0]) Z Z (by simp [D.ids, D.sid]) ⟨rfl, QlV, rfl⟩ Z Z (by simp) Z Z (by simp; omega) (by simp; omega) Z Z (Qa Z (hK _ _ (Qb (kp1 Z) ?_))))
     refine Qs (ZQ Z ?_)
     rw [QiZ (k := k) (by first | exact .inl (by omega) | exact .inr ⟨by omega, by assumption, by assumption⟩) hI.2]; simp [Qad, D.fz, D.fzS, Qdg, lk, D.can, D.canS, QfX, D.sid, (show ∀ a b : Nat, a + 1 + b = a + (b + 1) from fun a b => by omega), List.take_of_length_le (show (l.map dCu).length <= l.length by simp)] <;> rfl
   ·try rw [h3]
    try simp only [qA] at h3
    exact absurd h1 h3
 ·try rw [h1]
  try simp only [qA] at h1
  refine Qy Z (Qy Z (Qy Z (Qy Z (Qy Z (Qy Z (Qy Z (Qn Z Z (hK _ _ (Qb (kp4 Z Z Z Z) ?_)))))))))
  refine ZA Z (Zl (QJ (Qx (QC (Qd (kp3 Z Z Z) ?_)))))
  refine QD ?_ -- 2
  refine Qe fun K hK => Qa Z (Qa Z (Q7 Z Z (Yz Z Z (Qa Z ?_))))
  refine QB (g := 25) Z (fun h5 => ?_) (fun h5 => ?_)
  ·try rw [h5]
   try simp only [qA] at h5
   exact absurd h5 h1
  ·try rw [h5]
   try simp only [qA] at h5
   refine Qy Z (Qy Z (Qy Z (Qy Z (Qy Z (Qy Z (Qy Z (Qn Z Z (hK _ _ (Qb (kp4 Z Z Z Z) ?_)))))))))
   refine ZA Z (Qu (Qd (kp3 Z Z Z) (Qe fun K hK => Qa Z (Qa Z (Qea Z Z Z Z (by omega) (by omega) (by simp; omega) Qht Z (QhH (ds0 := [5, 1, 0]) Z Z (fun _ h => ⟨QlV, h⟩) Z (.inl Z) (by simp) (by simp; omega) (by simp; omega) Z Z (QU (ds0 := [6, 5, 1, 0]) (cs := [_, _, _, _, _, _, _]) Z Z Z Z Z Z (QL Z Z (Qd9 (ds0 := [1, 0]) Z Z (by simp [D.ids, D.sid]) ⟨_, rfl, rfl, rfl, rfl, rfl⟩ Z Z (by simp) Z Z (by simp; omega) (by simp; omega) Z Z (Qa Z ?_))))))))))
   refine Qa Z (Qea Z Z Z Z (by omega) (by simp; omega) (by simp) Qht Z (Qd9 (ds0 := [0]) Z Z (by simp [D.ids, D.sid]) ⟨rfl, QlV, rfl⟩ Z Z (by simp) Z Z (by simp; omega) (by simp; omega) Z Z (Qa Z (hK _ _ (Qb (kp1 Z) ?_)))))
   refine Qs (ZQ Z ?_)
   rw [QiZ (k := k) (by first | exact .inl (by omega) | exact .inr ⟨by omega, by assumption, by assumption⟩) hI.2]; simp [Qad, D.fz, D.fzS, Qdg, lk, D.can, D.canS, QfX, D.sid, (show ∀ a b : Nat, a + 1 + b = a + (b + 1) from fun a b => by omega), List.take_of_length_le (show (l.map dCu).length <= l.length by simp)] <;> rfl
theorem X4 {l : List (Cu × Cu)} (hl : Sm l) : Ok Try.prog 105 [ZN l] (QfX (YL l)) := by
 refine Ok.ofT Z1 Try.func105 QoS (Nat.le_of_ble_eq_true Z) ?_
 show TW _ _ tf105.body _ _
 have hn := hl.1
 refine Qe fun K hK => Qa Z (hK _ _ (Qb (kp1 Z) ?_))
 refine Qe fun K hK => QE (YS) Z Z (.inl Z) (QE (Y4) Z Z (.inl Z) (QL Z Z (Qa Z (hK _ _ (Qb (kp2 Z Z) ?_)))))
 refine QD ?_ -- 0
 refine Qe fun K hK => Qa Z (hK _ _ (Qb (kp3 Z Z Z) ?_))
 refine QG ?_
 refine ZM (ι := Nat) (fun i => ⟨[(0, ZN l), (3, QfX (YL (l.take i))), (4, .int .i64 i)], []⟩) (fun i => i <= l.length) (fun i => l.length - i) 0 ?_ ?_ ?_
 ·exact le_trans (Qkj 7 _ (by decide)) (Zg (l := [0, 3, 4]) (lH := []) (kp3 rfl rfl rfl) Qr rfl rfl rfl)
 ·exact Nat.zero_le _
 intro i hI
 try dsimp only
 refine QD ?_ -- 1
 refine Qe fun K hK => Qa Z (Qa Z (Q7 Z Z (Yz Z Z (hK _ _ (Qb (kp4 Z Z Z Z) ?_)))))
 refine Qz Z (fun h1 => ?_) (fun h1 => ?_)
 ·try rw [h1]
  try simp only [qA] at h1
  refine Qu (Qd (kp3 Z Z Z) ?_)
  refine QD ?_ -- 2
  refine QG (Q0 fun K hK => Qa Z (Qa Z (Qa Z (QM Z Z Z (by omega) (Zj (by omega)) Z (ZZ Z Z (QU (ds0 := [7, 1, 0]) (cs := [_, _, _, _, _, _, _]) Z Z Z Z Z Z (Ze (ds0 := [1, 0]) (Qak (Nat.le_trans (QdY hl i).1 (by omega)) (QdY hl i).2 (hl.2 _ (List.getElem_mem (by omega))).1) Z Z (.inl Z) Z Z (Qa Z (Qa Z (QM Z Z Z (by omega) (Zj (by omega)) Z ?_))))))))))
  refine ZZ Z Z (QU (ds0 := [1, 0]) (cs := [_, _, _, _, _, _, _]) Z Z Z Z Z Z (Ze (ds0 := [0]) (Qak (Nat.le_trans (QdZ _ _) (by have := (QdY hl i).1; omega)) (Qgi (QdY hl i).2 (hl.2 _ (List.getElem_mem (by omega))).1) (hl.2 _ (List.getElem_mem (by omega))).2) Z Z (.inl Z) Z Z (Qa Z (hK _ ?_))))
  refine Qf (Qd (kp3 Z Z Z) (Q0 fun K hK => Qa Z (Za Z Z (by first | exact Qq (by omega) (by omega) | rfl) (Qa Z (hK _ ?_)))))
  refine Qh (i + 1) ?_ ?_ ?_
  ·exact Zg (l := [0, 3, 4]) (lH := []) (kp3 rfl rfl rfl) Qr (by rw [QlC (by omega)]; rfl) rfl rfl
  ·omega
  ·first | omega | (simp only; omega) | (dsimp only; omega)
 ·try rw [h1]
  try simp only [qA] at h1
  refine Zl (QJ (Qx (QC (Qd (kp1 Z) (Qe fun K hK => Qa Z (Qa Z (hK _ _ (Qb (kp1 Z) ?_))))))))
  refine Qs (ZQ Z ?_)
  rw [List.take_of_length_le (show l.length <= i by omega)]; rfl
end Go.Proofs
namespace Go.Proofs
open Go Go.Abs M3 M25
set_option linter.unusedVariables false
set_option linter.unusedSimpArgs false
theorem X5 {l : List (Cu × Cu)} {x y : Cu} (hn : l.length <= 3000000) (hl : ∀ s ∈ l, Cu.sm s.1 /\ Cu.sm s.2) (hx : Cu.sm x) (hy : Cu.sm y) : OkH Try.prog 107 [.osl 500000 l.length, .agg (dCu x), .agg (dCu y)] [(500000, ⟨l.map QdM, 14, 99, true⟩)] (.osl 500000 (Qby l x y).length) [(500000, ⟨(Qby l x y).map QdM, 14, 99, true⟩)] := by
 refine OkH.mv Z1 Try.func107 QoU (Nat.le_of_ble_eq_true Z) Z ?_
 show TW _ _ tf107.body _ _
 refine Qe fun K hK => ZP Z Z Z (ZP Z Z Z (Qa Z (hK _ _ (Qb (kp3 Z Z Z) ?_))))
 refine QD ?_ -- 0
 refine Qe fun K hK => Qa Z (Q7 Z Z (Qcu Z Z (by first | exact Qq (by omega) (by omega) | rfl) (Qa Z (hK _ _ (Qb (kp4 Z Z Z Z) ?_)))))
 refine Qe fun K hK => Qa Z (Qiu Z Z (Qa Z ?_))
 refine QB (g := 13) Z (fun h1 => ?_) (fun h1 => ?_)
 ·try rw [h1]
  try simp only [qA] at h1
  refine Qj Z (Qa Z (Qj Z (Qa Z (Qj Z (Qct (ds0 := [5, 4, 2, 1, 0]) Z Z Z (by simp) (by omega) (by omega) Z Z Z (Qj Z (Qm Z Z (Qj Z (QU (ds0 := [2, 1, 0]) (cs := [_, _, _, _, _, _, _]) Z (Ye Z (Xd (by omega) (by omega))) Z Z Z Z (Qj Z (QU (ds0 := [2, 1, 0]) (cs := [_, _, _, _, _, _, _]) Z Z Z Z Z Z ?_)))))))))))
  refine Qj Z (Ze (ds0 := [1, 0]) (Zu (hl _ (List.getElem_mem (by omega))).2.1 (hl _ (List.getElem_mem (by omega))).2.2 hx.1 hx.2) Z Z (.inr Z) Z Z (Qj Z (YP Z Z (Qn Z Z (hK _ _ (Qb (kp5 Z Z Z Z Z) ?_))))))
  refine Qz Z (fun h2 => ?_) (fun h2 => ?_)
  ·try rw [h2]
   try simp only [qA] at h2
   refine Qe fun K hK => Qa Z (Qa Z (QP (cs := [_, _, _, _, _, _, _]) Z Z Z Z (XQ Z Z Z (by simp) (by omega) (by omega) Z (Qm Z Z (QT Z Z (Xd (by omega) (by omega)) Z Z Z Z Z (hK _ _ (Qb (kp1 Z) ?_)))))))
   refine Qe fun K hK => Qa Z (Qa Z (hK _ _ (Qb (kp1 Z) ?_)))
   refine Qs (Qk ?_)
   refine X9 Z ?_ (Qii ?_)
   ·rw [Qhf (i := ((l.length : Int) - 1).toNat) (by omega) h2]; simp [Qk5, D.fz, D.fzS, Qfg, D.can, D.canS]
   ·rw [Qhf (i := ((l.length : Int) - 1).toNat) (by omega) h2]; simp [lk, List.map_set, QdM, dCu, setRow, D.sid]
  ·try rw [h2]
   try simp only [qA] at h2
   refine Qu (Qd (kp3 Z Z Z) (Qe fun K hK => Qa Z (QP (cs := [_, _, _, _, _, _, _]) Z Z Z Z (QP (cs := [_, _, _, _, _, _, _]) Z Z Z Z (QZ Z Z (QL Z Z (QaC Z Z (fun _ h => QaM Z Z Z h) Z (by simp) Z Z Z (by simp; omega) (by simp; omega) (Qa Z (hK _ _ (Qb (kp1 Z) ?_))))))))))
   refine Qs ?_
   refine X9 Z ?_ (Qii ?_)
   ·rw [QcX (.inr ⟨((l.length : Int) - 1).toNat, by omega, h2⟩)]; simp [Qk5, D.fz, D.fzS, Qfg, D.can, D.canS]
   ·rw [QcX (.inr ⟨((l.length : Int) - 1).toNat, by omega, h2⟩)]; simp [lk, QdM, dCu, D.sid]
 ·try rw [h1]
  try simp only [qA] at h1
  refine Qy Z (Qy Z (Qy Z (Qy Z (Qy Z (Qy Z (Qy Z (Qy Z (Qn Z Z (hK _ _ (Qb (kp5 Z Z Z Z Z) ?_))))))))))
  refine ZA Z (Qu (Qd (kp3 Z Z Z) (Qe fun K hK => Qa Z (QP (cs := [_, _, _, _, _, _, _]) Z Z Z Z (QP (cs := [_, _, _, _, _, _, _]) Z Z Z Z (QZ Z Z (QL Z Z (QaC Z Z (fun _ h => QaM Z Z Z h) Z (by simp) Z Z Z (by simp; omega) (by simp; omega) (Qa Z (hK _ _ (Qb (kp1 Z) ?_)))))))))))
  refine Qs ?_
  have h0 : l = [] := List.eq_nil_of_length_eq_zero (by omega)
  refine X9 Z ?_ (Qii ?_)
  ·rw [QcX (.inl h0)]; simp [Qk5, D.fz, D.fzS, Qfg, D.can, D.canS]
  ·rw [QcX (.inl h0)]; simp [lk, QdM, dCu, D.sid]
end Go.Proofs
namespace Go.Proofs
open Go Go.Abs M3 M25
set_option linter.unusedVariables false
set_option linter.unusedSimpArgs false
theorem Qci {l : List (Cu × Cu)} (hl : Sm l) : Ok Try.prog 104 [ZN l] (.tup [ZN (Qh6 l), .bool (l.all QcY)]) := by
  refine Ok.ofT Z1 Try.func104 QoR (Nat.le_of_ble_eq_true Z) ?_
  show TW _ _ tf104.body _ _
  have hn := hl.1
  have hc1 := Qbw l
  refine Qe fun K hK => Qa Z (Qa Z (hK _ _ (Qb (kp1 Z) ?_)))
  refine QD ?_ -- 0
  refine Qe fun K hK => Qa Z (hK _ _ (Qb (kp2 Z Z) ?_))
  refine QG ?_
  refine ZM (ι := Nat) (fun i => ⟨[(0, ZN l), (4, .int .i64 i)], []⟩) (fun i => i <= l.length /\ (l.take i).all QcY = true) (fun i => l.length - i) 0 ?_ ?_ ?_
  · exact QW (kp2 rfl rfl)
  · exact ⟨Nat.zero_le _, by simp⟩
  intro i hI
  try dsimp only
  refine QD ?_ -- 1
  refine Qe fun K hK => Qa Z (Qa Z (Q7 Z Z (Yz Z Z (hK _ _ (Qb (kp3 Z Z Z) ?_)))))
  refine Qz Z (fun h1 => ?_) (fun h1 => ?_)
  · try rw [h1]
    try simp only [qA] at h1
    refine Qu (Qd (kp2 Z Z) ?_)
    refine QD ?_ -- 2
    refine QG (Qe fun K hK => Qa Z (Qa Z (QM Z Z Z (by omega) (Zj (by omega)) Z (QP (cs := [_, _, _, _, _, _, _, _, _, _, _, _, _, _]) Z Z Z Z (QE (Xp (hl.at (i := i) (by omega)).1.1 (hl.at (i := i) (by omega)).1.2 (hl.at (i := i) (by omega)).2.1 (hl.at (i := i) (by omega)).2.2) Z Z (.inr Z) (Yj Z (hK _ _ (Qb (kp3 Z Z Z) ?_))))))))
    refine Qz Z (fun h2 => ?_) (fun h2 => ?_)
    · try rw [h2]
      try simp only [qA] at h2
      refine Qe fun K hK => Qa Z (Qa Z (hK _ _ (Qb (kp2 Z Z) ?_)))
      refine Qs (Qt (Qk (Q8 (Qt (Qk ?_)))))
      first
        | exact ZR rfl rfl ⟨by rw [Qh6, if_neg (by rw [Yd (i := i) (by omega) (by assumption)]; simp)]; rfl, by rw [Yd (i := i) (by omega) (by assumption)]; rfl⟩
        | (have ha : l.all QcY = true := Y3 (by omega) hI.2
           exact ZR rfl rfl ⟨by rw [Qh6, if_pos ha, hI2.done (by omega)]; simp [Qad, D.fz, D.fzS, Qdg, lk, D.can, D.canS, ZN], by rw [ha]; rfl⟩)
    · try rw [h2]
      try simp only [qA] at h2
      refine Qu (Qf (Qd (kp2 Z Z) (Q0 fun K hK => Qa Z (Za Z Z (by first | exact Qq (by omega) (by omega) | rfl) (Qa Z (hK _ ?_))))))
      refine Qh (i + 1) ?_ ?_ ?_
      · exact QW (kp2 rfl rfl)
      · exact ⟨by omega, Zh (by omega) hI.2 (by assumption)⟩
      · first | omega | (simp only; omega) | (dsimp only; omega)
  · try rw [h1]
    try simp only [qA] at h1
    refine Zl (QJ (Qx (QC (Qd (kp1 Z) (Qe fun K hK => Qa Z (hK _ _ (Qb (kp2 Z Z) ?_)))))))
    refine Qe fun K hK => Qa Z (QE (X4 hl) Z Z (.inl Z) (Qa Z (hK _ _ (Qb (kp3 Z Z Z) ?_))))
    refine QD ?_ -- 3
    refine Qe fun K hK => Qa Z (hK _ _ (Qb (kp4 Z Z Z Z) ?_))
    refine QG ?_
    refine ZM (ι := Nat × List (Cu × Cu)) (fun ⟨i, out⟩ => ⟨[(0, ZN l), (5, .osl 5 out.length), (6, QfX (YL l)), (7, .int .i64 i)], [(5, ⟨out.map QdM, 14, 99, true⟩)]⟩) (fun ⟨i, out⟩ => i <= (YL l).length /\ FillI (mIn l) (YL l) i out) (fun ⟨i, out⟩ => (YL l).length - i) (0, []) ?_ ?_ ?_
    · exact le_trans (Xe 5 5 14 99 rfl rfl) (Zg (l := [0, 5, 6, 7]) (lH := [5]) (kp4 rfl rfl rfl rfl) (Qg rfl Qr) rfl rfl rfl)
    · exact ⟨Nat.zero_le _, FillI.zero⟩
    intro ⟨i, out⟩ hI
    obtain ⟨hI1, hI2⟩ := hI
    have hI3 := hI2.1
    try dsimp only
    refine QD ?_ -- 4
    refine Qe fun K hK => Qa Z (Za Z Z (by first | exact Qq (by omega) (by omega) | rfl) (Qa Z (Q7 Z Z (Yz Z Z (hK _ _ (Qb (kp5 Z Z Z Z Z) ?_))))))
    refine Qz Z (fun h3 => ?_) (fun h3 => ?_)
    · try rw [h3]
      try simp only [qA] at h3
      refine Qu (Qd (kp4 Z Z Z Z) ?_)
      refine QD ?_ -- 5
      refine QG (Qe fun K hK => Qa Z (Qa Z (Qa Z (QM Z Z Z (by omega) (Zj (by omega)) Z (QU (ds0 := [0]) (cs := [_, _, _, _, _, _, _]) Z Z Z Z Z Z (Qa Z (Qa Z (Za Z Z (by first | exact Qq (by omega) (by omega) | rfl) (QM Z Z Z (by omega) (QiS (by omega)) Z (QU (ds0 := [0]) (cs := [_, _, _, _, _, _, _]) Z Z Z Z Z Z ?_))))))))))
      refine Ze (ds0 := []) (QaE hl (Yr hl _ (List.getElem_mem (by omega))) (Yr hl _ (List.getElem_mem (by omega)))) Z Z (.inr Z) Z Z (hK _ _ (Qb (kp5 Z Z Z Z Z) ?_))
      refine Qz Z (fun h4 => ?_) (fun h4 => ?_)
      · try rw [h4]
        try simp only [qA] at h4
        refine Q0 fun K hK => Qa rfl (Qa rfl (Qa rfl (QM rfl rfl rfl (by omega) (Zj (by omega)) rfl (QU (ds0 := [1, 0]) (cs := [_, _, _, _, _, _, _]) rfl rfl rfl rfl rfl rfl (Qa rfl (Qa rfl (Za rfl rfl (by first | exact Qq (by omega) (by omega) | rfl) (QM rfl rfl rfl (by omega) (QiS (by omega)) rfl (QU (ds0 := [1, 0]) (cs := [_, _, _, _, _, _, _]) rfl rfl rfl rfl rfl rfl (Qit (ds0 := [0]) (Qma (k := 5) rfl rfl rfl (by decide) rfl (by decide) (by simp [D.ids, D.sid, dCu]) ⟨.osl 5 out.length, by simp, by simp [D.ids, D.sid]⟩ rfl rfl (X5 (by omega) hI2.2.1 (Yr hl _ (List.getElem_mem (by omega))) (Yr hl _ (List.getElem_mem (by omega))))) (fun _ h => by cases h) rfl rfl ?_))))))))))
        refine Qa Z (hK _ ?_)
        refine Qf (Qd (kp4 Z Z Z Z) (Q0 fun K hK => Qa Z (Za Z Z (by first | exact Qq (by omega) (by omega) | rfl) (Qa Z (hK _ ?_)))))
        refine Qh (i + 1, Qby out (YL l)[i] (YL l)[i + 1]) ?_ ?_ ?_
        · exact le_trans (Qkh (l := [0, 6, 7]) (t := 50) (u := 5) 5 (kp3 rfl rfl rfl) rfl rfl rfl rfl) (Zg (l := [0, 5, 6, 7]) (lH := [5]) (kp4 rfl rfl rfl rfl) (Qg rfl Qr) rfl rfl rfl)
        · exact ⟨by omega, hI2.take (Yr hl) (by omega) (by assumption)⟩
        · show (YL l).length - (i + 1) < (YL l).length - i; omega
      · try rw [h4]
        try simp only [qA] at h4
        refine Qu (Qf (Qd (kp4 Z Z Z Z) (Q0 fun K hK => Qa Z (Za Z Z (by first | exact Qq (by omega) (by omega) | rfl) (Qa Z (hK _ ?_))))))
        refine Qh (i + 1, out) ?_ ?_ ?_
        · exact Zg (l := [0, 5, 6, 7]) (lH := [5]) (kp4 rfl rfl rfl rfl) (Qg rfl Qr) rfl rfl rfl
        · exact ⟨by omega, hI2.skip (by omega) (by assumption)⟩
        · show (YL l).length - (i + 1) < (YL l).length - i; omega
    · try rw [h3]
      try simp only [qA] at h3
      refine Zl (QJ (Qx (QC (Qd (kp1 Z) (Qe fun K hK => Qa Z (Qa Z (Qa Z (hK _ _ (Qb (kp2 Z Z) ?_)))))))))
      refine Qs ?_
      first
        | exact ZR rfl rfl ⟨by rw [Qh6, if_neg (by rw [Yd (i := i) (by omega) (by assumption)]; simp)]; rfl, by rw [Yd (i := i) (by omega) (by assumption)]; rfl⟩
        | (have ha : l.all QcY = true := Y3 (by omega) hI.2
           exact ZR rfl rfl ⟨by rw [Qh6, if_pos ha, hI2.done (by omega)]; simp [Qad, D.fz, D.fzS, Qdg, lk, D.can, D.canS, ZN], by rw [ha]; rfl⟩)
end Go.Proofs
namespace Go.Proofs
open Go Go.Abs M3 M25
set_option linter.unusedVariables false
set_option linter.unusedSimpArgs false
theorem QaD {a b : List (Cu × Cu)} (ha : Sm a) (hb : Sm b) (hab : a.length + b.length <= 1000000) : Ok Try.prog 97 [ZN a, ZN b] (ZN (Qmi a b)) := by
 refine Ok.ofT Z1 Try.func97 Qqv (Nat.le_of_ble_eq_true Z) ?_
 show TW _ _ tf97.body _ _
 refine Qe fun K hK => Qa Z (hK _ _ (Qb (kp2 Z Z) ?_))
 refine QD ?_ -- 0
 refine Qe fun K hK => Qa Z (QE (Z7 ha) Z Z (.inr Z) (Yj Z (Qa Z ?_)))
 refine QB (g := 10) Z (fun h1 => ?_) (fun h1 => ?_)
 ·try rw [h1]
  try simp only [qB] at h1
  refine Qy Z (Qy Z (Qy Z (Qn Z Z (hK _ _ (Qb (kp3 Z Z Z) ?_)))))
  refine ZH Z (Qe fun K hK => Qa Z (hK _ _ (Qb (kp1 Z) ?_)))
  refine Qs (Qk (ZQ Z ?_))
  rw [Qmi, if_neg (by simp [h1])]; rfl
 ·try rw [h1]
  try simp only [qB] at h1
  refine Qj Z (Qa Z (Qj Z (QE (Z7 hb) Z Z (.inr Z) (Qj Z (Yj Z (Qn Z Z (hK _ _ (Qb (kp3 Z Z Z) ?_))))))))
  refine Qz Z (fun h2 => ?_) (fun h2 => ?_)
  ·try rw [h2]
   try simp only [qB] at h2
   refine Qe fun K hK => Qa Z (hK _ _ (Qb (kp1 Z) ?_))
   refine Qs (Qk (ZQ Z ?_))
   rw [Qmi, if_neg (by simp [h1, h2])]; rfl
  ·try rw [h2]
   try simp only [qB] at h2
   refine Qu (Qd (kp2 Z Z) (Qe fun K hK => Qa Z (QnD Z Z (fun _ h => Qmv Qmq h) Z (.inl Z) (by simp) (by simp; omega) (by simp; omega) (Qa Z (QaC Z Z (fun _ h => Qmv Qmq h) Z (by simp) Z Z Z (by simp; omega) (by simp; omega) ?_)))))
   apply QfM [17] (by simp)
   ·simp [St.freezeL, St.freeze, rem, D.fz, D.fzS, Box.fz, lk, D.scrub]; exact ⟨rfl, rfl⟩
   ·exact Qci (ha.app hb hab)
   ·rfl
   ·simp [Qad, D.fz, D.fzS, Qdg, D.can, D.canS, ZN]
   ·exact .inl rfl
   refine Qa Z (Zi Z Z (Zi Z Z (Qa Z (Qa Z (hK _ _ (Qb (kp1 Z) ?_))))))
   refine Qe fun K hK => Qa Z (Qa Z (hK _ _ (Qb (kp1 Z) ?_)))
   refine Qs (ZQ Z ?_)
   rw [Qmi, if_pos ⟨h1, h2⟩]; rfl
theorem Qaj {a : List (Cu × Cu)} (ha : Sm a) : Ok Try.prog 99 [ZN a] (ZN (Qh7 a)) := by
 refine Ok.ofT Z1 Try.func99 Qqx (Nat.le_of_ble_eq_true Z) ?_
 show TW _ _ tf99.body _ _
 have hn := ha.1
 have hc1 := Qbw a
 refine Qe fun K hK => Qa Z (hK _ _ (Qb (kp1 Z) ?_))
 refine QD ?_ -- 0
 refine Qe fun K hK => Qa Z (QE (Z7 ha) Z Z (.inr Z) (Yj Z (hK _ _ (Qb (kp2 Z Z) ?_))))
 refine Qz Z (fun h1 => ?_) (fun h1 => ?_)
 ·try rw [h1]
  try simp only [qA] at h1
  refine Qe fun K hK => Qa Z (hK _ _ (Qb (kp1 Z) ?_))
  refine Qs (Qk (ZQ Z ?_))
  rw [Qh7, if_neg (by simp [h1])]; rfl
 ·try rw [h1]
  try simp only [qA] at h1
  refine Qu (Qd (kp1 Z) (Qe fun K hK => Qa Z (hK _ _ (Qb (kp2 Z Z) ?_))))
  refine Qe fun K hK => Qa Z (QE (X4 ha) Z Z (.inl Z) (Qa Z (hK _ _ (Qb (kp3 Z Z Z) ?_))))
  refine QD ?_ -- 1
  refine Qe fun K hK => Qa Z (hK _ _ (Qb (kp4 Z Z Z Z) ?_))
  refine QG ?_
  refine ZM (ι := Nat × List (Cu × Cu)) (fun ⟨i, out⟩ => ⟨[(0, ZN a), (3, .osl 3 out.length), (4, QfX (YL a)), (5, .int .i64 i)], [(3, ⟨out.map QdM, 14, 99, true⟩)]⟩) (fun ⟨i, out⟩ => i <= (YL a).length /\ FillI (fun x y => !mIn a x y) (YL a) i out) (fun ⟨i, out⟩ => (YL a).length - i) (0, []) ?_ ?_ ?_
  ·exact le_trans (Xe 3 3 14 99 rfl rfl) (Zg (l := [0, 3, 4, 5]) (lH := [3]) (kp4 rfl rfl rfl rfl) (Qg rfl Qr) rfl rfl rfl)
  ·exact ⟨Nat.zero_le _, FillI.zero⟩
  intro ⟨i, out⟩ hI
  obtain ⟨hI1, hI2⟩ := hI
  have hI3 := hI2.1
  try dsimp only
  refine QD ?_ -- 2
  refine Qe fun K hK => Qa Z (Za Z Z (by first | exact Qq (by omega) (by omega) | rfl) (Qa Z (Q7 Z Z (Yz Z Z (hK _ _ (Qb (kp5 Z Z Z Z Z) ?_))))))
  refine Qz Z (fun h2 => ?_) (fun h2 => ?_)
  ·try rw [h2]
   try simp only [qA] at h2
   refine Qu (Qd (kp4 Z Z Z Z) ?_)
   refine QD ?_ -- 3
   refine QG (Qe fun K hK => Qa Z (Qa Z (Qa Z (QM Z Z Z (by omega) (Zj (by omega)) Z (QU (ds0 := [1, 0]) (cs := [_, _, _, _, _, _, _]) Z Z Z Z Z Z (Qa Z (Qa Z (Za Z Z (by first | exact Qq (by omega) (by omega) | rfl) (QM Z Z Z (by omega) (QiS (by omega)) Z (QU (ds0 := [1, 0]) (cs := [_, _, _, _, _, _, _]) Z Z Z Z Z Z ?_))))))))))
   refine Ze (ds0 := [0]) (QaE ha (Yr ha _ (List.getElem_mem (by omega))) (Yr ha _ (List.getElem_mem (by omega)))) Z Z (.inr Z) Z Z (Yj Z (hK _ _ (Qb (kp5 Z Z Z Z Z) ?_)))
   refine Qz Z (fun h3 => ?_) (fun h3 => ?_)
   ·try rw [h3]
    try simp only [qA] at h3
    refine Q0 fun K hK => Qa rfl (Qa rfl (Qa rfl (QM rfl rfl rfl (by omega) (Zj (by omega)) rfl (QU (ds0 := [1, 0]) (cs := [_, _, _, _, _, _, _]) rfl rfl rfl rfl rfl rfl (Qa rfl (Qa rfl (Za rfl rfl (by first | exact Qq (by omega) (by omega) | rfl) (QM rfl rfl rfl (by omega) (QiS (by omega)) rfl (QU (ds0 := [1, 0]) (cs := [_, _, _, _, _, _, _]) rfl rfl rfl rfl rfl rfl (Qit (ds0 := [0]) (Qma (k := 3) rfl rfl rfl (by decide) rfl (by decide) (by simp [D.ids, D.sid, dCu]) ⟨.osl 3 out.length, by simp, by simp [D.ids, D.sid]⟩ rfl rfl (X5 (by omega) hI2.2.1 (Yr ha _ (List.getElem_mem (by omega))) (Yr ha _ (List.getElem_mem (by omega))))) (fun _ h => by cases h) rfl rfl ?_))))))))))
    refine Qa Z (hK _ ?_)
    refine Qf (Qd (kp4 Z Z Z Z) (Q0 fun K hK => Qa Z (Za Z Z (by first | exact Qq (by omega) (by omega) | rfl) (Qa Z (hK _ ?_)))))
    refine Qh (i + 1, Qby out (YL a)[i] (YL a)[i + 1]) ?_ ?_ ?_
    ·exact le_trans (Qkh (l := [0, 4, 5]) (t := 40) (u := 3) 3 (kp3 rfl rfl rfl) rfl rfl rfl rfl) (Zg (l := [0, 3, 4, 5]) (lH := [3]) (kp4 rfl rfl rfl rfl) (Qg rfl Qr) rfl rfl rfl)
    ·exact ⟨by omega, hI2.take (Yr ha) (by omega) (by simp; assumption)⟩
    ·show (YL a).length - (i + 1) < (YL a).length - i; omega
   ·try rw [h3]
    try simp only [qA] at h3
    refine Qu (Qf (Qd (kp4 Z Z Z Z) (Q0 fun K hK => Qa Z (Za Z Z (by first | exact Qq (by omega) (by omega) | rfl) (Qa Z (hK _ ?_))))))
    refine Qh (i + 1, out) ?_ ?_ ?_
    ·exact Zg (l := [0, 3, 4, 5]) (lH := [3]) (kp4 rfl rfl rfl rfl) (Qg rfl Qr) rfl rfl rfl
    ·exact ⟨by omega, hI2.skip (by omega) (by simp; assumption)⟩
    ·show (YL a).length - (i + 1) < (YL a).length - i; omega
  ·try rw [h2]
   try simp only [qA] at h2
   refine Zl (QJ (Qx (QC (Qd (kp1 Z) (Qe fun K hK => Qa Z (Qa Z (hK _ _ (Qb (kp1 Z) ?_))))))))
   refine Qs (ZQ Z ?_)
   rw [Qh7, if_pos h1, hI2.done (by omega)]; simp [Qad, D.fz, D.fzS, Qdg, lk, D.can, D.canS, ZN]
end Go.Proofs
namespace Go.Proofs
open Go Go.Abs M3 M25
set_option linter.unusedVariables false
set_option linter.unusedSimpArgs false
theorem Qdk {a b : QhE} (h1a : Sm a.1) (h2a : Sm a.2) (h1b : Sm b.1) (h2b : Sm b.2) (hl1 : a.1.length + b.1.length <= 1000000) (hl2 : a.2.length + b.2.length <= 1000000) : Ok Try.prog 81 [QgC a, QgC b] (QgC (Qmj a b)) := by
 refine Ok.ofT Z1 Try.func81 Qqf (Nat.le_of_ble_eq_true Z) ?_
 show TW _ _ tf81.body _ _
 refine Qe fun K hK => ZP Z Z Z (ZP Z Z Z (ZD Z (hK _ _ (Qb (kp3 Z Z Z) ?_))))
 refine QD ?_ -- 0
 refine Qe fun K hK => QP (cs := [_, _]) Z Z Z Z (QE (Xc h1a h2a) Z Z (.inr Z) (Yj Z (Qa Z ?_)))
 refine QB (g := 8) Z (fun h1 => ?_) (fun h1 => ?_)
 ·try rw [h1]
  try simp only [qB] at h1
  refine Qy Z (Qy Z (Qy Z (Qn Z Z (hK _ _ (Qb (kp4 Z Z Z Z) ?_)))))
  refine ZH Z (Qe fun K hK => QE (Z3) Z Z (.inl Z) (QT Z Z Z Z Z Z Z Z (hK _ _ (Qb (kp1 Z) ?_))))
  refine Qs (Qk (Post.eq (Zz (ds := [.sl _, .sl _]) (cs := [_, _]) Z Z Z Z Z) ?_))
  rw [Qmj, if_neg (by simp [h1])]; rfl
 ·try rw [h1]
  try simp only [qB] at h1
  refine Qj Z (QP (cs := [_, _]) Z Z Z Z (Qj Z (QE (Xc h1b h2b) Z Z (.inr Z) (Qj Z (Yj Z (Qn Z Z (hK _ _ (Qb (kp4 Z Z Z Z) ?_))))))))
  refine Qz Z (fun h2 => ?_) (fun h2 => ?_)
  ·try rw [h2]
   try simp only [qB] at h2
   refine Qe fun K hK => QE (Z3) Z Z (.inl Z) (QT Z Z Z Z Z Z Z Z (hK _ _ (Qb (kp1 Z) ?_)))
   refine Qs (Qk (Post.eq (Zz (ds := [.sl _, .sl _]) (cs := [_, _]) Z Z Z Z Z) ?_))
   rw [Qmj, if_neg (by simp [h1, h2])]; rfl
  ·try rw [h2]
   try simp only [qB] at h2
   refine Qu (Qd (kp3 Z Z Z) (Qe fun K hK => Qm Z Z (Zt (ds0 := [7, 1, 0]) Z Z Z Z Z (Qm Z Z (Zt (ds0 := [7, 1, 0]) Z Z Z Z Z (Ze (ds0 := [1, 0]) (QaD h1a h1b hl1) Z Z (.inl Z) Z Z (Qm Z Z (Zt (ds0 := [2, 1, 0]) Z Z Z Z Z (Qm Z Z (Zt (ds0 := [2, 1, 0]) Z Z Z Z Z ?_))))))))))
   refine Ze (ds0 := [1, 0]) (QaD h2a h2b hl2) Z Z (.inl Z) Z Z (QZ Z Z (Xu (ds0 := []) Z Z Z Z Z Z Z Z Z Z (hK _ _ (Qb (kp1 Z) ?_))))
   refine Qs (Post.eq (Zz (ds := [.sl _, .sl _]) (cs := [_, _]) Z Z Z Z Z) ?_)
   rw [Qmj, if_pos ⟨h1, h2⟩]; rfl
theorem QcE {a : QhE} (h1a : Sm a.1) (h2a : Sm a.2) : Ok Try.prog 83 [QgC a] (QgC (Qgh a)) := by
 refine Ok.ofT Z1 Try.func83 Qqh (Nat.le_of_ble_eq_true Z) ?_
 show TW _ _ tf83.body _ _
 refine Qe fun K hK => ZP Z Z Z (ZD Z (hK _ _ (Qb (kp2 Z Z) ?_)))
 refine QD ?_ -- 0
 refine Qe fun K hK => QP (cs := [_, _]) Z Z Z Z (QE (Xc h1a h2a) Z Z (.inr Z) (Yj Z (hK _ _ (Qb (kp3 Z Z Z) ?_))))
 refine Qz Z (fun h1 => ?_) (fun h1 => ?_)
 ·try rw [h1]
  try simp only [qB] at h1
  refine Qe fun K hK => QE (Z3) Z Z (.inl Z) (QT Z Z Z Z Z Z Z Z (hK _ _ (Qb (kp1 Z) ?_)))
  refine Qs (Qk (Post.eq (Zz (ds := [.sl _, .sl _]) (cs := [_, _]) Z Z Z Z Z) ?_))
  rw [Qgh, if_neg (by simp [h1])]; rfl
 ·try rw [h1]
  try simp only [qB] at h1
  refine Qu (Qd (kp2 Z Z) (Qe fun K hK => Qm Z Z (Zt (ds0 := [5, 1, 0]) Z Z Z Z Z (Ze (ds0 := [1, 0]) (Qaj h1a) Z Z (.inl Z) Z Z (Qm Z Z (Zt (ds0 := [2, 1, 0]) Z Z Z Z Z (Ze (ds0 := [1, 0]) (Qaj h2a) Z Z (.inl Z) Z Z (QZ Z Z (Xu (ds0 := []) Z Z Z Z Z Z Z Z Z Z (hK _ _ (Qb (kp1 Z) ?_)))))))))))
  refine Qs (Post.eq (Zz (ds := [.sl _, .sl _]) (cs := [_, _]) Z Z Z Z Z) ?_)
  rw [Qgh, if_pos h1]; rfl
end Go.Proofs
namespace Go.Proofs
open Go Go.Abs M3 M25
set_option linter.unusedVariables false
set_option linter.unusedSimpArgs false
theorem YQ {v n : Int} (hn : n <= 9223372036854775807) (hv : I64 v) : Ok Try.prog 11 [.int .i64 v, .int .i64 n] (.int .i64 (mPl v n)) := by
 refine Ok.ofT Z1 Try.func11 Qpd (Nat.le_of_ble_eq_true Z) ?_
 show TW _ _ tf11.body _ _
 refine Qe fun K hK => Qa Z (hK _ _ (Qb (kp2 Z Z) ?_))
 refine QD ?_ -- 0
 refine Qe fun K hK => Qa Z (Yz Z Z (hK _ _ (Qb (kp3 Z Z Z) ?_)))
 refine Qz Z (fun h1 => ?_) (fun h1 => ?_)
 ·try rw [h1]
  try simp only [qB] at h1
  refine Qe fun K hK => Qa Z (hK _ _ (Qb (kp1 Z) ?_))
  refine Qs (Qk (Qv Z ?_))
  rw [mPl, if_pos h1]
 ·try rw [h1]
  try simp only [qB] at h1
  refine Qu (Qd (kp2 Z Z) (Qe fun K hK => Qa Z (Qa Z (QjF Z Z (by omega) (Qa Z (hK _ _ (Qb (kp2 Z Z) ?_)))))))
  refine QD ?_ -- 1
  refine Qe fun K hK => Qa Z (Yz Z Z (hK _ _ (Qb (kp3 Z Z Z) ?_)))
  refine Qz Z (fun h2 => ?_) (fun h2 => ?_)
  ·try rw [h2]
   try simp only [qB] at h2
   refine Qe fun K hK => Qa Z (Qa Z (Za Z Z (Qq (by have := Int.lt_tmod_of_pos v (show 0 < n by omega); omega) (by have := Int.tmod_lt_of_pos v (show 0 < n by omega); omega)) (Qa Z (hK _ _ (Qb (kp1 Z) ?_)))))
   refine Qs (Qk (Qv Z ?_))
   rw [mPl, if_neg h1, QeM, if_pos h2]
  ·try rw [h2]
   try simp only [qB] at h2
   refine Qu (Qd (kp1 Z) (Qe fun K hK => Qa Z (Qa Z (hK _ _ (Qb (kp1 Z) ?_)))))
   refine Qs (Qv Z ?_)
   rw [mPl, if_neg h1, QeM, if_neg h2]
theorem Qdj {l : List Int} {i : Int} : Ok Try.prog 58 [Zv l, .int .i64 i] (.int .i64 (Qk6 l i)) := by
 refine Ok.ofT Z1 Try.func58 QpS (Nat.le_of_ble_eq_true Z) ?_
 show TW _ _ tf58.body _ _
 refine Qe fun K hK => Qa Z (hK _ _ (Qb (kp2 Z Z) ?_))
 refine QD ?_ -- 0
 refine Qe fun K hK => Qa Z (Yz Z Z (Qa Z ?_))
 refine QB (g := 7) Z (fun h1 => ?_) (fun h1 => ?_)
 ·try rw [h1]
  try simp only [qA] at h1
  refine Qy Z (Qy Z (Qy Z (Qy Z (Qn Z Z (hK _ _ (Qb (kp3 Z Z Z) ?_))))))
  refine ZH Z (Qe fun K hK => Qa Z (QjF Z Z (by omega) (Qa Z (hK _ _ (Qb (kp1 Z) ?_)))))
  refine Qs (Qk (Qv Z ?_))
  rw [Qk6, if_pos (by omega)]
 ·try rw [h1]
  try simp only [qA] at h1
  refine Qj Z (Qa Z (Qj Z (Qa Z (Qj Z (Q7 Z Z (Qj Z (Qiu Z Z (Qn Z Z (hK _ _ (Qb (kp3 Z Z Z) ?_))))))))))
  refine Qz Z (fun h2 => ?_) (fun h2 => ?_)
  ·try rw [h2]
   try simp only [qA] at h2
   refine Qe fun K hK => Qa Z (QjF Z Z (by omega) (Qa Z (hK _ _ (Qb (kp1 Z) ?_))))
   refine Qs (Qk (Qv Z ?_))
   rw [Qk6, if_pos (by omega)]
  ·try rw [h2]
   try simp only [qA] at h2
   refine Qu (Qd (kp2 Z Z) (Qe fun K hK => Qa Z (Qa Z (QM Z Z Z (by omega) (Xd (by omega) (by omega)) Z (QF Z Z Z (Qa Z (hK _ _ (Qb (kp1 Z) ?_))))))))
   refine Qs (Qv Z ?_)
   exact (Qkm (by omega) (by omega)).symm
theorem XA {k : Nat} {L : List Int} {I n : Int} (hk : 1000000 <= k) (hL : ∀ x ∈ L, I64 x) (hn : n <= 9223372036854775807) (et : Nat) : OkH Try.prog 28 [.ref k 0 0, .int .i64 n] [(k, gB L I et)] (.int .i64 (nx L I n)) ((k, gB L (nxI I) et) :: [(k, gB L I et)]) := by
 refine OkH.lent hk Z1 Try.func28 Qps (Nat.le_of_ble_eq_true Z) Z ?_
 show TW _ _ tf28.body _ _
 refine Qe fun K hK => Qa Z (hK _ _ (Qb (kp2 Z Z) ?_))
 refine Qe fun K hK => Qa Z (Z6 Z Z (Qm Z QdX (QF Z (Ye Qdt Z) Z (Za Z Z Z (Z6 Z Z (Qm Z QdX (QT Z Qdt Z Z Z Z Z Z (hK _ _ (Qb (kp2 Z Z) ?_)))))))))
 refine Qe fun K hK => Qa Z (Z6 Z Z (Qm Z QdX (Zt (ds0 := [3, 1, 0]) Z (Ye Qdt Z) Z Z Z (Qa Z (Z6 Z Z (Qm Z QdX (Zt (ds0 := [4, 3, 1, 0]) Z (Ye Qdt Z) Z Z Z (Qcu Z Z Z (Ze (ds0 := [1, 0]) (Qdj) Z Z (.inr Z) Z Z (Qa Z ?_))))))))))
 refine Ze (ds0 := [0]) (YQ hn (QlB hL (Qk4 _))) Z Z (.inr Z) Z Z (Qa Z (hK _ _ (Qb (kp1 Z) ?_)))
 refine Qs ?_
 exact X9 rfl rfl (Qnf Qdt)
end Go.Proofs
namespace Go.Proofs
open Go Go.Abs M3 M25
set_option linter.unusedVariables false
set_option linter.unusedSimpArgs false
theorem Yk  : Ok Try.prog 23 [] (.sl (versions.map dVr)) := by
 refine Ok.ofT Z1 Try.func23 Qpn (Nat.le_of_ble_eq_true Z) ?_
 show TW _ _ tf23.body _ _
 refine Qe fun K hK => Qa Z (hK _ _ (Qb (QO) ?_))
 refine Qe fun K hK => QZ Z Z (QZ Z Z (QZ Z Z (QZ Z Z (QL Z Z (Qa Z (hK _ _ (Qb (kp1 Z) ?_)))))))
 refine Qs (ZQ Z ?_)
 rfl
end Go.Proofs
namespace M25
open Go Go.Abs M3
structure WantT where
 u : Int
 s : QhE
structure CandT where
 v : Vr
 sh : Int
 ns : List (List WantT)
 bs : List WantT
structure Ys where
 n : List UInt8
 f : List UInt8
 cs : List CandT
abbrev Q5 := List Ys
def Qe4 (x : WantT) : List D := [.int .i64 x.u, ZN x.s.1, ZN x.s.2]
def Q6 (l : List WantT) : D := .sl (l.map Qe4)
def QR (l : List (List WantT)) : D := .sl (l.map fun r => [Q6 r])
def QoE (c : CandT) : List D := [.int .i64 c.v.a, .int .i64 c.v.b, .int .i64 c.v.c, .str c.v.p, .str c.v.q, .int .i64 c.sh, QR c.ns, Q6 c.bs]
def QiC (l : List CandT) : D := .sl (l.map QoE)
def YU (u : Ys) : List D := [.str u.n, .str u.f, QiC u.cs]
def QcK (w : Q5) : D := .agg [.sl (w.map YU)]
structure Qe1 where
 u : Int
 m : Int
 deriving DecidableEq
structure Qbb where
 u : Int
 m : Int
 l : Int
 c : Int
 deriving DecidableEq
structure RowT where
 k : Int
 u : Int
 a : Int
 b : Int
 t : List Qe1
abbrev Qo8 (a b : Int) : Int := Qds .andNot .i64 a b
def uAt (w : Q5) (u : Int) : Option Ys := if u < 0 then none else w[u.toNat]?
def QnZ (w : Q5) (u : Int) : Int := match uAt w u with
 | none => 0
 | some x => 2 ^ (min x.cs.length 16 + 1) - 1
def Qdi (v : Vr) : Prop := v.p.length <= 1000000 /\ v.q.length <= 1000000
structure WSm (w : Q5) : Prop where
 len : w.length <= 48
 cs : ∀ u ∈ w, u.cs.length <= 16
 vs : ∀ u ∈ w, ∀ c ∈ u.cs, Qdi c.v
 ns : ∀ u ∈ w, ∀ c ∈ u.cs, c.ns.length <= 1000 /\ c.bs.length <= 1000
 nl : ∀ u ∈ w, ∀ c ∈ u.cs, ∀ r ∈ c.ns, r.length <= 1000
 nw : ∀ u ∈ w, ∀ c ∈ u.cs, ∀ r ∈ c.ns, ∀ x ∈ r, Sm x.s.1 /\ Sm x.s.2
 bw : ∀ u ∈ w, ∀ c ∈ u.cs, ∀ x ∈ c.bs, Sm x.s.1 /\ Sm x.s.2
def inW (w : Q5) (u : Int) : Bool := decide (0 <= u) && decide (u < w.length)
/-! ### Trails -/
def Qfa (w : Q5) (l : List Qbb) (u : Int) : Int := l.foldl (fun a s => if s.u = u /\ inW w u = true then s.m else a) (QnZ w u)
def Qn0 (l : List Qbb) : Int := match l.getLast? with
 | none => 0
 | some s => s.l
def QlD (l : List Qbb) (u : Int) : Bool := l.any fun s => decide (s.u = u) && decide (s.c = -1)
def QoI (w : Q5) (l : List Qbb) (inc : List Qe1) : Bool := inc.all fun t => decide (Qhk (Qfa w l t.u) t.m = 2)
def Qgk (have_ : Int -> Int) : List Qe1 -> Int -> Int
 | [], at_ => at_
 | t :: r, at_ => if Qhk (have_ t.u) t.m = 0 then -1 else if Qhk (have_ t.u) t.m = 1 then (if 0 <= at_ then -1 else Qgk have_ r t.u) else Qgk have_ r at_
def Qn1 (w : Q5) (l : List Qbb) (inc : List Qe1) : Int := Qgk (Qfa w l) inc (-1)
def Qi7 (w : Q5) (l : List Qbb) : Nat -> List (List Qe1) -> Int × Int
 | _, [] => (-1, -1)
 | i, x :: r => if QoI w l x = true then (i, -1) else if 0 <= Qn1 w l x then (i, Qn1 w l x) else Qi7 w l (i + 1) r
def QoH (w : Q5) (db : List (List Qe1)) (l : List Qbb) : Int × Int := Qi7 w l 0 db
end M25
namespace M25
open Go Go.Abs M3
section
variable {fr : List (Nat × D)} {H : List (Nat × Box)} {t u : Nat}
theorem Qle {k n : Nat} {b : Box} {d : D} (hb : lk H k = some b) (hp : b.pr = true) (hn : n = b.rows.length) (hd : .sl b.rows = d) : Qad ⟨fr, H⟩ (.osl k n) = d := by
 unfold Qad; rw [QoG (S := Qdg) rfl hb hp hn]; exact hd
theorem QbS {e : Yy} {k n : Nat} {b : Box} {d : D} (h : lk fr t = some (.osl k n)) (hb : lk H k = some b) (hp : b.pr = true) (hn : n = b.rows.length) (hd : .sl b.rows = d) (he : e = .ret \/ e = .normal := by first | exact .inl rfl | exact .inr rfl) : Post [.tmp t] d e ⟨fr, H⟩ :=
 ZQ h (Qle hb hp hn hd) he
end
theorem QhC {α : Type} {a b : List α} {i : Nat} (ha : i < a.length) (hb : i < b.length) (h : a.take i = b.take i) (he : a[i] = b[i]) : a.take (i + 1) = b.take (i + 1) := by
 rw [List.take_succ_eq_append_getElem ha, List.take_succ_eq_append_getElem hb, h, he]
theorem QkP {α : Type} [DecidableEq α] {a b : List α} {i : Nat} (ha : i < a.length) (hb : i < b.length) (he : ¬ a[i] = b[i]) : decide (a = b) = false := decide_eq_false fun e => he (by subst e; rfl)
theorem Qjd {e : Int} (h1 : 0 <= e) (h2 : e <= 18446744073709551615) : IntKind.u64.wrap e = e := by
 unfold IntKind.wrap
 simp only [IntKind.bits, IntKind.signed, Bool.false_and, Bool.false_eq_true, if_false]
 omega
end M25
namespace M25
open Go Go.Abs M3
theorem WSm.csLen {w : Q5} (hw : WSm w) {u : Nat} (hu : u < w.length) : w[u].cs.length <= 16 := hw.cs _ (List.getElem_mem _)
end M25
namespace M25
open Go Go.Abs M3
/-! ### Bits of numbers -/
def tb (x : Int) (i : Nat) : Bool := (BitVec.ofInt 64 x).getLsbD i
def Lo (x : Int) : Prop := 0 <= x /\ x < 131072
end M25
namespace M25
open Go Go.Abs M3
/-! ### Trails: the loops' laws -/
def QnB (w : Q5) (l : List Qbb) : Prop := ∀ s ∈ l, Lo s.m
end M25
namespace M25
open Go Go.Abs M3
def Qjv : List Ys -> Int -> Int
 | [], n => n
 | u :: r, n => if n < 1000000 then Qjv r (n * ((u.cs.length : Int) + 1)) else n
def Qbd (w : Q5) : Int := Qjv w 1
theorem QoM {w : Q5} {i : Nat} {n : Int} (h : i < w.length) (hn : n < 1000000) : Qjv (w.drop i) n = Qjv (w.drop (i + 1)) (n * ((w[i].cs.length : Int) + 1)) := by
 rw [List.drop_eq_getElem_cons h, Qjv, if_pos hn]
theorem Qof {w : Q5} {i : Nat} {n : Int} (h : w.length <= i) : Qjv (w.drop i) n = n := by rw [List.drop_eq_nil_of_le h, Qjv]
theorem Qoe {w : Q5} {i : Nat} {n : Int} (hn : ¬ n < 1000000) : Qjv (w.drop i) n = n := by
 cases h : w.drop i with
 | nil => rfl
 | cons u r => rw [Qjv, if_neg hn]
theorem Ql1 {n : Int} {k : Nat} (h0 : 1 <= n) (h1 : n < 1000000) (hk : k <= 16) : 1 <= n * ((k : Int) + 1) /\ n * ((k : Int) + 1) <= 17000000 := by
 obtain ⟨m, rfl⟩ := Int.eq_ofNat_of_zero_le (show 0 <= n by omega)
 have h2 : m * (k + 1) <= 1000000 * 17 := Nat.mul_le_mul (by omega) (by omega)
 have h3 : 1 * 1 <= m * (k + 1) := Nat.mul_le_mul (by omega) (by omega)
 have e : (m : Int) * ((k : Int) + 1) = ((m * (k + 1) : Nat) : Int) := by simp
 rw [e]; omega
def chN (w : Q5) (n : Int) : Nat -> Int
 | 0 => n
 | i + 1 => match w[i]? with
  | some u => (chN w n i).tdiv ((u.cs.length : Int) + 1)
  | none => chN w n i
def chL (w : Q5) (n : Int) : Nat -> List Int
 | 0 => []
 | i + 1 => match w[i]? with
  | some u => chL w n i ++ [(chN w n i).tmod ((u.cs.length : Int) + 1) - 1]
  | none => chL w n i
def Qck (w : Q5) (n : Int) : List Int := chL w n w.length
theorem QnP {w : Q5} {n : Int} {i : Nat} (h : i < w.length) : chN w n (i + 1) = (chN w n i).tdiv ((w[i].cs.length : Int) + 1) := by rw [chN, List.getElem?_eq_getElem h]
theorem QjR {w : Q5} {n : Int} {i : Nat} (h : i < w.length) : chL w n (i + 1) = chL w n i ++ [(chN w n i).tmod ((w[i].cs.length : Int) + 1) - 1] := by rw [chL, List.getElem?_eq_getElem h]
theorem QkX {a : Int} {k : Nat} (h0 : 0 <= a) : 0 <= a.tdiv ((k : Int) + 1) /\ a.tdiv ((k : Int) + 1) <= a := by
 obtain ⟨m, rfl⟩ := Int.eq_ofNat_of_zero_le h0
 have : ((m : Int)).tdiv ((k : Int) + 1) = ((m / (k + 1) : Nat) : Int) := by
  rw [show (k : Int) + 1 = ((k + 1 : Nat) : Int) by simp, Int.ofNat_tdiv]
 rw [this]
 have := Nat.div_le_self m (k + 1)
 exact ⟨Int.natCast_nonneg _, Int.ofNat_le.2 this⟩
theorem QjS {w : Q5} {n : Int} (h0 : 0 <= n) : ∀ i, 0 <= chN w n i /\ chN w n i <= n
 | 0 => ⟨h0, Int.le_refl _⟩
 | i + 1 => by
  obtain ⟨h1, h2⟩ := QjS (w := w) h0 i
  rw [chN]
  split
  ·rename_i u _
   have := QkX (k := u.cs.length) h1
   omega
  ·exact ⟨h1, h2⟩
theorem QjP (w : Q5) (n : Int) : ∀ i, (chL w n i).length <= i
 | 0 => Nat.le_refl _
 | i + 1 => by
  have := QjP w n i
  rw [chL]; split <;> simp <;> omega
theorem Qnn {a : Int} {k : Nat} (hk : k <= 16) : IntKind.i64.wrap (a.tmod ((k : Int) + 1) - 1) = a.tmod ((k : Int) + 1) - 1 := by
 have h1 := Int.lt_tmod_of_pos a (show (0 : Int) < (k : Int) + 1 by omega)
 have h2 := Int.tmod_lt_of_pos a (show (0 : Int) < (k : Int) + 1 by omega)
 exact Qq (by omega) (by omega)
theorem Qnm {a : Int} {k : Nat} (h0 : 0 <= a) (h1 : a <= 9223372036854775807) : IntKind.i64.wrap (a.tdiv ((k : Int) + 1)) = a.tdiv ((k : Int) + 1) := by
 have := QkX (k := k) h0
 exact Qq (by omega) (by omega)
end M25
namespace Go.Proofs
open Go Go.Abs M3 M25
set_option linter.unusedVariables false
set_option linter.unusedSimpArgs false
theorem X1 {w : Q5} (hw : WSm w) : Ok Try.prog 16 [QcK w] (.int .i64 (Qbd w)) := by
 refine Ok.ofT Z1 Try.func16 Qph (Nat.le_of_ble_eq_true Z) ?_
 show TW _ _ tf16.body _ _
 have hn := hw.len
 refine Qe fun K hK => ZP Z Z Z (Qa Z (hK _ _ (Qb (kp1 Z) ?_)))
 refine Qe fun K hK => Qa Z (hK _ _ (Qb (kp2 Z Z) ?_))
 refine QD ?_ -- 0
 refine Qe fun K hK => Qa Z (hK _ _ (Qb (kp3 Z Z Z) ?_))
 refine QG ?_
 refine ZM (ι := Nat × Int) (fun ⟨i, n⟩ => ⟨[(1, .ref 1 0 0), (3, .int .i64 n), (4, .int .i64 i)], [(1, ⟨[[.sl ((w).map YU)]], 1, 28, true⟩)]⟩) (fun ⟨i, n⟩ => i <= w.length /\ 1 <= n /\ Qbd w = Qjv (w.drop i) n) (fun ⟨i, n⟩ => w.length - i) (0, 1) ?_ ?_ ?_
 ·exact Zg (l := [1, 3, 4]) (lH := [1]) (kp3 rfl rfl rfl) (Qg rfl Qr) rfl rfl rfl
 ·exact ⟨Nat.zero_le _, Int.le_refl _, rfl⟩
 intro ⟨i, n⟩ hI
 obtain ⟨hI1, hI2, hI3⟩ := hI
 try dsimp only at hI1 hI2 hI3
 try dsimp only
 refine QD ?_ -- 1
 refine Qe fun K hK => Qa Z (Qm Z Z (QF Z Z Z ?_))
 first | refine Q7 rfl Zf ?_ | refine Q7 rfl rfl ?_
 refine Yz Z Z (Qa Z ?_)
 refine QB (g := 10) Z (fun h1 => ?_) (fun h1 => ?_)
 ·try rw [h1]
  try simp only [qA] at h1
  refine Qj Z (Qa Z (Qj Z (Yz Z Z (Qn Z Z (hK _ _ (Qb (kp4 Z Z Z Z) ?_))))))
  refine Qz Z (fun h2 => ?_) (fun h2 => ?_)
  ·try rw [h2]
   try simp only [qA] at h2
   refine Qu (Qd (kp3 Z Z Z) ?_)
   refine QD ?_ -- 2
   refine QG (Q0 fun K hK => Qa Z (Qm Z Z (QF Z Z Z (Qa Z (QM Z Z Z (by omega) (Zj (by omega)) Z (ZZ Z Z (QF Z Z Z ?_)))))))
   first | refine Q7 rfl Zf ?_ | refine Q7 rfl rfl ?_
   refine Za Z Z (Qq (by have := hw.csLen (show i < w.length by omega); omega) (by have := hw.csLen (show i < w.length by omega); omega)) (QjD Z Z (Qq (by have := Ql1 hI2 h2 (hw.csLen (show i < w.length by omega)); omega) (by have := Ql1 hI2 h2 (hw.csLen (show i < w.length by omega)); omega)) (Qa Z (hK _ ?_)))
   refine Qf (Qd (kp3 Z Z Z) (Q0 fun K hK => Qa Z (Za Z Z (by first | exact Qq (by omega) (by omega) | rfl) (Qa Z (hK _ ?_)))))
   refine Qh (i + 1, n * (((w[i]'(by omega)).cs.length : Int) + 1)) ?_ ?_ ?_
   ·exact Zg (l := [1, 3, 4]) (lH := [1]) (kp3 rfl rfl rfl) (Qg rfl Qr) rfl rfl rfl
   ·exact ⟨by omega, (Ql1 hI2 h2 (hw.csLen (by omega))).1, by rw [hI3, QoM (by omega) h2]⟩
   ·show w.length - (i + 1) < w.length - i; omega
  ·try rw [h2]
   try simp only [qA] at h2
   refine Zl (QJ (Qx (QC (Qd (kp1 Z) (Qe fun K hK => Qa Z (Qa Z (hK _ _ (Qb (kp1 Z) ?_))))))))
   refine Qs (Qv Z ?_)
   rw [hI3, Qoe (by omega)]
 ·try rw [h1]
  try simp only [qA] at h1
  refine Qy Z (Qy Z (Qn Z Z (hK _ _ (Qb (kp4 Z Z Z Z) ?_))))
  refine ZA Z (Zl (QJ (Qx (QC (Qd (kp1 Z) (Qe fun K hK => Qa Z (Qa Z (hK _ _ (Qb (kp1 Z) ?_)))))))))
  refine Qs (Qv Z ?_)
  rw [hI3, Qof (by omega)]
theorem Qbl {w : Q5} (hw : WSm w) {n : Int} (h0n : 0 <= n) (h1n : n <= 9223372036854775807) : Ok Try.prog 15 [QcK w, .int .i64 n] (Zv (Qck w n)) := by
 refine Ok.ofT Z1 Try.func15 Qpg (Nat.le_of_ble_eq_true Z) ?_
 show TW _ _ tf15.body _ _
 have hn := hw.len
 refine Qe fun K hK => ZP Z Z Z (Qa Z (hK _ _ (Qb (kp2 Z Z) ?_)))
 refine Qe fun K hK => Qa Z (hK _ _ (Qb (kp3 Z Z Z) ?_))
 refine QD ?_ -- 0
 refine Qe fun K hK => Qa Z (hK _ _ (Qb (kp4 Z Z Z Z) ?_))
 refine QG ?_
 refine ZM (ι := Nat) (fun i => ⟨[(1, .int .i64 (chN w n i)), (2, .ref 2 0 0), (5, .osl 5 (chL w n i).length), (6, .int .i64 i)], [(2, ⟨[[.sl ((w).map YU)]], 1, 28, true⟩), (5, ⟨(chL w n i).map (fun x => [.int .i64 x]), 1, 3, true⟩)]⟩) (fun i => i <= w.length) (fun i => w.length - i) 0 ?_ ?_ ?_
 ·exact le_trans (Xe 5 5 1 3 rfl rfl) (Zg (l := [1, 2, 5, 6]) (lH := [2, 5]) (kp4 rfl rfl rfl rfl) (Qg rfl (Qg rfl Qr)) rfl rfl rfl)
 ·exact Nat.zero_le _
 intro i hI
 have hlen := QjP w n i
 have hbd := QjS (w := w) h0n i
 try dsimp only
 refine QD ?_ -- 1
 refine Qe fun K hK => Qa Z (Qm Z Z (QF Z Z Z ?_))
 first | refine Q7 rfl Zf ?_ | refine Q7 rfl rfl ?_
 refine Yz Z Z (hK _ _ (Qb (kp5 Z Z Z Z Z) ?_))
 refine Qz Z (fun h1 => ?_) (fun h1 => ?_)
 ·try rw [h1]
  try simp only [qA] at h1
  refine Qu (Qd (kp4 Z Z Z Z) ?_)
  refine QD ?_ -- 2
  refine QG (Qe fun K hK => Qm Z Z (QF Z Z Z (Qa Z (QM Z Z Z (by omega) (Zj (by omega)) Z (ZZ Z Z (QF Z Z Z ?_))))))
  first | refine Q7 rfl Zf ?_ | refine Q7 rfl rfl ?_
  refine Za Z Z (Qq (by omega) (by have := hw.csLen (show i < w.length by omega); omega)) (Qa Z (hK _ _ (Qb (kp5 Z Z Z Z Z) ?_)))
  refine Qe fun K hK => Qa Z (Qa Z (Qa Z (QjF Z Z (by omega) (Qcu Z Z (Qnn (hw.csLen (by omega))) (QL Z Z (QaC Z Z (fun _ h => QaM Z Z Z h) Z (by simp) Z Z Z (by simp; omega) (by simp; omega) (Qa Z (hK _ _ (Qb (kp5 Z Z Z Z Z) ?_)))))))))
  refine Q0 fun K hK => Qa Z (Qa Z (Qov Z Z (by omega) (Qnm hbd.1 (by omega)) (Qa Z (hK _ ?_))))
  refine Qf (Qd (kp4 Z Z Z Z) (Q0 fun K hK => Qa Z (Za Z Z (by first | exact Qq (by omega) (by omega) | rfl) (Qa Z (hK _ ?_)))))
  refine Qh (i + 1) ?_ ?_ ?_
  ·exact Zg (l := [1, 2, 5, 6]) (lH := [2, 5]) (kp4 rfl rfl rfl rfl) (Qg rfl (Qg rfl Qr)) (by rw [QjR (by omega), QnP (by omega), List.length_append]; rfl) (by rw [QjR (by omega), List.map_append]; rfl) rfl
  ·omega
  ·first | omega | (simp only; omega) | (dsimp only; omega)
 ·try rw [h1]
  try simp only [qA] at h1
  refine Zl (QJ (Qx (QC (Qd (kp1 Z) (Qe fun K hK => Qa Z (Qa Z (hK _ _ (Qb (kp1 Z) ?_))))))))
  refine Qs ?_
  exact QbS rfl rfl rfl (by simp) (by rw [Qck, show w.length = i by omega]; rfl)
end Go.Proofs
namespace M25
open Go Go.Abs M3
/-! ### prop: what is left of each unit, scans -/
structure QnA (w : Q5) (db : List (List Qe1)) (l : List Qbb) (a : Nat) (k : Nat) : Prop where
  ha : a < db.length
  hk : k < db[a].length
  eq : QoH w db l = ((a : Int), db[a][k].u)
  one : Qhk (Qfa w l db[a][k].u) db[a][k].m = 1
  two : ∀ j, ∀ hj : j < db[a].length, j ≠ k -> Qhk (Qfa w l db[a][j].u) db[a][j].m = 2
def Qo9 (w : Q5) (l : List Qbb) (t : Qe1) (c : Int) : Qbb := ⟨t.u, Qo8 (Qfa w l t.u) t.m, Qn0 l, c⟩
end M25
namespace M25
open Go Go.Abs M3
/-! ### Sets that are made: moderate sizes -/
theorem Qlt (l : List (Cu × Cu)) (x y : Cu) : (Qby l x y).length <= l.length + 1 := Qhg l x y
theorem Qf1 (f : Cu -> Cu -> Bool) : ∀ (c : List Cu) (out : List (Cu × Cu)), (∀ x ∈ c, Cu.sm x) -> (∀ s ∈ out, Cu.sm s.1 /\ Cu.sm s.2) -> (Qbx f c out).length <= out.length + c.length /\ ∀ s ∈ Qbx f c out, Cu.sm s.1 /\ Cu.sm s.2
 | [], out, _, h => ⟨by simp [Qbx], by simpa [Qbx] using h⟩
 | [x], out, _, h => ⟨by simp [Qbx], by simpa [Qbx] using h⟩
 | x :: y :: r, out, hc, h => by
  rw [Qbx]
  have hxy := Qlt out x y
  split
  ·obtain ⟨h1, h2⟩ := Qf1 f (y :: r) (Qby out x y) (fun z hz => hc z (by simp at hz ⊢; exact .inr hz)) (QiX h (hc x (by simp)) (hc y (by simp)))
   exact ⟨by simp only [List.length_cons] at h1 ⊢; omega, h2⟩
  ·obtain ⟨h1, h2⟩ := Qf1 f (y :: r) out (fun z hz => hc z (by simp at hz ⊢; exact .inr hz)) h
   exact ⟨by simp only [List.length_cons] at h1 ⊢; omega, h2⟩
def SmN (n : Nat) (l : List (Cu × Cu)) : Prop := l.length <= n /\ ∀ s ∈ l, Cu.sm s.1 /\ Cu.sm s.2
theorem SmN.sm {n : Nat} {l : List (Cu × Cu)} (h : SmN n l) (hn : n <= 1000000) : Sm l := ⟨Nat.le_trans h.1 hn, h.2⟩
theorem SmN.up {n m : Nat} {l : List (Cu × Cu)} (h : SmN n l) (hn : n <= m) : SmN m l := ⟨Nat.le_trans h.1 hn, h.2⟩
theorem SmN.nil (n : Nat) : SmN n [] := ⟨Nat.zero_le _, by simp⟩
theorem Qmp {a b : List (Cu × Cu)} {n m : Nat} (ha : SmN n a) (hb : SmN m b) (h : n + m <= 1000000) : SmN (2 + 2 * (n + m)) (Qmi a b) := by
 unfold Qmi
 split
 ·have hab : Sm (a ++ b) := (ha.sm (by omega)).app (hb.sm (by omega)) (by have := ha.1; have := hb.1; omega)
  unfold Qh6
  split
  ·obtain ⟨h1, h2⟩ := Qf1 (mIn (a ++ b)) (YL (a ++ b)) [] (Yr hab) (by simp)
   have := Qbw (a ++ b)
   have := ha.1
   have := hb.1
   exact ⟨by simp only [List.length_nil, List.length_append] at *; omega, h2⟩
  ·exact SmN.nil _
 ·exact SmN.nil _
theorem Qkt {a : List (Cu × Cu)} {n : Nat} (ha : SmN n a) (h : n <= 1000000) : SmN (2 + 2 * n) (Qh7 a) := by
 unfold Qh7
 split
 ·obtain ⟨h1, h2⟩ := Qf1 (fun x y => !mIn a x y) (YL a) [] (Yr (ha.sm h)) (by simp)
  have := Qbw a
  have := ha.1
  exact ⟨by simp only [List.length_nil] at *; omega, h2⟩
 ·exact SmN.nil _
def Qjg (n : Nat) (s : QhE) : Prop := SmN n s.1 /\ SmN n s.2
theorem Qn5 {a b : QhE} {n m : Nat} (ha : Qjg n a) (hb : Qjg m b) (h : n + m <= 1000000) : Qjg (2 + 2 * (n + m)) (Qmj a b) := by
 unfold Qmj
 split
 ·exact ⟨Qmp ha.1 hb.1 h, Qmp ha.2 hb.2 h⟩
 ·exact ⟨SmN.nil _, SmN.nil _⟩
theorem Qku {a : QhE} {n : Nat} (ha : Qjg n a) (h : n <= 1000000) : Qjg (2 + 2 * n) (Qgh a) := by
 unfold Qgh
 split
 ·exact ⟨Qkt ha.1 h, Qkt ha.2 h⟩
 ·exact ⟨SmN.nil _, SmN.nil _⟩
theorem QbU (e a b c : Int) (f : Bool) : Cu.sm ⟨e, a, b, c, [], [], f⟩ := ⟨Nat.zero_le _, Nat.zero_le _⟩
theorem QbM {a b c : Int} {p q : List UInt8} (hp : p.length <= 1000000) : Qjg 1 (Y8 a b c p q) := by
 unfold Y8
 split
 ·exact ⟨SmN.nil _, SmN.nil _⟩
 ·split
  ·refine ⟨SmN.nil _, ⟨Nat.le_refl _, fun s hs => ?_⟩⟩
   simp only [List.mem_singleton] at hs; subst hs
   exact ⟨⟨hp, Nat.zero_le _⟩, ⟨hp, Nat.zero_le _⟩⟩
  ·refine ⟨⟨Nat.le_refl _, fun s hs => ?_⟩, SmN.nil _⟩
   simp only [List.mem_singleton] at hs; subst hs
   constructor
   ·unfold QeL; split
    ·exact QbU ..
    ·exact QbU ..
   ·unfold QcW; split
    ·exact QbU ..
    ·exact QbU ..
def QjJ : QhE := ([(Qb8, Qe8)], [(Qb8, Qe8)])
theorem Ql6 : Qjg 1 QjJ := by
 have h : SmN 1 [(Qb8, Qe8)] := ⟨Nat.le_refl _, fun s hs => by simp only [List.mem_singleton] at hs; subst hs; exact ⟨QbU .., QbU ..⟩⟩
 exact ⟨h, h⟩
def bnd (i : Nat) : Nat := 4 * 2 ^ i
theorem Ql9 {i : Nat} (h : i <= 16) : bnd i <= 262144 := by
 have : 2 ^ i <= 2 ^ 16 := Nat.pow_le_pow_right (by omega) h
 have e : (2 : Nat) ^ 16 = 65536 := by decide
 unfold bnd; omega
theorem Qoa {s : QhE} {i : Nat} (h : Qjg (bnd i - 4) s) {a b c : Int} {p q : List UInt8} (hp : p.length <= 1000000) (hi : i <= 16) : Qjg (bnd (i + 1) - 4) (Qmj s (Y8 a b c p q)) := by
 have h1 := Ql9 hi
 have h4 : 4 <= bnd i := by unfold bnd; have := Nat.one_le_two_pow (n := i); omega
 have := Qn5 h (QbM (a := a) (b := b) (c := c) (q := q) hp) (by omega)
 have e : bnd (i + 1) = 2 * bnd i := by unfold bnd; rw [Nat.pow_succ]; omega
 exact ⟨this.1.up (by omega), this.2.up (by omega)⟩
theorem QlX {s : QhE} {i : Nat} (h : Qjg (bnd i - 4) s) : Qjg (bnd (i + 1) - 4) s := by
 have e : bnd (i + 1) = 2 * bnd i := by unfold bnd; rw [Nat.pow_succ]; omega
 exact ⟨h.1.up (by omega), h.2.up (by omega)⟩
def SetOk (s : QhE) : Prop := Qjg 600000 s
theorem SetOk.sm {s : QhE} (h : SetOk s) : Sm s.1 /\ Sm s.2 := ⟨h.1.sm (by omega), h.2.sm (by omega)⟩
structure CR where
 v : Vr
 x : D
 y : D
 z : D
def dCR (r : CR) : List D := [.int .i64 r.v.a, .int .i64 r.v.b, .int .i64 r.v.c, .str r.v.p, .str r.v.q, r.x, r.y, r.z]
def CR.ren (r : CR) : CR := ⟨r.v, r.x.renS upN, r.y.renS upN, r.z.renS upN⟩
theorem QjV (l : List CR) : (l.map dCR).map (fun r => r.map (D.renS upN)) = (l.map CR.ren).map dCR := by
 rw [List.map_map, List.map_map]; rfl
structure UR where
 n : List UInt8
 f : List UInt8
 k : Nat
 cs : List CR
def dUR (u : UR) : List D := [.str u.n, .str u.f, .osl u.k u.cs.length]
def UR.ren (u : UR) : UR := ⟨u.n, u.f, upN u.k, u.cs.map CR.ren⟩
theorem QmT (l : List UR) : (l.map dUR).map (fun r => r.map (D.renS upN)) = (l.map UR.ren).map dUR := by
 rw [List.map_map, List.map_map]
 refine List.map_congr_left fun u _ => ?_
 simp [dUR, UR.ren, D.renS]
structure Fam (H : List (Nat × Box)) (kg ku eu ec : Nat) (us : List UR) : Prop where
 ne : ku ≠ kg
 u : ∃ pr, lk H ku = some ⟨us.map dUR, 3, eu, pr⟩
 c : ∀ y ∈ us, y.k ≠ kg /\ ∃ pr, lk H y.k = some ⟨y.cs.map dCR, 8, ec, pr⟩
 v : ∀ y ∈ us, y.cs.length <= 16 /\ ∀ z ∈ y.cs, Qdi z.v
theorem Fam.up {H : List (Nat × Box)} {kg ku eu ec : Nat} {us : List UR} (h : Fam H kg ku eu ec us) : Fam (upH H) (upN kg) (upN ku) eu ec (us.map UR.ren) := by
 obtain ⟨h1, ⟨pu, h2⟩, h3, h4⟩ := h
 refine ⟨fun e => h1 (Qin e), ⟨pu, ?_⟩, fun y hy => ?_, fun y hy => ?_⟩
 ·rw [Qan, h2, Option.map_some, Box.ren, QmT]
 ·obtain ⟨u, hu, rfl⟩ := List.mem_map.1 hy
  obtain ⟨q1, pr, q2⟩ := h3 u hu
  refine ⟨fun e => q1 (Qin e), pr, ?_⟩
  show lk (upH H) (upN u.k) = _
  rw [Qan, q2, Option.map_some, Box.ren, QjV]; rfl
 ·obtain ⟨u, hu, rfl⟩ := List.mem_map.1 hy
  obtain ⟨q1, q2⟩ := h4 u hu
  refine ⟨by simpa [UR.ren] using q1, fun z hz => ?_⟩
  obtain ⟨z0, hz0, rfl⟩ := List.mem_map.1 hz
  exact q2 z0 hz0
theorem Fam.cons {H : List (Nat × Box)} {kg ku eu ec : Nat} {us : List UR} (h : Fam H kg ku eu ec us) {b : Box} : Fam ((kg, b) :: H) kg ku eu ec us := by
 obtain ⟨h1, ⟨pu, h2⟩, h3, h4⟩ := h
 exact ⟨h1, ⟨pu, Qi (Ne.symm h1) h2⟩, fun y hy => let ⟨q1, pr, q2⟩ := h3 y hy; ⟨q1, pr, Qi (Ne.symm q1) q2⟩, h4⟩
def WantIn (n : Nat) (x : WantT) : Prop := 1 <= x.u /\ x.u < n /\ SetOk x.s
def QgK (n : Nat) (r : List WantT) : Prop := r.length <= 2 /\ ∀ x ∈ r, WantIn n x
def Qd8 (n : Nat) (m : Int) (ns : List (List WantT)) : Prop := (ns.length : Int) <= m /\ ∀ r ∈ ns, QgK n r
theorem Qm8 {n : Nat} {x : WantT} (h : WantIn n x) : QgK n [x] := ⟨by simp, by intro y hy; simp only [List.mem_singleton] at hy; subst hy; exact h⟩
theorem Qm9 {n : Nat} {x y : WantT} (h : WantIn n x) (h' : WantIn n y) : QgK n [x, y] := ⟨by simp, by
 intro z hz
 simp only [List.mem_cons, List.not_mem_nil, or_false] at hz
 rcases hz with rfl | rfl
 ·exact h
 ·exact h'⟩
theorem QkL {n : Nat} {ns : List (List WantT)} {r : List WantT} (h : ∀ r ∈ ns, QgK n r) (hr : QgK n r) : ∀ x ∈ ns ++ [r], QgK n x := fun x hx => by
 rcases List.mem_append.1 hx with hx | hx
 ·exact h x hx
 ·simp only [List.mem_singleton] at hx; subst hx; exact hr
end M25
namespace M25
open Go Go.Abs M3
/-! ### The boxes of a world under way -/
def fbx (ec : Nat) (us : List UR) : List (Nat × Box) := us.map fun u => (u.k, ⟨u.cs.map dCR, 8, ec, true⟩)
def Z4 (us : List UR) : Prop := ∀ j, ∀ h : j < us.length, us[j].k = 500001 + j
theorem Qhc {us : List UR} {u : UR} (h : Z4 us) (hu : u.k = 500001 + us.length) : Z4 (us ++ [u]) := fun j hj => by
 rw [List.length_append, List.length_singleton] at hj
 by_cases e : j < us.length
 ·rw [List.getElem_append_left e]; exact h j e
 ·have : j = us.length := by omega
  subst this
  rw [List.getElem_append_right (Nat.le_refl _)]; simpa using hu
theorem Qew (ec : Nat) (us : List UR) : Qla (fbx ec us) := fun p hp => by
 obtain ⟨u, _, rfl⟩ := List.mem_map.1 hp; rfl
theorem Qfw {ec : Nat} : ∀ {us : List UR} {k : Nat} {b : Box}, lk (fbx ec us) k = some b -> ∃ u ∈ us, k = u.k /\ b = ⟨u.cs.map dCR, 8, ec, true⟩
 | [], _, _, h => by cases h
 | u :: us, k, b, h => by
  simp only [fbx, List.map_cons] at h
  rw [Ql] at h
  split at h
  ·rename_i e; cases h; exact ⟨u, by simp, e.symm, rfl⟩
  ·obtain ⟨v, hv, q⟩ := Qfw (us := us) h
   exact ⟨v, by simp [hv], q⟩
theorem QaX {us : List UR} (h : Z4 us) {u : UR} (hu : u ∈ us) : 500001 <= u.k /\ u.k < 500001 + us.length := by
 obtain ⟨j, hj, rfl⟩ := List.getElem_of_mem hu
 have := h j hj
 omega
theorem QfZ {ec : Nat} {us : List UR} (h : Z4 us) : Qo1 500001 (fbx ec us) := fun k b hk => by
 obtain ⟨u, hu, rfl, _⟩ := Qfw hk
 exact (QaX h hu).1
theorem YJ {ec : Nat} {us : List UR} (h : Z4 us) {k : Nat} (hk : k < 500001 \/ 500001 + us.length <= k) : lk (fbx ec us) k = none := by
 cases hh : lk (fbx ec us) k with
 | none => rfl
 | some b =>
  obtain ⟨u, hu, rfl, _⟩ := Qfw hh
  have := QaX h hu
  omega
theorem Qj2 {ec : Nat} : ∀ {us : List UR} {n : Nat}, (∀ j, ∀ h : j < us.length, us[j].k = n + j) -> ∀ j, ∀ h : j < us.length, lk (fbx ec us) (n + j) = some ⟨us[j].cs.map dCR, 8, ec, true⟩
 | [], _, _, j, hj => by simp at hj
 | u :: us, n, hk, 0, _ => by
  have := hk 0 (by simp)
  simp only [List.getElem_cons_zero, Nat.add_zero] at this
  simp only [fbx, List.map_cons, Nat.add_zero]
  rw [Ql, if_pos this]; rfl
 | u :: us, n, hk, j + 1, hj => by
  have h0 := hk 0 (by simp)
  simp only [List.getElem_cons_zero, Nat.add_zero] at h0
  simp only [fbx, List.map_cons]
  rw [Ql, if_neg (by omega)]
  have := Qj2 (ec := ec) (us := us) (n := n + 1) (fun i hi => by
   have := hk (i + 1) (by simpa using hi)
   simp only [List.getElem_cons_succ] at this
   omega) j (by simpa using hj)
  rw [show n + 1 + j = n + (j + 1) by omega] at this
  simp only [List.getElem_cons_succ]
  exact this
theorem Qj1 {ec : Nat} {us : List UR} (h : Z4 us) {j : Nat} (hj : j < us.length) : lk (fbx ec us) (500001 + j) = some ⟨us[j].cs.map dCR, 8, ec, true⟩ := Qj2 h j hj
theorem QiI (ec : Nat) (us : List UR) (u : UR) : fbx ec (us ++ [u]) = fbx ec us ++ [(u.k, ⟨u.cs.map dCR, 8, ec, true⟩)] := by simp [fbx]
theorem Qlm {ec : Nat} {us : List UR} (h : Z4 us) {kg : Nat} {x y : Box} {u : UR} (hu : u.k = 500001 + us.length) (hkg : u.k ≠ kg) (k : Nat) :
  lk ((u.k, ⟨u.cs.map dCR, 8, ec, true⟩) :: (500000, x) :: (kg, y) :: fbx ec us) k = lk ((500000, x) :: (kg, y) :: fbx ec (us ++ [u])) k := by
 rw [QiI]
 by_cases e : u.k = k
 ·subst e
  rw [Qw, Ql, if_neg (by omega), Ql, if_neg (Ne.symm hkg), YK (YJ h (.inr (by omega))), Qw]
 ·rw [Ql, if_neg e, Ql, Ql, Ql, Ql]
  split
  ·rfl
  ·split
   ·rfl
   ·rw [ZV]
    cases h2 : lk (fbx ec us) k with
    | some v => rfl
    | none => rw [Ql, if_neg e]; rfl
def zr (v : Vr) (sh : Int) : CR := ⟨v, .int .i64 sh, .fsl [], .fsl []⟩
def Qny (u : UR) : Prop := u.cs.length <= 4 /\ ∀ z ∈ u.cs, ∃ v sh, z = zr v sh /\ Qdi v
theorem Qme {u : UR} : (dUR u).flatMap D.sid = [u.k] := by simp [dUR, D.sid]
theorem Qa6 {us : List UR} {e et : Nat} {k : Nat} (h : k ∈ (Box.ids ⟨us.map dUR, e, et, false⟩)) : ∃ u ∈ us, k = u.k := by
 simp only [Box.ids, Bool.false_eq_true, if_false, List.mem_flatMap, List.mem_map] at h
 obtain ⟨r, ⟨u, hu, rfl⟩, hk⟩ := h
 have : k ∈ (dUR u).flatMap D.sid := List.mem_flatMap.2 hk
 rw [Qme] at this
 exact ⟨u, hu, by simpa using this⟩
theorem Qnj {us : List UR} (h : Z4 us) : ∀ r ∈ us.map dUR, ∀ d ∈ r, 500000 ∉ d.sid := fun r hr d hd hk => by
 obtain ⟨u, hu, rfl⟩ := List.mem_map.1 hr
 have : 500000 ∈ (dUR u).flatMap D.sid := List.mem_flatMap.2 ⟨d, hd, hk⟩
 rw [Qme] at this
 have h2 := QaX h hu
 simp only [List.mem_singleton] at this
 omega
theorem QfO {B F : List (Nat × Box)} {j : Nat} (h : (lk F j).isSome = true) : (lk (B ++ F) j).isSome = true := by
 rw [ZV]; split
 ·rfl
 ·exact h
theorem QcM {ec : Nat} {us : List UR} (h : Z4 us) {u : UR} (hu : u ∈ us) : (lk (fbx ec us) u.k).isSome = true := by
 obtain ⟨j, hj, rfl⟩ := List.getElem_of_mem hu
 rw [h j hj, Qj1 h hj]; rfl
theorem Qf0 {ec : Nat} {us : List UR} {u : UR} (h : Z4 us) (hu : u.k = 500001 + us.length) : lk (fbx ec (us ++ [u])) (500001 + us.length) = some ⟨u.cs.map dCR, 8, ec, true⟩ := by
 rw [QiI, YK (YJ h (.inr (Nat.le_refl _))), <- hu, Qw]
section
variable {l : List Nat} {fr fr1 fr' : List (Nat × D)} {B : List (Nat × Box)} {kg eg eu ec : Nat} {L : List Int} {J : Int} {us : List UR}
theorem Qo5 (hf : Zc l fr = fr1) (ef : fr1 = fr') (hK : Z4 us) (hu : lk B 500000 = some ⟨us.map dUR, 3, eu, false⟩) (hg : lk B kg = some (gB L J eg)) (hB : ∀ p ∈ B, 500001 <= p.1 -> p.1 = kg) (hkg : kg ≠ 500000)
  (hfr : ∀ p ∈ fr', ∀ k ∈ p.2.ids, k = 500000 \/ k = kg \/ ∃ u ∈ us, k = u.k) : St.le ⟨fr, B ++ fbx ec us⟩ ⟨fr', [(500000, ⟨us.map dUR, 3, eu, false⟩), (kg, gB L J eg)] ++ fbx ec us⟩ := by
 have s0 : ∀ k, (k = 500000 \/ k = kg \/ ∃ u ∈ us, k = u.k) -> (lk ([(500000, (⟨us.map dUR, 3, eu, false⟩ : Box)), (kg, gB L J eg)] ++ fbx ec us) k).isSome = true := fun k hk => by
  rcases hk with rfl | rfl | ⟨u, hu, rfl⟩
  ·exact QV
  ·exact QS QV
  ·exact QfO (QcM hK hu)
 refine Qh2 (N := 500001) hf ef (fun p hp => ?_) rfl (fun p hp j hj => s0 j ?_) (fun p hp h => ?_) (QfZ hK) (Qew ec us) (fun p hp k hk => s0 k (hfr p hp k hk))
 ·simp only [List.mem_cons, List.not_mem_nil, or_false] at hp
  rcases hp with rfl | rfl
  ·exact hu
  ·exact hg
 ·simp only [List.mem_cons, List.not_mem_nil, or_false] at hp
  rcases hp with rfl | rfl
  ·exact .inr (.inr (Qa6 hj))
  ·simp [Box.ids, gB] at hj
 ·rw [hB p hp h]; exact QS QV
theorem Qnw {cs : List CR} (hf : Zc l fr = fr1) (ef : fr1 = fr') (hK : Z4 us) (hc : lk B (500001 + us.length) = some ⟨cs.map dCR, 8, ec, true⟩) (hu : lk B 500000 = some ⟨us.map dUR, 3, eu, false⟩) (hg : lk B kg = some (gB L J eg)) (hB : ∀ p ∈ B, 500001 <= p.1 -> p.1 = kg \/ p.1 = 500001 + us.length)
  (hfr : ∀ p ∈ fr', ∀ k ∈ p.2.ids, k = 500000 \/ k = kg \/ k = 500001 + us.length \/ ∃ u ∈ us, k = u.k) : St.le ⟨fr, B ++ fbx ec us⟩ ⟨fr', [(500001 + us.length, ⟨cs.map dCR, 8, ec, true⟩), (500000, ⟨us.map dUR, 3, eu, false⟩), (kg, gB L J eg)] ++ fbx ec us⟩ := by
 have s0 : ∀ k, (k = 500000 \/ k = kg \/ k = 500001 + us.length \/ ∃ u ∈ us, k = u.k) -> (lk ([(500001 + us.length, (⟨cs.map dCR, 8, ec, true⟩ : Box)), (500000, (⟨us.map dUR, 3, eu, false⟩ : Box)), (kg, gB L J eg)] ++ fbx ec us) k).isSome = true := fun k hk => by
  rcases hk with rfl | rfl | rfl | ⟨u, hu, rfl⟩
  ·exact QS QV
  ·exact QS (QS QV)
  ·exact QV
  ·exact QfO (QcM hK hu)
 refine Qh2 (N := 500001) hf ef (fun p hp => ?_) rfl (fun p hp j hj => s0 j ?_) (fun p hp h => ?_) (QfZ hK) (Qew ec us) (fun p hp k hk => s0 k (hfr p hp k hk))
 ·simp only [List.mem_cons, List.not_mem_nil, or_false] at hp
  rcases hp with rfl | rfl | rfl
  ·exact hc
  ·exact hu
  ·exact hg
 ·simp only [List.mem_cons, List.not_mem_nil, or_false] at hp
  rcases hp with rfl | rfl | rfl
  ·simp [Box.ids] at hj
  ·exact .inr (.inr (.inr (Qa6 hj)))
  ·simp [Box.ids, gB] at hj
 ·rcases hB p hp h with e | e
  ·rw [e]; exact QS (QS QV)
  ·rw [e]; exact QV
theorem Qoi {u : UR} (hf : Zc l fr = fr1) (ef : fr1 = fr') (hK : Z4 us) (huk : u.k = 500001 + us.length) (hc : lk B (500001 + us.length) = some ⟨u.cs.map dCR, 8, ec, true⟩) (hu : lk B 500000 = some ⟨(us ++ [u]).map dUR, 3, eu, false⟩) (hg : lk B kg = some (gB L J eg)) (hB : ∀ p ∈ B, 500001 <= p.1 -> p.1 = kg \/ p.1 = 500001 + us.length) (hkg : 1000000 <= kg) (hlen : us.length <= 100)
  (hfr : ∀ p ∈ fr', ∀ k ∈ p.2.ids, k = 500000 \/ k = kg \/ ∃ v ∈ us ++ [u], k = v.k) : St.le ⟨fr, B ++ fbx ec us⟩ ⟨fr', [(500000, ⟨(us ++ [u]).map dUR, 3, eu, false⟩), (kg, gB L J eg)] ++ fbx ec (us ++ [u])⟩ := by
 have hK1 := Qhc hK huk
 have mv := fun k => Qlm (ec := ec) hK (kg := kg) (x := ⟨(us ++ [u]).map dUR, 3, eu, false⟩) (y := gB L J eg) huk (by omega) k
 have s0 : ∀ k, (k = 500000 \/ k = kg \/ ∃ v ∈ us ++ [u], k = v.k) -> (lk ([(u.k, (⟨u.cs.map dCR, 8, ec, true⟩ : Box)), (500000, (⟨(us ++ [u]).map dUR, 3, eu, false⟩ : Box)), (kg, gB L J eg)] ++ fbx ec us) k).isSome = true := fun k hk => by
  show (lk ((u.k, _) :: (500000, _) :: (kg, _) :: fbx ec us) k).isSome = true
  rw [mv]
  rcases hk with rfl | rfl | ⟨v, hv, rfl⟩
  ·exact QV
  ·exact QS QV
  ·exact QS (QS (QcM hK1 hv))
 refine le_trans (Qh2 (N := 500001) (A' := [(u.k, ⟨u.cs.map dCR, 8, ec, true⟩), (500000, ⟨(us ++ [u]).map dUR, 3, eu, false⟩), (kg, gB L J eg)]) hf ef (fun p hp => ?_) rfl (fun p hp j hj => s0 j ?_) (fun p hp h => ?_) (QfZ hK) (Qew ec us) (fun p hp k hk => s0 k (hfr p hp k hk))) (Qh0 ⟨fun _ => rfl, mv⟩)
 ·simp only [List.mem_cons, List.not_mem_nil, or_false] at hp
  rcases hp with rfl | rfl | rfl
  ·rw [huk]; exact hc
  ·exact hu
  ·exact hg
 ·simp only [List.mem_cons, List.not_mem_nil, or_false] at hp
  rcases hp with rfl | rfl | rfl
  ·simp [Box.ids] at hj
  ·exact .inr (.inr (Qa6 hj))
  ·simp [Box.ids, gB] at hj
 ·rcases hB p hp h with e | e
  ·rw [e]; exact QS (QS QV)
  ·rw [e, <- huk]; exact QV
end
def u0 (v : Vr) : UR := ⟨[], [], 500001, [zr v (-1)]⟩
def v0 : Vr := ⟨0, 0, 0, [], []⟩
theorem Ql0 {kg a b : Nat} (h : 1000000 <= kg) (ha : a < 1000000) (hb : b < 1000000) : Qbe a b kg = kg := by
 unfold Qbe; rw [if_neg (by omega), if_neg (by omega)]
theorem Qkk {l : List Nat} {fr fr1 fr' : List (Nat × D)} {kg eg eu ec : Nat} {L : List Int} {I : Int} (hkg : 1000000 <= kg) (hf : Zc l fr = fr1) (ef : fr1.map (fun p => (p.1, (p.2.ren (Qbe 18 500000)).ren (Qbe 16 500001))) = fr') :
  St.le ⟨fr, [(18, ⟨[[.str [], .str [], .osl 16 1]], 3, eu, false⟩), (16, ⟨[dCR (zr v0 (-1))], 8, ec, true⟩), (kg, gB L I eg)]⟩ ⟨fr', [(500000, ⟨[u0 v0].map dUR, 3, eu, false⟩), (kg, gB L I eg)] ++ fbx ec [u0 v0]⟩ := by
 subst hf ef
 have k1 := Ql0 (a := 18) (b := 500000) hkg (by decide) (by decide)
 have k2 := Ql0 (a := 16) (b := 500001) hkg (by decide) (by decide)
 refine le_trans (Qbv l fr _) (le_trans (Qh1 18 500000 (by decide) (by decide) _) (le_trans (Qh1 16 500001 (by decide) (by decide) _) ?_))
 have hH : ∀ k, lk ([(500000, (⟨[u0 v0].map dUR, 3, eu, false⟩ : Box)), (kg, gB L I eg)] ++ fbx ec [u0 v0]) k = lk (QgD (Qbe 16 500001) (QgD (Qbe 18 500000) [(18, ⟨[[.str [], .str [], .osl 16 1]], 3, eu, false⟩), (16, ⟨[dCR (zr v0 (-1))], 8, ec, true⟩), (kg, gB L I eg)])) k := fun k => by
  have e : QgD (Qbe 16 500001) (QgD (Qbe 18 500000) [(18, (⟨[[.str [], .str [], .osl 16 1]], 3, eu, false⟩ : Box)), (16, ⟨[dCR (zr v0 (-1))], 8, ec, true⟩), (kg, gB L I eg)]) = [(500000, ⟨[u0 v0].map dUR, 3, eu, false⟩), (500001, ⟨[dCR (zr v0 (-1))], 8, ec, true⟩), (kg, gB L I eg)] := by
   simp only [QgD, List.map_cons, List.map_nil, k1, k2]; rfl
  rw [e]
  show lk ((500000, _) :: (kg, _) :: (500001, _) :: []) k = _
  rw [Ql, Ql, Ql, Ql, Ql, Ql]
  by_cases h1 : 500000 = k
  ·rw [if_pos h1, if_pos h1]
  ·rw [if_neg h1, if_neg h1]
   by_cases h2 : kg = k
   ·rw [if_pos h2, if_neg (by omega), if_pos h2]
   ·rw [if_neg h2, if_neg h2]; rfl
 refine QaY (by simp only [St.ren, List.map_map]; rfl) fun k => (hH k).symm
def names5 : List (List UInt8) := [[97, 110, 116], [98, 101, 101], [99, 111, 119], [100, 111, 103], [101, 108, 107]]
theorem Q9 : names5.length = 5 := rfl
theorem QbH : versions.length = 4 := rfl
theorem QkZ {i : Nat} (h : i < versions.length) : Qdi versions[i] := by
 have := Qio _ (List.getElem_mem h)
 exact ⟨Nat.le_trans this.1 (by omega), Nat.le_trans this.2 (by omega)⟩
structure UnitsIn (us : List UR) : Prop where
 keys : Z4 us
 fresh : ∀ u ∈ us, Qny u
 first : ∃ z rest, us = ⟨[], [], 500001, [z]⟩ :: rest
theorem UnitsIn.zero : UnitsIn [u0 v0] := by
 refine ⟨fun j hj => ?_, fun u hu => ?_, ⟨zr v0 (-1), [], rfl⟩⟩
 ·have : j = 0 := by simp at hj; exact hj
  subst this; rfl
 ·simp only [List.mem_singleton] at hu; subst hu
  refine ⟨by simp [u0], fun z hz => ?_⟩
  simp only [u0, List.mem_singleton] at hz; subst hz
  exact ⟨v0, -1, rfl, ⟨Nat.zero_le _, Nat.zero_le _⟩⟩
theorem UnitsIn.snoc {us : List UR} (h : UnitsIn us) {n f : List UInt8} {cs : List CR} (hc : cs.length <= 4) (hz : ∀ z ∈ cs, ∃ v sh, z = zr v sh /\ Qdi v) : UnitsIn (us ++ [⟨n, f, 500001 + us.length, cs⟩]) := by
 obtain ⟨h1, h2, z, rest, h3⟩ := h
 refine ⟨Qhc h1 rfl, fun u hu => ?_, z, rest ++ [⟨n, f, 500001 + us.length, cs⟩], by rw [h3]; rfl⟩
 rcases List.mem_append.1 hu with hu | hu
 ·exact h2 u hu
 ·simp only [List.mem_singleton] at hu; subst hu; exact ⟨hc, hz⟩
def CsIn (n : Nat) (cs : List CR) : Prop := cs.length <= n /\ ∀ z ∈ cs, ∃ v sh, z = zr v sh /\ Qdi v
theorem CsIn.nil (n : Nat) : CsIn n [] := ⟨Nat.zero_le _, by simp⟩
theorem CsIn.keep {n : Nat} {cs : List CR} (h : CsIn n cs) : CsIn (n + 1) cs := ⟨Nat.le_succ_of_le h.1, h.2⟩
theorem CsIn.snoc {n : Nat} {cs : List CR} (h : CsIn n cs) {v : Vr} (hv : Qdi v) {sh : Int} : CsIn (n + 1) (cs ++ [zr v sh]) := by
 refine ⟨by simp; exact h.1, fun z hz => ?_⟩
 rcases List.mem_append.1 hz with hz | hz
 ·exact h.2 z hz
 ·simp only [List.mem_singleton] at hz; subst hz; exact ⟨v, sh, rfl, hv⟩
theorem CsIn.at {n : Nat} {cs : List CR} (h : CsIn n cs) {i : Nat} (hi : i < cs.length) : Qdi cs[i].v := by
 obtain ⟨v, sh, e, hv⟩ := h.2 _ (List.getElem_mem hi)
 rw [e]; exact hv
theorem QiV {α : Type} {k : Nat} {v v' : α} {l : List (Nat × α)} (h : v = v') : lk ((k, v) :: l) k = some v' := by rw [Qw, h]
theorem Qhx {us : List UR} {e et : Nat} (h : Z4 us) : Box.scrub (500001 + us.length) ⟨us.map dUR, e, et, false⟩ = ⟨us.map dUR, e, et, false⟩ := Qhw fun hk => by
 obtain ⟨u, hu, e⟩ := Qa6 hk
 have := QaX h hu
 omega
theorem Qjb {us : List UR} (h : Z4 us) {n f : List UInt8} {k m : Nat} (hk : k ≠ 500000) : ∀ r ∈ us.map dUR ++ [[D.str n, D.str f, D.osl k m]], ∀ d ∈ r, 500000 ∉ d.sid := fun r hr d hd => by
 rcases List.mem_append.1 hr with hr | hr
 ·exact Qnj h r hr d hd
 ·simp only [List.mem_singleton] at hr; subst hr
  simp only [List.mem_cons, List.not_mem_nil, or_false] at hd
  rcases hd with rfl | rfl | rfl <;> simp [D.sid]
  exact Ne.symm hk
theorem Qni {us : List UR} {u : UR} : (us ++ [u]).map dUR = us.map dUR ++ [dUR u] := by simp
theorem QmS {cs : List CR} {z : CR} : (cs ++ [z]).map dCR = cs.map dCR ++ [dCR z] := by simp
theorem QaN {us : List UR} (h : Z4 us) {kg eu ec : Nat} {g1 g2 g3 : Box} (hkg : 1000000 <= kg) (h1 : g1.pr = true) (h2 : g2.pr = true) (hlen : us.length <= 100) :
  (∀ k, 1000000 <= k -> (lk [(kg, g1)] k).isSome = true -> (lk (((500000, (⟨us.map dUR, 3, eu, false⟩ : Box)) :: fbx ec us) ++ [(kg, g2), (kg, g1)]) k).isSome = true) /\
  (∀ k b, lk (((500000, (⟨us.map dUR, 3, eu, false⟩ : Box)) :: fbx ec us) ++ [(kg, g2), (kg, g1)]) k = some b -> 500000 <= k /\ ∀ j ∈ b.ids, (lk (((500000, (⟨us.map dUR, 3, eu, false⟩ : Box)) :: fbx ec us) ++ [(kg, g2), (kg, g1)]) j).isSome = true) /\
  (∀ k b, lk (((500000, (⟨us.map dUR, 3, eu, false⟩ : Box)) :: fbx ec us) ++ [(kg, g2), (kg, g1)]) k = some b -> lk ((kg, g2) :: (500000, ⟨us.map dUR, 3, eu, false⟩) :: (kg, g3) :: fbx ec us) k = some b) := by
 have cs : ∀ k b, lk (((500000, (⟨us.map dUR, 3, eu, false⟩ : Box)) :: fbx ec us) ++ [(kg, g2), (kg, g1)]) k = some b -> (k = 500000 /\ b = ⟨us.map dUR, 3, eu, false⟩) \/ (∃ u ∈ us, k = u.k /\ b = ⟨u.cs.map dCR, 8, ec, true⟩) \/ (k = kg /\ b = g2) := fun k b hk => by
  rw [List.cons_append, Ql] at hk
  split at hk
  ·rename_i e; cases hk; exact .inl ⟨e.symm, rfl⟩
  ·rw [ZV] at hk
   cases hh : lk (fbx ec us) k with
   | some v =>
    rw [hh] at hk; cases hk
    exact .inr (.inl (Qfw hh))
   | none =>
    rw [hh] at hk
    simp only at hk
    rw [Ql] at hk
    split at hk
    ·rename_i e; cases hk; exact .inr (.inr ⟨e.symm, rfl⟩)
    ·rename_i e
     rw [Ql, if_neg e] at hk; cases hk
 refine ⟨fun k _ hk => ?_, fun k b hk => ?_, fun k b hk => ?_⟩
 ·obtain ⟨b, hb⟩ := Option.isSome_iff_exists.1 hk
  obtain ⟨rfl, _⟩ := XP hb
  exact QfO QV
 ·rcases cs k b hk with ⟨rfl, rfl⟩ | ⟨u, hu, rfl, rfl⟩ | ⟨rfl, rfl⟩
  ·refine ⟨Nat.le_refl _, fun j hj => ?_⟩
   obtain ⟨u, hu, rfl⟩ := Qa6 hj
   rw [List.cons_append]
   refine QS ?_
   obtain ⟨b, hb⟩ := Option.isSome_iff_exists.1 (QcM (ec := ec) h hu)
   rw [Ym hb]; rfl
  ·have := QaX h hu
   exact ⟨by omega, fun j hj => by simp [Box.ids] at hj⟩
  ·exact ⟨by omega, fun j hj => by rw [XX h2] at hj; cases hj⟩
 ·rcases cs k b hk with ⟨rfl, rfl⟩ | ⟨u, hu, rfl, rfl⟩ | ⟨rfl, rfl⟩
  ·exact Qi (by omega) Qw
  ·have hm := QaX h hu
   obtain ⟨j, hj, rfl⟩ := List.getElem_of_mem hu
   refine Qi (by omega) (Qi (by omega) (Qi (by omega) ?_))
   rw [h j hj]; exact Qj1 h hj
  ·exact Qw
end M25
namespace M25
open Go Go.Abs M3
/-! ### A world under way: one candidate after the other is filled -/
def PureC (z : CR) : Prop := z.x.sid = [] /\ z.y.sid = [] /\ z.z.sid = []
theorem PureC.all {z : CR} (h : PureC z) : ∀ d ∈ dCR z, d.sid = [] := fun d hd => by
 simp only [dCR, List.mem_cons, List.not_mem_nil, or_false] at hd
 rcases hd with rfl | rfl | rfl | rfl | rfl | rfl | rfl | rfl
 ·rfl
 ·rfl
 ·rfl
 ·rfl
 ·rfl
 ·exact h.1
 ·exact h.2.1
 ·exact h.2.2
def QdB (u : UR) (k : Nat) (z : CR) : UR := { u with cs := u.cs.set k z }
def QbT (us : List UR) (i k : Nat) (z : CR) : List UR := us.modify i fun u => QdB u k z
theorem Zs (us : List UR) (i k : Nat) (z : CR) : (QbT us i k z).length = us.length := List.length_modify ..
theorem Qi9 (us : List UR) (i k : Nat) (z : CR) : (QbT us i k z).map dUR = us.map dUR := by
 refine List.ext_getElem (by simp [QbT]) fun j h1 h2 => ?_
 simp only [List.getElem_map, QbT, List.getElem_modify]
 split <;> simp [dUR, QdB]
theorem Qaz {us : List UR} {i k : Nat} {z : CR} {j : Nat} (h : j < us.length) : (QbT us i k z)[j]'(by rw [Zs]; exact h) = if i = j then QdB us[j] k z else us[j] := by
 simp only [QbT, List.getElem_modify]
theorem Qdb {us : List UR} {i k : Nat} {z : CR} (h : Z4 us) : Z4 (QbT us i k z) := fun j hj => by
 rw [Zs] at hj
 rw [Qaz hj]
 split
 ·exact h j hj
 ·exact h j hj
def wA (us : List UR) (eu ec eg : Nat) (L : List Int) (J : Int) (b4 : Box) : List (Nat × Box) := [(500000, ⟨us.map dUR, 3, eu, false⟩), (12, gB L J eg), (4, b4)] ++ fbx ec us
theorem Qa7 {us : List UR} {eu ec eg : Nat} {L : List Int} {J : Int} {b4 : Box} (h : Z4 us) {k : Nat} {b : Box} (hk : lk (wA us eu ec eg L J b4) k = some b) : (k = 500000 /\ b = ⟨us.map dUR, 3, eu, false⟩) \/ (k = 12 /\ b = gB L J eg) \/ (k = 4 /\ b = b4) \/ ∃ j, ∃ hj : j < us.length, k = 500001 + j /\ b = ⟨us[j].cs.map dCR, 8, ec, true⟩ := by
 unfold wA at hk
 rcases QeI hk with hk | ⟨_, hk⟩
 ·simp only [List.mem_cons, List.not_mem_nil, or_false, Prod.mk.injEq] at hk
  rcases hk with h | h | h
  ·exact .inl h
  ·exact .inr (.inl h)
  ·exact .inr (.inr (.inl h))
 ·obtain ⟨u, hu, e1, e2⟩ := Qfw hk
  obtain ⟨j, hj, rfl⟩ := List.getElem_of_mem hu
  exact .inr (.inr (.inr ⟨j, hj, e1.trans (h j hj), e2⟩))
section
variable {us : List UR} {eu ec eg : Nat} {L : List Int} {J : Int} {b4 : Box}
theorem Qd4 : lk (wA us eu ec eg L J b4) 500000 = some ⟨us.map dUR, 3, eu, false⟩ := rfl
theorem QdK : lk (wA us eu ec eg L J b4) 12 = some (gB L J eg) := rfl
theorem Qe0 : lk (wA us eu ec eg L J b4) 4 = some b4 := rfl
theorem Qcr (h : Z4 us) {j : Nat} (hj : j < us.length) : lk (wA us eu ec eg L J b4) (500001 + j) = some ⟨us[j].cs.map dCR, 8, ec, true⟩ := by
 show lk ((500000, _) :: (12, _) :: (4, _) :: fbx ec us) _ = _
 rw [Ql, if_neg (by omega), Ql, if_neg (by omega), Ql, if_neg (by omega)]
 exact Qj1 h hj
theorem ZY (h : Z4 us) {k : Nat} (h1 : k ≠ 500000) (h2 : k ≠ 12) (h3 : k ≠ 4) (h4 : k < 500001 \/ 500001 + us.length <= k) : lk (wA us eu ec eg L J b4) k = none := by
 show lk ((500000, _) :: (12, _) :: (4, _) :: fbx ec us) _ = _
 rw [Ql, if_neg (Ne.symm h1), Ql, if_neg (Ne.symm h2), Ql, if_neg (Ne.symm h3)]
 exact YJ h h4
theorem Qip (h : Z4 us) {k : Nat} (hk : k = 500000 \/ k = 12 \/ k = 4 \/ ∃ u ∈ us, k = u.k) : (lk (wA us eu ec eg L J b4) k).isSome = true := by
 rcases hk with rfl | rfl | rfl | ⟨u, hu, rfl⟩
 ·rfl
 ·rfl
 ·rfl
 ·obtain ⟨j, hj, rfl⟩ := List.getElem_of_mem hu
  rw [h j hj, Qcr h hj]; rfl
theorem Qac (h : Z4 us) (h4 : b4.pr = true) : Closed (wA us eu ec eg L J b4) := fun k b hk j hj => by
 rcases Qa7 h hk with ⟨rfl, rfl⟩ | ⟨rfl, rfl⟩ | ⟨rfl, rfl⟩ | ⟨i, hi, rfl, rfl⟩
 ·exact Qip h (.inr (.inr (.inr (Qa6 hj))))
 ·simp [Box.ids, gB] at hj
 ·rw [XX h4] at hj; cases hj
 ·simp [Box.ids] at hj
theorem Qdu {α : Type} : ∀ {l : List α} {k : Nat} {a x : α}, x ∈ l.set k a -> x = a \/ x ∈ l
 | [], k, a, x, h => by simp at h
 | b :: l, 0, a, x, h => by
  simp only [List.set_cons_zero, List.mem_cons] at h ⊢
  rcases h with h | h
  ·exact .inl h
  ·exact .inr (.inr h)
 | b :: l, k + 1, a, x, h => by
  simp only [List.set_cons_succ, List.mem_cons] at h ⊢
  rcases h with h | h
  ·exact .inr (.inl h)
  ·rcases Qdu h with h | h
   ·exact .inl h
   ·exact .inr (.inr h)
theorem QeE {l : List Nat} {fr fr1 fr' : List (Nat × D)} {H : List (Nat × Box)} {i k : Nat} {row : List D} {p : Bool} (kk : Nat) (z' : CR) (hf : Zc l fr = fr1) (ef : fr1 = fr') (hK : Z4 us) (hi : i < us.length) (hk : k < us[i].cs.length)
  (hKi : lk H (500001 + i) = some ⟨(us[i].cs.map dCR).set k row, 8, ec, p⟩) (hp : p = true -> row.map (D.fzS H (· == kk)) = row) (hrow : (row.map (D.fzS H (· == kk))).map D.canS = dCR z') (hoth : ∀ z ∈ us[i].cs, PureC z) (hz : PureC z')
  (hF : ∀ j, ∀ hj : j < us.length, j ≠ i -> lk H (500001 + j) = some ⟨us[j].cs.map dCR, 8, ec, true⟩) (hu : lk H 500000 = some ⟨us.map dUR, 3, eu, false⟩) (hg : lk H 12 = some (gB L J eg)) (h4 : lk H 4 = some b4) (hb4 : b4.pr = true) (hkk : kk < 500000 /\ kk ≠ 12 /\ kk ≠ 4) (hsm : ∀ j, 1000000 <= j -> lk H j = none) (hlen : us.length <= 100)
  (hfr : ∀ p ∈ fr', ∀ j ∈ p.2.ids, j = 500000 \/ j = 12 \/ j = 4 \/ ∃ u ∈ us, j = u.k) : St.le ⟨fr, H⟩ ⟨fr', wA (QbT us i k z') eu ec eg L J b4⟩ := by
 subst hf ef
 have nokk : ∀ j, (j = 500000 \/ j = 12 \/ j = 4 \/ ∃ u ∈ us, j = u.k) -> j ≠ kk := fun j hj e => by
  subst e
  rcases hj with rfl | rfl | rfl | ⟨u, hu, rfl⟩
  ·omega
  ·exact hkk.2.1 rfl
  ·exact hkk.2.2 rfl
  ·have := (QaX hK hu).1; omega
 have eqkk : ∀ j, j ≠ kk -> (j == kk) = false := fun j hj => by simp [hj]
 have some1 : ∀ b j, (j = 500000 \/ j = 12 \/ j = 4 \/ ∃ u ∈ us, j = u.k) -> (lk ((500001 + i, b) :: wA us eu ec eg L J b4) j).isSome = true := fun b j hj => QS (Qip hK hj)
 have rowsz : ∀ r ∈ us[i].cs.map dCR, r.map (D.fzS H (· == kk)) = r := fun r hr => by
  obtain ⟨z, hzm, rfl⟩ := List.mem_map.1 hr
  exact YV fun d hd => Qdq fun j hj => by rw [(hoth z hzm).all d hd] at hj; cases hj
 have mapz : ((us[i].cs.map dCR).set k row).map (fun r => r.map (D.fzS H (· == kk))) = (us[i].cs.map dCR).set k (row.map (D.fzS H (· == kk))) := by
  refine List.ext_getElem (by simp) fun j h1 h2 => ?_
  simp only [List.getElem_map, List.getElem_set]
  split
  ·rfl
  ·exact rowsz _ (List.mem_map_of_mem (List.getElem_mem _))
 refine le_trans (Qbv l fr H) (le_trans (Qmg kk (H' := (500001 + i, ⟨(us[i].cs.map dCR).set k (row.map (D.fzS H (· == kk))), 8, ec, p⟩) :: wA us eu ec eg L J b4) (by omega) (fr' := Zc l fr) (fun t d h => ⟨d, h, QiL fun j hj => eqkk j (nokk j (hfr (t, d) (YC h) j hj))⟩) (fun j b h => ?_) (fun t d h j hj => some1 _ j (hfr (t, d) (YC h) j hj)) (fun j b h j2 hj2 => ?_) fun j hj hs => ?_) ?_)
 ·rw [Ql] at h
  split at h
  ·rename_i e; cases h; subst e
   refine ⟨by omega, _, hKi, ?_⟩
   cases p with
   | true => rw [hp rfl]; rfl
   | false => show Box.mk _ _ _ _ = _; rw [mapz]
  ·rename_i e
   rcases Qa7 hK h with ⟨rfl, rfl⟩ | ⟨rfl, rfl⟩ | ⟨rfl, rfl⟩ | ⟨i2, hi2, rfl, rfl⟩
   ·refine ⟨by omega, _, hu, X0 (.inr fun j hj => eqkk j (nokk j (.inr (.inr (.inr (Qa6 hj))))))⟩
   ·exact ⟨Ne.symm hkk.2.1, _, hg, rfl⟩
   ·exact ⟨Ne.symm hkk.2.2, _, h4, X0 (.inl hb4)⟩
   ·exact ⟨by omega, _, hF i2 hi2 (fun e2 => e (by omega)), rfl⟩
 ·rw [Ql] at h
  split at h
  ·cases h
   cases hpp : p with
   | true => rw [XX hpp] at hj2; cases hj2
   | false =>
   simp only [Box.ids, hpp, Bool.false_eq_true, if_false, List.mem_flatMap] at hj2
   obtain ⟨r, hr, d, hd, hj3⟩ := hj2
   rcases Qdu hr with rfl | hr
   ·have : (d.canS).sid = [] := hz.all _ (by rw [<- hrow]; exact List.mem_map_of_mem hd)
    rw [QbJ] at this
    rw [this] at hj3; cases hj3
   ·obtain ⟨z, hzm, rfl⟩ := List.mem_map.1 hr
    rw [(hoth z hzm).all d hd] at hj3; cases hj3
  ·exact QS (Qac hK hb4 j b h j2 hj2)
 ·rw [hsm j hj] at hs; cases hs
 ·refine le_trans (Qlx k Qw) (le_trans (QhZ Qw (fun e => ?_) (fun r hr d hd => ?_)) (QaY rfl fun j => ?_))
  ·have := congrArg List.length e
   simp only [List.length_modify, List.length_set, List.length_map, List.length_nil] at this
   omega
  ·rcases QaG hr with h | ⟨y, hy, rfl⟩
   ·rcases Qdu h with rfl | h
    ·have : (d.canS).sid = [] := hz.all _ (by rw [<- hrow]; exact List.mem_map_of_mem hd)
     rwa [QbJ] at this
    ·obtain ⟨z, hzm, rfl⟩ := List.mem_map.1 h
     exact (hoth z hzm).all d hd
   ·obtain ⟨d0, hd0, rfl⟩ := List.mem_map.1 hd
    rw [QbJ]
    rcases Qdu hy with rfl | h
    ·have : (d0.canS).sid = [] := hz.all _ (by rw [<- hrow]; exact List.mem_map_of_mem hd0)
     rwa [QbJ] at this
    ·obtain ⟨z, hzm, rfl⟩ := List.mem_map.1 h
     exact (hoth z hzm).all d0 hd0
  ·have erows : ((us[i].cs.map dCR).set k (row.map (D.fzS H (· == kk)))).modify k (fun r => r.map D.canS) = ((us[i].cs.set k z').map dCR) := by
    refine List.ext_getElem (by simp) fun m h1 h2 => ?_
    simp only [List.getElem_modify, List.getElem_set, List.getElem_map]
    by_cases e : k = m
    ·subst e
     simp only [if_true]
     exact hrow
    ·simp only [if_neg e]
   have hK' := Qdb (i := i) (k := k) (z := z') hK
   by_cases e : 500001 + i = j
   ·subst e
    rw [Qw, Qcr hK' (by rw [Zs]; exact hi)]
    simp only [Qaz hi, if_true, erows]; rfl
   ·rw [Ql, if_neg e, Ql, if_neg e, Ql, if_neg e]
    cases h : lk (wA us eu ec eg L J b4) j with
    | none =>
     cases h' : lk (wA (QbT us i k z') eu ec eg L J b4) j with
     | none => rfl
     | some b =>
      have : (lk (wA us eu ec eg L J b4) j).isSome = true := by
       rcases Qa7 hK' h' with ⟨rfl, _⟩ | ⟨rfl, _⟩ | ⟨rfl, _⟩ | ⟨m, hm, rfl, _⟩
       ·rfl
       ·rfl
       ·rfl
       ·rw [Zs] at hm; rw [Qcr hK hm]; rfl
      rw [h] at this; cases this
    | some b =>
     rcases Qa7 hK h with ⟨rfl, rfl⟩ | ⟨rfl, rfl⟩ | ⟨rfl, rfl⟩ | ⟨m, hm, rfl, rfl⟩
     ·rw [Qd4, Qi9]
     ·rfl
     ·rfl
     ·rw [Qcr hK' (by rw [Zs]; exact hm)]
      simp only [Qaz hm, if_neg (show ¬ i = m by omega)]
end
theorem QcT : ∀ {H : List (Nat × Box)} {j : Nat}, j ∈ H.map Prod.fst -> (lk H j).isSome = true
 | [], _, h => by cases h
 | (k, b) :: H, j, h => by
  by_cases e : k = j
  ·subst e; exact QV
  ·refine QS (QcT ?_)
   simp only [List.map_cons, List.mem_cons] at h
   exact h.resolve_left (Ne.symm e)
theorem Ql3 {us : List UR} (h : Z4 us) {i : Nat} (hi : i < us.length) : (us.map dUR)[((i : Nat) : Int).toNat]? = some [.str us[i].n, .str us[i].f, .osl (500001 + i) us[i].cs.length] := by
 rw [Int.toNat_natCast, List.getElem?_map, List.getElem?_eq_getElem hi, Option.map_some, dUR, h i hi]
theorem QoD {cs : List CR} {k : Nat} (hk : k < cs.length) : (cs.map dCR)[((k : Nat) : Int).toNat]? = some (dCR cs[k]) := by
 rw [Int.toNat_natCast, List.getElem?_map, List.getElem?_eq_getElem hk]; rfl
theorem Qil {us : List UR} {eu ec eg : Nat} {L : List Int} {J : Int} {b4 g1 : Box} (h : Z4 us) (k : Nat) : lk (((500000, (⟨us.map dUR, 3, eu, false⟩ : Box)) :: fbx ec us) ++ ([(12, gB L J eg)] ++ [(12, g1), (4, b4)])) k = lk (wA us eu ec eg L J b4) k := by
 show lk ((500000, _) :: (fbx ec us ++ [(12, gB L J eg), (12, g1), (4, b4)])) k = lk ((500000, _) :: (12, _) :: (4, _) :: fbx ec us) k
 rw [Ql, Ql]
 split
 ·rfl
 ·rw [ZV]
  cases hh : lk (fbx ec us) k with
  | some v =>
   have := QfZ h k v hh
   simp only
   rw [Ql, if_neg (by omega), Ql, if_neg (by omega), hh]
  | none =>
   simp only [Ql, hh]
   by_cases e : 12 = k
   ·rw [if_pos e, if_pos e]
   ·rw [if_neg e, if_neg e, if_neg e]; rfl
theorem Qjc {us : List UR} {eu ec eg : Nat} {L : List Int} {J : Int} {b4 : Box} (h : Z4 us) (hv : ∀ y ∈ us, y.cs.length <= 16 /\ ∀ z ∈ y.cs, Qdi z.v) : Fam (wA us eu ec eg L J b4) 12 500000 eu ec us := by
 refine ⟨by decide, ⟨false, rfl⟩, fun y hy => ?_, hv⟩
 obtain ⟨j, hj, rfl⟩ := List.getElem_of_mem hy
 refine ⟨by rw [h j hj]; omega, true, by rw [h j hj]; exact Qcr h hj⟩
/-! ### Filled candidates -/
def QmF (n : Nat) (x : WantT) : Prop := 0 <= x.u /\ x.u < n /\ SetOk x.s
theorem WantIn.w {n : Nat} {x : WantT} (h : WantIn n x) : QmF n x := ⟨by have := h.1; omega, h.2.1, h.2.2⟩
structure Qaf (n : Nat) (c : CandT) : Prop where
 v : Qdi c.v
 nl : c.ns.length <= 10
 nr : ∀ r ∈ c.ns, r.length <= 2 /\ ∀ x ∈ r, QmF n x
 bl : c.bs.length <= 1
 bw : ∀ x ∈ c.bs, QmF n x
def QgB (c : CandT) : CR := ⟨c.v, .int .i64 c.sh, QR c.ns, Q6 c.bs⟩
def DoneC (n : Nat) (z : CR) : Prop := ∃ c, z = QgB c /\ Qaf n c
def FreshC (z : CR) : Prop := ∃ v sh, z = zr v sh /\ Qdi v
theorem DoneC.pure {n : Nat} {z : CR} (h : DoneC n z) : PureC z := by obtain ⟨c, rfl, _⟩ := h; exact ⟨rfl, rfl, rfl⟩
theorem FreshC.pure {z : CR} (h : FreshC z) : PureC z := by obtain ⟨v, sh, rfl, _⟩ := h; exact ⟨rfl, rfl, rfl⟩
theorem DoneC.vr {n : Nat} {z : CR} (h : DoneC n z) : Qdi z.v := by obtain ⟨c, rfl, q⟩ := h; exact q.v
theorem FreshC.vr {z : CR} (h : FreshC z) : Qdi z.v := by obtain ⟨v, sh, rfl, q⟩ := h; exact q
structure Prog (n : Nat) (us : List UR) (i k : Nat) : Prop where
 keys : Z4 us
 len : us.length = n /\ 2 <= n /\ n <= 11
 cl : ∀ u ∈ us, u.cs.length <= 4
 done : ∀ j, ∀ hj : j < us.length, ∀ m, ∀ hm : m < us[j].cs.length, (j < i \/ (j = i /\ m < k)) -> DoneC n us[j].cs[m]
 fresh : ∀ j, ∀ hj : j < us.length, ∀ m, ∀ hm : m < us[j].cs.length, ¬ (j < i \/ (j = i /\ m < k)) -> FreshC us[j].cs[m]
theorem Prog.pure {n : Nat} {us : List UR} {i k : Nat} (h : Prog n us i k) {j : Nat} (hj : j < us.length) : ∀ z ∈ us[j].cs, PureC z /\ Qdi z.v := fun z hz => by
 obtain ⟨m, hm, rfl⟩ := List.getElem_of_mem hz
 by_cases hd : j < i \/ (j = i /\ m < k)
 ·exact ⟨(h.done j hj m hm hd).pure, (h.done j hj m hm hd).vr⟩
 ·exact ⟨(h.fresh j hj m hm hd).pure, (h.fresh j hj m hm hd).vr⟩
theorem Prog.fam {n : Nat} {us : List UR} {i k : Nat} (h : Prog n us i k) : ∀ y ∈ us, y.cs.length <= 16 /\ ∀ z ∈ y.cs, Qdi z.v := fun y hy => by
 obtain ⟨j, hj, rfl⟩ := List.getElem_of_mem hy
 exact ⟨Nat.le_trans (h.cl _ hy) (by omega), fun z hz => (h.pure hj z hz).2⟩
theorem Prog.put {n : Nat} {us : List UR} {i k : Nat} (h : Prog n us i k) (hi : i < us.length) (hk : k < us[i].cs.length) {z : CR} (hz : DoneC n z) : Prog n (QbT us i k z) i (k + 1) := by
 have at' := fun (j : Nat) (hj : j < us.length) => Qaz (i := i) (k := k) (z := z) hj
 refine ⟨Qdb h.keys, by rw [Zs]; exact h.len, fun u hu => ?_, fun j hj m hm hd => ?_, fun j hj m hm hd => ?_⟩
 ·obtain ⟨j, hj, rfl⟩ := List.getElem_of_mem hu
  rw [Zs] at hj
  rw [at' j hj]
  split
  ·simp only [QdB, List.length_set]; exact h.cl _ (List.getElem_mem _)
  ·exact h.cl _ (List.getElem_mem _)
 ·rw [Zs] at hj
  have e := at' j hj
  by_cases hij : i = j
  ·subst hij
   rw [if_pos rfl] at e
   have hm' : m < (QdB us[i] k z).cs.length := by rw [<- e]; exact hm
   have e2 : (QbT us i k z)[i].cs[m] = (QdB us[i] k z).cs[m]'hm' := by congr 1; rw [e]
   rw [e2]
   simp only [QdB, List.getElem_set]
   split
   ·exact hz
   ·simp only [QdB, List.length_set] at hm'
    exact h.done i hi m hm' (by omega)
  ·rw [if_neg hij] at e
   have hm' : m < us[j].cs.length := by rw [<- e]; exact hm
   have e2 : (QbT us i k z)[j].cs[m] = us[j].cs[m]'hm' := by congr 1; rw [e]
   rw [e2]; exact h.done j hj m hm' (by omega)
 ·rw [Zs] at hj
  have e := at' j hj
  by_cases hij : i = j
  ·subst hij
   rw [if_pos rfl] at e
   have hm' : m < (QdB us[i] k z).cs.length := by rw [<- e]; exact hm
   have e2 : (QbT us i k z)[i].cs[m] = (QdB us[i] k z).cs[m]'hm' := by congr 1; rw [e]
   rw [e2]
   simp only [QdB, List.length_set] at hm'
   simp only [QdB, List.getElem_set]
   rw [if_neg (by omega)]
   exact h.fresh i hi m hm' (by omega)
  ·rw [if_neg hij] at e
   have hm' : m < us[j].cs.length := by rw [<- e]; exact hm
   have e2 : (QbT us i k z)[j].cs[m] = us[j].cs[m]'hm' := by congr 1; rw [e]
   rw [e2]; exact h.fresh j hj m hm' (by omega)
theorem Prog.next {n : Nat} {us : List UR} {i k : Nat} (h : Prog n us i k) (hi : i < us.length) (hk : us[i].cs.length <= k) : Prog n us (i + 1) 0 := by
 refine ⟨h.keys, h.len, h.cl, fun j hj m hm hd => h.done j hj m hm ?_, fun j hj m hm hd => h.fresh j hj m hm (by omega)⟩
 by_cases e : j = i
 ·subst e; exact .inr ⟨rfl, by omega⟩
 ·exact .inl (by omega)
theorem Prog.again {n : Nat} {us : List UR} {i k : Nat} (h : Prog n us i (k + 1)) (hi : i < us.length) (hk : k < us[i].cs.length) {z : CR} (hz : DoneC n z) : Prog n (QbT us i k z) i (k + 1) := by
 have at' := fun (j : Nat) (hj : j < us.length) => Qaz (i := i) (k := k) (z := z) hj
 refine ⟨Qdb h.keys, by rw [Zs]; exact h.len, fun u hu => ?_, fun j hj m hm hd => ?_, fun j hj m hm hd => ?_⟩
 ·obtain ⟨j, hj, rfl⟩ := List.getElem_of_mem hu
  rw [Zs] at hj
  rw [at' j hj]
  split
  ·simp only [QdB, List.length_set]; exact h.cl _ (List.getElem_mem _)
  ·exact h.cl _ (List.getElem_mem _)
 ·rw [Zs] at hj
  have e := at' j hj
  by_cases hij : i = j
  ·subst hij
   rw [if_pos rfl] at e
   have hm' : m < (QdB us[i] k z).cs.length := by rw [<- e]; exact hm
   have e2 : (QbT us i k z)[i].cs[m] = (QdB us[i] k z).cs[m]'hm' := by congr 1; rw [e]
   rw [e2]
   simp only [QdB, List.getElem_set]
   split
   ·exact hz
   ·simp only [QdB, List.length_set] at hm'
    exact h.done i hi m hm' (by omega)
  ·rw [if_neg hij] at e
   have hm' : m < us[j].cs.length := by rw [<- e]; exact hm
   have e2 : (QbT us i k z)[j].cs[m] = us[j].cs[m]'hm' := by congr 1; rw [e]
   rw [e2]; exact h.done j hj m hm' (by omega)
 ·rw [Zs] at hj
  have e := at' j hj
  by_cases hij : i = j
  ·subst hij
   rw [if_pos rfl] at e
   have hm' : m < (QdB us[i] k z).cs.length := by rw [<- e]; exact hm
   have e2 : (QbT us i k z)[i].cs[m] = (QdB us[i] k z).cs[m]'hm' := by congr 1; rw [e]
   rw [e2]
   simp only [QdB, List.length_set] at hm'
   simp only [QdB, List.getElem_set]
   rw [if_neg (by omega)]
   exact h.fresh i hi m hm' (by omega)
  ·rw [if_neg hij] at e
   have hm' : m < us[j].cs.length := by rw [<- e]; exact hm
   have e2 : (QbT us i k z)[j].cs[m] = us[j].cs[m]'hm' := by congr 1; rw [e]
   rw [e2]; exact h.fresh j hj m hm' (by omega)
theorem Qki {l : List Nat} {fr fr1 fr' : List (Nat × D)} {us : List UR} {eu ec eg e1 e3 : Nat} {L : List Int} {J : Int} {b4 bK : Box} {i : Nat} {x : WantT} (hf : Zc l fr = fr1) (ef : fr1 = fr') (hK : Z4 us) (hi : i < us.length) (hb4 : b4.pr = true) (hbK : ∀ j ∈ bK.ids, j = 64)
  (hfr : ∀ p ∈ fr', ∀ j ∈ p.2.ids, j = 500000 \/ j = 12 \/ j = 4 \/ ∃ u ∈ us, j = u.k) :
  St.le ⟨fr, (500001 + i, bK) :: (64, ⟨[[.osl 63 1]], 1, e1, false⟩) :: (63, ⟨[Qe4 x], 3, e3, true⟩) :: wA us eu ec eg L J b4⟩ ⟨fr', (500001 + i, bK) :: (64, ⟨[[Q6 [x]]], 1, e1, true⟩) :: wA us eu ec eg L J b4⟩ := by
 subst hf ef
 have no63 : ∀ j, (j = 500000 \/ j = 12 \/ j = 4 \/ ∃ u ∈ us, j = u.k) -> j ≠ 63 := fun j hj e => by
  subst e
  rcases hj with h | h | h | ⟨u, hu, h⟩
  ·cases h
  ·cases h
  ·cases h
  ·have := (QaX hK hu).1; omega
 have eq63 : ∀ j, j ≠ 63 -> (j == 63) = false := fun j hj => by simp [hj]
 have up : ∀ b b' j, (lk (wA us eu ec eg L J b4) j).isSome = true -> (lk ((500001 + i, b) :: (64, b') :: wA us eu ec eg L J b4) j).isSome = true := fun b b' j hj => QS (QS hj)
 refine le_trans (Qbv l fr _) (le_trans (Qmg 63 (H' := (500001 + i, bK) :: (64, ⟨[[Q6 [x]]], 1, e1, false⟩) :: wA us eu ec eg L J b4) (by decide) (fr' := Zc l fr) (fun t d h => ⟨d, h, QiL fun j hj => eq63 j (no63 j (hfr (t, d) (YC h) j hj))⟩) (fun j b h => ?_) (fun t d h j hj => up _ _ j (Qip hK (hfr (t, d) (YC h) j hj))) (fun j b h j2 hj2 => ?_) fun j hj hs => ?_) ?_)
 ·rw [Ql] at h
  split at h
  ·rename_i e; cases h; subst e
   refine ⟨by omega, _, Qw, X0 (.inr fun j hj => ?_)⟩
   rw [hbK j hj]; rfl
  ·rename_i e
   rw [Ql] at h
   split at h
   ·rename_i e2; cases h; subst e2
    refine ⟨by decide, _, Qi e Qw, ?_⟩
    have h63 : lk ((500001 + i, bK) :: (64, (⟨[[.osl 63 1]], 1, e1, false⟩ : Box)) :: (63, ⟨[Qe4 x], 3, e3, true⟩) :: wA us eu ec eg L J b4) 63 = some ⟨[Qe4 x], 3, e3, true⟩ := Qi (by omega) (Qi (by decide) Qw)
    simp only [Box.fz, Bool.false_eq_true, if_false, List.map_cons, List.map_nil, D.fzS, beq_self_eq_true, if_true, h63, List.length_singleton, and_self, Q6]
   ·rename_i e2
    have h2 : lk ((500001 + i, bK) :: (64, (⟨[[.osl 63 1]], 1, e1, false⟩ : Box)) :: (63, ⟨[Qe4 x], 3, e3, true⟩) :: wA us eu ec eg L J b4) j = some b := by
     have hj : j ≠ 63 := by
      rcases Qa7 hK h with ⟨rfl, _⟩ | ⟨rfl, _⟩ | ⟨rfl, _⟩ | ⟨m, _, rfl, _⟩ <;> omega
     exact Qi e (Qi e2 (Qi (Ne.symm hj) h))
    rcases Qa7 hK h with ⟨rfl, rfl⟩ | ⟨rfl, rfl⟩ | ⟨rfl, rfl⟩ | ⟨m, hm, rfl, rfl⟩
    ·exact ⟨by decide, _, h2, X0 (.inr fun j hj => eq63 j (no63 j (.inr (.inr (.inr (Qa6 hj))))))⟩
    ·exact ⟨by decide, _, h2, rfl⟩
    ·exact ⟨by decide, _, h2, X0 (.inl hb4)⟩
    ·exact ⟨by omega, _, h2, rfl⟩
 ·rw [Ql] at h
  split at h
  ·cases h
   rw [hbK j2 hj2]; exact QS QV
  ·rw [Ql] at h
   split at h
   ·cases h; simp [Box.ids, D.sid, Q6] at hj2
   ·exact up _ _ j2 (Qac hK hb4 j b h j2 hj2)
 ·by_cases e : 500001 + i = j
  ·subst e; exact QV
  ·rw [Ql, if_neg e, Ql, if_neg (by omega), Ql, if_neg (by omega)] at hs
   exact up _ _ j hs
 ·have h64 : lk ((500001 + i, bK) :: (64, (⟨[[Q6 [x]]], 1, e1, false⟩ : Box)) :: wA us eu ec eg L J b4) 64 = some ⟨[[Q6 [x]]], 1, e1, false⟩ := Qi (by omega) Qw
  refine le_trans (QhZ h64 (by simp) (by intro r hr d hd; simp only [List.mem_singleton] at hr; subst hr; simp only [List.mem_singleton] at hd; subst hd; rfl)) (QaY rfl fun j => ?_)
  by_cases e : 64 = j
  ·subst e; rw [Qw, Ql, if_neg (by omega), Qw]
  ·by_cases eK : 500001 + i = j
   ·subst eK; rw [Ql, if_neg e, Qw, Qw]
   ·rw [Ql, if_neg e, Ql, if_neg eK, Ql, if_neg e, Ql, if_neg eK, Ql, if_neg e]
theorem QjX {n : Nat} : ∀ {cs : List CR}, (∀ z ∈ cs, DoneC n z) -> ∃ l : List CandT, cs = l.map QgB /\ ∀ c ∈ l, Qaf n c
 | [], _ => ⟨[], rfl, by simp⟩
 | z :: cs, h => by
  obtain ⟨l, h1, h2⟩ := QjX (cs := cs) fun y hy => h y (by simp [hy])
  obtain ⟨c, rfl, hc⟩ := h z (by simp)
  exact ⟨c :: l, by rw [h1]; rfl, fun y hy => by
   rcases List.mem_cons.1 hy with rfl | hy
   ·exact hc
   ·exact h2 y hy⟩
def QnL (n : Nat) (u : UR) (x : Ys) : Prop := x.n = u.n /\ x.f = u.f /\ u.cs = x.cs.map QgB /\ ∀ c ∈ x.cs, Qaf n c
theorem QjY {n : Nat} : ∀ {us : List UR}, (∀ u ∈ us, ∀ z ∈ u.cs, DoneC n z) -> ∃ w : Q5, w.length = us.length /\ ∀ j, ∀ h : j < us.length, ∀ h' : j < w.length, QnL n us[j] w[j]
 | [], _ => ⟨[], rfl, fun j h => by simp at h⟩
 | u :: us, h => by
  obtain ⟨w, h1, h2⟩ := QjY (us := us) fun y hy => h y (by simp [hy])
  obtain ⟨l, q1, q2⟩ := QjX (h u (by simp))
  refine ⟨⟨u.n, u.f, l⟩ :: w, by simp [h1], fun j hj hj' => ?_⟩
  cases j with
  | zero => exact ⟨rfl, rfl, q1, q2⟩
  | succ j => simp only [List.getElem_cons_succ]; exact h2 j (by simpa using hj) (by simpa using hj')
structure Qld (w : Q5) : Prop where
 sm : WSm w
 len : 2 <= w.length /\ w.length <= 11
 cs : ∀ u ∈ w, u.cs.length <= 4
 cand : ∀ u ∈ w, ∀ c ∈ u.cs, Qaf w.length c
theorem Qm1 {w : Q5} (h2 : 2 <= w.length) (h11 : w.length <= 11) (hc : ∀ u ∈ w, u.cs.length <= 4) (hd : ∀ u ∈ w, ∀ c ∈ u.cs, Qaf w.length c) : Qld w := by
 refine ⟨⟨by omega, fun u hu => Nat.le_trans (hc u hu) (by omega), fun u hu c hcm => (hd u hu c hcm).v, fun u hu c hcm => ⟨Nat.le_trans (hd u hu c hcm).nl (by omega), Nat.le_trans (hd u hu c hcm).bl (by omega)⟩, fun u hu c hcm r hr => Nat.le_trans ((hd u hu c hcm).nr r hr).1 (by omega), fun u hu c hcm r hr x hx => (((hd u hu c hcm).nr r hr).2 x hx).2.2.sm, fun u hu c hcm x hx => ((hd u hu c hcm).bw x hx).2.2.sm⟩, ⟨h2, h11⟩, hc, hd⟩
theorem Qly {n : Nat} {us : List UR} {eu ec eg : Nat} {L : List Int} {J : Int} {b4 : Box} {k : Nat} (h : Prog n us us.length k) (hb4 : b4.pr = true) :
  ∃ w : Q5, w.length = us.length /\ Qld w /\ ∀ {l : List Nat} {fr fr1 fr' : List (Nat × D)}, Zc l fr = fr1 -> fr1 = fr' -> (∀ p ∈ fr', ∀ j ∈ p.2.ids, j = 500000 \/ j = 4) -> St.le ⟨fr, wA us eu ec eg L J b4⟩ ⟨fr', [(500000, ⟨w.map YU, 3, eu, true⟩), (4, b4)]⟩ := by
 obtain ⟨w, hw1, hw2⟩ := QjY (n := n) (us := us) fun u hu z hz => by
  obtain ⟨j, hj, rfl⟩ := List.getElem_of_mem hu
  obtain ⟨m, hm, rfl⟩ := List.getElem_of_mem hz
  exact h.done j hj m hm (.inl hj)
 have hcs : ∀ u ∈ w, u.cs.length <= 4 /\ ∀ c ∈ u.cs, Qaf n c := fun u hu => by
  obtain ⟨j, hj, rfl⟩ := List.getElem_of_mem hu
  obtain ⟨_, _, q3, q4⟩ := hw2 j (by omega) hj
  have := h.cl us[j] (List.getElem_mem _)
  rw [q3, List.length_map] at this
  exact ⟨this, q4⟩
 have hlen := h.len
 refine ⟨w, hw1, Qm1 (by omega) (by omega) (fun u hu => (hcs u hu).1) (fun u hu c hc => by have := (hcs u hu).2 c hc; rwa [show w.length = n by omega]), ?_⟩
 intro l fr fr1 fr' hf ef hfr
 subst hf ef
 have hK := h.keys
 let S : Nat -> Bool := fun k => decide (500001 <= k) && decide (k < 1000000)
 have hS1 : ∀ k, k < 500001 -> S k = false := fun k hk => by
  show (decide (500001 <= k) && decide (k < 1000000)) = false
  rw [decide_eq_false (by omega)]; rfl
 have hS2 : ∀ k, 500001 <= k -> k < 1000000 -> S k = true := fun k h1 h2 => by
  show (decide (500001 <= k) && decide (k < 1000000)) = true
  rw [decide_eq_true h1, decide_eq_true h2]; rfl
 have hrow : ∀ j, ∀ h1 : j < us.length, ∀ h2 : j < w.length, (dUR us[j]).map (D.fzS (wA us eu ec eg L J b4) S) = YU w[j] := fun j h1 h2 => by
  obtain ⟨q1, q2, q3, q4⟩ := hw2 j h1 h2
  have hk := hK j h1
  have hc := Qcr (eu := eu) (ec := ec) (eg := eg) (L := L) (J := J) (b4 := b4) hK h1
  generalize us[j] = u at q1 q2 q3 hk hc
  generalize w[j] = x at q1 q2 q3 q4
  obtain ⟨un, uf, uk, ucs⟩ := u
  simp only at q1 q2 q3 hk hc
  subst hk q3
  simp only [dUR, YU, List.map_cons, List.map_nil, D.fzS]
  rw [hS2 _ (by omega) (by omega), hc]
  simp only [if_true, true_and, List.length_map, q1, q2, QiC, List.map_map]
  rfl
 have hrows : (us.map dUR).map (fun r => r.map (D.fzS (wA us eu ec eg L J b4) S)) = w.map YU := by
  refine List.ext_getElem (by simp [hw1]) fun j h1 h2 => ?_
  simp only [List.getElem_map]
  exact hrow j (by simpa using h1) (by simpa using h2)
 refine le_trans (Qbv l fr _) (le_trans (QmW S (fun k hk => by
  simp only [S, Bool.and_eq_true, decide_eq_true_eq] at hk; exact hk.2) (fr' := Zc l fr) (H' := [(500000, ⟨w.map YU, 3, eu, false⟩), (4, b4)]) (fun t d hd => ⟨d, hd, QiL fun j hj => ?_⟩) (fun j b hj => ?_) (fun t d hd j hj => ?_) (fun j b hb i hi => ?_) fun j hj hs => ?_) (le_trans (QhZ (k := 500000) (b := ⟨w.map YU, 3, eu, false⟩) rfl (fun e => ?_) (fun r hr d hd => ?_)) (QaY rfl fun j => ?_)))
 ·rcases hfr (t, d) (YC hd) j hj with rfl | rfl
  ·exact hS1 _ (by decide)
  ·exact hS1 _ (by decide)
 ·rw [Ql] at hj
  split at hj
  ·rename_i e; cases hj; subst e
   refine ⟨hS1 _ (by decide), _, Qd4, ?_⟩
   simp only [Box.fz, Bool.false_eq_true, if_false, hrows]
  ·rw [Ql] at hj
   split at hj
   ·rename_i e; cases hj; subst e
    exact ⟨hS1 _ (by decide), _, Qe0, X0 (.inl hb4)⟩
   ·cases hj
 ·rcases hfr (t, d) (YC hd) j hj with rfl | rfl
  ·rfl
  ·rfl
 ·rw [Ql] at hb
  split at hb
  ·cases hb
   simp only [Box.ids, Bool.false_eq_true, if_false, List.mem_flatMap, List.mem_map] at hi
   obtain ⟨r, ⟨u, _, rfl⟩, d, hd, hi⟩ := hi
   simp only [YU, List.mem_cons, List.not_mem_nil, or_false] at hd
   rcases hd with rfl | rfl | rfl <;> simp [D.sid, QiC] at hi
  ·rw [Ql] at hb
   split at hb
   ·cases hb; rw [XX hb4] at hi; cases hi
   ·cases hb
 ·obtain ⟨b, hb⟩ := Option.isSome_iff_exists.1 hs
  rcases Qa7 hK hb with ⟨rfl, _⟩ | ⟨rfl, _⟩ | ⟨rfl, _⟩ | ⟨m, hm, rfl, _⟩ <;> omega
 ·have := congrArg List.length e
  simp only [List.length_map, List.length_nil] at this
  omega
 ·obtain ⟨u, _, rfl⟩ := List.mem_map.1 hr
  simp only [YU, List.mem_cons, List.not_mem_nil, or_false] at hd
  rcases hd with rfl | rfl | rfl <;> rfl
 ·by_cases e : 500000 = j
  ·subst e; rfl
  ·rw [Ql, if_neg e, Ql, if_neg e]; rw [Ql (k := 500000), if_neg e]
def QhR (us : List UR) (i : Nat) : Nat := match us[i]? with
 | some u => u.cs.length
 | none => 0
theorem Qau {us : List UR} {i : Nat} (h : i < us.length) : QhR us i = us[i].cs.length := by rw [QhR, List.getElem?_eq_getElem h]
theorem Qal (us : List UR) (i k : Nat) (z : CR) : QhR (QbT us i k z) i = QhR us i := by
 by_cases h : i < us.length
 ·rw [Qau h, Qau (by rw [Zs]; exact h), Qaz h, if_pos rfl]
  simp [QdB]
 ·have e : (QbT us i k z).length = us.length := Zs ..
  rw [QhR, QhR, List.getElem?_eq_none (show us.length <= i by omega), List.getElem?_eq_none (show (QbT us i k z).length <= i by omega)]
theorem Qhy {us : List UR} {i k : Nat} {z : CR} (hi : i < us.length) (hk : k < us[i].cs.length) {us2 : List UR} (e : us2 = QbT us i k z) (hi2 : i < us2.length) (hk2 : k < us2[i].cs.length) : us2[i].cs[k] = z := by
 subst e
 have e1 := Qaz (i := i) (k := k) (z := z) hi
 rw [if_pos rfl] at e1
 have e2 : (QbT us i k z)[i].cs[k] = (QdB us[i] k z).cs[k]'(by simpa [QdB] using hk) := by congr 1; rw [e1]
 rw [e2]; simp [QdB]
theorem QmR {cs : List CR} {k : Nat} {z : CR} (hk : k < cs.length) (hz : cs[k] = z) : (cs.map dCR)[((k : Nat) : Int).toNat]? = some (dCR z) := by rw [QoD hk, hz]
theorem Qmu {cs : List CR} {k : Nat} {row : List D} (hk : k < cs.length) : ((cs.map dCR).set ((k : Nat) : Int).toNat row)[((k : Nat) : Int).toNat]? = some row := by
 rw [Int.toNat_natCast, List.getElem?_set_self (by simpa using hk)]
theorem Qhd {K k e t : Nat} {L : List (List D)} {r1 r2 : List D} {p : Bool} {H : List (Nat × Box)} : lk ((K, (⟨(L.set k r1).set k r2, e, t, p⟩ : Box)) :: H) K = some ⟨L.set k r2, e, t, p⟩ := by rw [Qw, List.set_set]
theorem QdV {H : List (Nat × Box)} {kk m e t : Nat} {ys : List (List D)} {v : Vr} {sh : Int} (h : lk H kk = some ⟨ys, e, t, true⟩) (hm : m = ys.length) : ([D.int .i64 v.a, .int .i64 v.b, .int .i64 v.c, .str v.p, .str v.q, .int .i64 sh, .osl kk m, .fsl []].map (D.fzS H (· == kk))).map D.canS = [.int .i64 v.a, .int .i64 v.b, .int .i64 v.c, .str v.p, .str v.q, .int .i64 sh, .sl ys, .sl []] := by
 simp only [List.map_cons, List.map_nil, D.fzS, beq_self_eq_true, if_true, h, hm, and_self, D.canS]
theorem Qj6 {H : List (Nat × Box)} {kk m e t : Nat} {ys : List (List D)} {v : Vr} {sh : Int} {ns : List (List WantT)} (h : lk H kk = some ⟨ys, e, t, true⟩) (hm : m = ys.length) : ([D.int .i64 v.a, .int .i64 v.b, .int .i64 v.c, .str v.p, .str v.q, .int .i64 sh, QR ns, .osl kk m].map (D.fzS H (· == kk))).map D.canS = [.int .i64 v.a, .int .i64 v.b, .int .i64 v.c, .str v.p, .str v.q, .int .i64 sh, QR ns, .sl ys] := by
 simp only [QR, List.map_cons, List.map_nil, D.fzS, beq_self_eq_true, if_true, h, hm, and_self, D.canS]
theorem Qoj {us : List UR} {eu ec eg : Nat} {L : List Int} {J J2 : Int} {b4 : Box} (k : Nat) : lk ((12, gB L J2 eg) :: wA us eu ec eg L J b4) k = lk (wA us eu ec eg L J2 b4) k := by
 show lk ((12, _) :: (500000, _) :: (12, _) :: (4, _) :: fbx ec us) k = lk ((500000, _) :: (12, _) :: (4, _) :: fbx ec us) k
 by_cases e : 12 = k
 ·subst e; rfl
 ·rw [Ql, if_neg e, Ql, Ql (k := 500000)]
  split
  ·rfl
  ·rw [Ql, if_neg e, Ql (k := 12), if_neg e]
theorem Qie {cs : List CR} {k e t : Nat} {row : List D} (h : ∀ z ∈ cs, PureC z) (hr : ∀ d ∈ row, ∀ j ∈ d.sid, j = 64) : ∀ j ∈ Box.ids ⟨(cs.map dCR).set k row, e, t, false⟩, j = 64 := fun j hj => by
 simp only [Box.ids, Bool.false_eq_true, if_false, List.mem_flatMap] at hj
 obtain ⟨r, hrm, d, hd, hj⟩ := hj
 rcases Qdu hrm with rfl | hrm
 ·exact hr d hd j hj
 ·obtain ⟨z, hz, rfl⟩ := List.mem_map.1 hrm
  rw [(h z hz).all d hd] at hj; cases hj
theorem Qpa {us : List UR} {eu ec eg : Nat} {L : List Int} {J : Int} {b4 b64 : Box} {n i k : Nat} (h : Prog n us i k) (hi : i < us.length) (hk : k < us[i].cs.length) {zx : CR} (hv : Qdi zx.v) (hrow : zx.x.sid = [] /\ zx.y.sid = [64] /\ zx.z.sid = []) (hb4 : b4.pr = true) (h64 : b64.pr = true) :
  Fam ((500001 + i, ⟨(us[i].cs.map dCR).set k (dCR zx), 8, ec, false⟩) :: (64, b64) :: wA us eu ec eg L J b4) 12 500000 eu ec (QbT us i k zx) /\ Closed ((500001 + i, ⟨(us[i].cs.map dCR).set k (dCR zx), 8, ec, false⟩) :: (64, b64) :: wA us eu ec eg L J b4) := by
 refine ⟨⟨by decide, ⟨false, ?_⟩, fun y hy => ?_, fun y hy => ?_⟩, ?_⟩
 ·rw [Ql, if_neg (by omega), Ql, if_neg (by decide), Qd4, Qi9]
 ·obtain ⟨j, hj, rfl⟩ := List.getElem_of_mem hy
  have hK' := Qdb (i := i) (k := k) (z := zx) h.keys
  have hj' := hj
  rw [Zs] at hj'
  refine ⟨by rw [hK' j hj]; omega, ?_⟩
  rw [hK' j hj]
  by_cases e : i = j
  ·subst e
   refine ⟨false, ?_⟩
   rw [Qw, Qaz hj', if_pos rfl, QdB, List.map_set]
  ·refine ⟨true, ?_⟩
   rw [Ql, if_neg (by omega), Ql, if_neg (by omega), Qcr h.keys hj', Qaz hj', if_neg e]
 ·obtain ⟨j, hj, rfl⟩ := List.getElem_of_mem hy
  have hj' := hj
  rw [Zs] at hj'
  rw [Qaz hj']
  have hfam := h.fam us[j] (List.getElem_mem _)
  split
  ·refine ⟨by simpa [QdB] using hfam.1, fun z hz => ?_⟩
   rcases Qdu hz with rfl | hz
   ·exact hv
   ·exact hfam.2 z hz
  ·exact hfam
 ·refine ((Qac h.keys hb4).pr h64).cons fun j hj => ?_
  have := Qie (e := 8) (t := ec) (k := k) (row := dCR zx) (fun z hz => (h.pure hi z hz).1) (fun d hd j hj => by
   simp only [dCR, List.mem_cons, List.not_mem_nil, or_false] at hd
   rcases hd with rfl | rfl | rfl | rfl | rfl | rfl | rfl | rfl
   ·cases hj
   ·cases hj
   ·cases hj
   ·cases hj
   ·cases hj
   ·rw [hrow.1] at hj; cases hj
   ·rw [hrow.2.1] at hj; simpa using hj
   ·rw [hrow.2.2] at hj; cases hj) j hj
  subst this; exact QV
theorem Prog.start {us : List UR} (h : UnitsIn us) (h2 : 2 <= us.length) (h11 : us.length <= 11) : Prog us.length us 0 0 := by
 refine ⟨h.keys, ⟨rfl, h2, h11⟩, fun u hu => (h.fresh u hu).1, fun j hj m hm hd => by omega, fun j hj m hm _ => ?_⟩
 obtain ⟨v, sh, e, hv⟩ := (h.fresh _ (List.getElem_mem hj)).2 _ (List.getElem_mem hm)
 exact ⟨v, sh, e, hv⟩
theorem Qdo {n : Nat} {m : Int} {v : Vr} {sh : Int} {ns : List (List WantT)} (hv : Qdi v) (h : Qd8 n m ns) (hm : m <= 3) : Qaf n ⟨v, sh, ns, []⟩ :=
 ⟨hv, by show ns.length <= 10; have := h.1; omega, fun r hr => ⟨(h.2 r hr).1, fun x hx => ((h.2 r hr).2 x hx).w⟩, Nat.zero_le _, fun x hx => by cases hx⟩
theorem QgV {n i : Nat} {m : Int} {v : Vr} {sh : Int} {ns : List (List WantT)} (hv : Qdi v) (h : Qd8 n m ns) (hm : m <= 3) (h1 : 1 <= i) (hi : i < n) : Qaf n ⟨v, sh, [⟨(i : Int) - 1, Y8 v.a v.b v.c v.p v.q⟩] :: ns, []⟩ := by
 refine ⟨hv, by show (_ :: ns).length <= 10; have := h.1; simp only [List.length_cons]; omega, fun r hr => ?_, Nat.zero_le _, fun x hx => by cases hx⟩
 rcases List.mem_cons.1 hr with rfl | hr
 ·refine ⟨by simp, fun x hx => ?_⟩
  simp only [List.mem_singleton] at hx; subst hx
  have := QbM (a := v.a) (b := v.b) (c := v.c) (q := v.q) hv.1
  exact ⟨by show 0 <= (i : Int) - 1; omega, by show (i : Int) - 1 < n; omega, this.1.up (by omega), this.2.up (by omega)⟩
 ·exact ⟨(h.2 r hr).1, fun x hx => ((h.2 r hr).2 x hx).w⟩
theorem QgU {n : Nat} {v : Vr} {sh : Int} {ns : List (List WantT)} (h : Qaf n ⟨v, sh, ns, []⟩) {x : WantT} (hx : WantIn n x) : Qaf n ⟨v, sh, ns, [x]⟩ := ⟨h.v, h.nl, h.nr, by simp, by intro y hy; simp only [List.mem_singleton] at hy; subst hy; exact hx.w⟩
theorem Qhz {us : List UR} {i k : Nat} {z : CR} (hi : i < us.length) (hk : k < us[i].cs.length) {us2 : List UR} (e : QbT us i k z = us2) (hi2 : i < us2.length) : k < us2[i].cs.length := by
 rw [<- Qau hi2, <- e, Qal, Qau hi]; exact hk
theorem Qmr {l : List (List WantT)} : ∀ r ∈ l.map (fun r => [Q6 r]), r.length = 1 := fun r hr => by obtain ⟨x, _, rfl⟩ := List.mem_map.1 hr; rfl
end M25
namespace M25
open Go Go.Abs M3
/-! ### Trails that may be -/
end M25
namespace M25
open Go Go.Abs M3
/-! ### What every program says -/
/-! ### A world's facts, and more -/
end M25
namespace M25
open Go Go.Abs M3
/-! ### Powers of two -/
/-! ### Steps that may be: the program's -/
/-! ### Deciding -/
end M25
namespace M25
open Go Go.Abs M3
/-! ### Back, Sure, When -/
/-! ### What valid trails are -/
/-! ### Levels -/
end M25
namespace M25
open Go Go.Abs M3
def QiY {α : Type} (p : α -> Bool) (l : List α) : Int := match l.findIdx? p with
 | some i => i
 | none => -1
theorem XO {α : Type} {p : α -> Bool} {l : List α} {i : Nat} (h : i < l.length) (ha : (l.take i).any p = false) (hp : p l[i] = true) : QiY p l = i := by
 have e : l.findIdx? p = some i := by
  rw [List.findIdx?_eq_some_iff_getElem]
  refine ⟨h, hp, fun j hj => ?_⟩
  have := List.any_eq_false.1 ha l[j] (by
   rw [List.mem_take_iff_getElem]
   exact ⟨j, by omega, rfl⟩)
  simpa using this
 rw [QiY, e]
theorem QiQ {α : Type} {p : α -> Bool} {l : List α} {i : Nat} (h : l.length <= i) (ha : (l.take i).any p = false) : QiY p l = -1 := by
 have e : l.findIdx? p = none := by
  rw [List.findIdx?_eq_none_iff]
  rw [List.take_of_length_le h] at ha
  intro x hx
  simpa using List.any_eq_false.1 ha x hx
 rw [QiY, e]
theorem Qke {α : Type} (p : α -> Bool) (l : List α) : decide (QiY p l >= 0) = l.any p := by
 cases e : l.findIdx? p with
 | none =>
  rw [QiY, e]
  rw [List.findIdx?_eq_none_iff] at e
  have : l.any p = false := List.any_eq_false.2 fun x hx => by simpa using e x hx
  rw [this]; rfl
 | some i =>
  rw [QiY, e]
  rw [List.findIdx?_eq_some_iff_getElem] at e
  obtain ⟨h, hp, _⟩ := e
  rw [QhK h hp]
  simp
/-! ### The first row of lefts -/
end M25
namespace M25
open Go Go.Abs M3
/-! ### When, QgE by QgE -/
/-! ### The Qfg world -/
end M25
namespace M25
open Go Go.Abs M3
/-! ### What a run is: steps, one open after the other -/
inductive Qlc (w : Q5) (db : List (List Qe1)) : List Qbb -> List Qbb -> Prop
 | nil (l : List Qbb) : Qlc w db l l
 | cons {l x : List Qbb} (a k : Nat) (ho : QnA w db l a k) (h : Qlc w db (l ++ [Qo9 w l ((db[a]'ho.ha)[k]'ho.hk) a]) x) : Qlc w db l x
section
variable {w : Q5} {db : List (List Qe1)}
def Below (w : Q5) (b l : List Qbb) : Prop := ∀ u i, tb (Qfa w b u) i = true -> tb (Qfa w l u) i = true
/-! ### Sound: a choice stays -/
end
end M25
namespace M25
open Go Go.Abs M3
end M25
namespace M25
open Go Go.Abs M3
/-! ### More of runs -/
end M25
namespace M25
open Go Go.Abs M3
/-! ### The facts in another order -/
end M25
namespace M25
open Go Go.Abs M3
/-! ### How long a run is -/
structure Good (w : Q5) (l : List Qbb) : Prop where
 p : QnB w l
 nz : ∀ u, inW w u = true -> Qfa w l u ≠ 0
 le : ∀ u i, tb (Qfa w l u) i = true -> tb (QnZ w u) i = true
end M25
namespace M25
open Go Go.Abs M3
/-! ### Masks are of values that there are -/
/-! ### Each QgE of a run -/
end M25
namespace M25
open Go Go.Abs M3
end M25
namespace M25
open Go Go.Abs M3
/-! ### Derive again -/
/-! ### Sure, and what holds -/
end M25
namespace M25
open Go Go.Abs M3
/-! ### The choice that a trail has decided -/
end M25
namespace Go.Proofs
open Go Go.Abs M3 M25
set_option linter.unusedVariables false
set_option linter.unusedSimpArgs false
theorem QaP {a b : List Int} (ha : a.length <= 10000000) : Ok Try.prog 52 [Zv a, Zv b] (.bool (decide (a = b))) := by
 refine Ok.ofT Z1 Try.func52 QpM (Nat.le_of_ble_eq_true Z) ?_
 show TW _ _ tf52.body _ _
 refine Qe fun K hK => Qa Z (hK _ _ (Qb (kp2 Z Z) ?_))
 refine QD ?_ -- 0
 refine Qe fun K hK => Qa Z ?_
 first | refine Q7 rfl Zf ?_ | refine Q7 rfl rfl ?_
 refine Qa Z ?_
 first | refine Q7 rfl Zf ?_ | refine Q7 rfl rfl ?_
 refine Xn Z Z (hK _ _ (Qb (kp3 Z Z Z) ?_))
 refine Qz Z (fun h1 => ?_) (fun h1 => ?_)
 ·try rw [h1]
  try simp only [qA] at h1
  refine Qe fun K hK => Qa Z (hK _ _ (Qb (kp1 Z) ?_))
  refine Qs (Qk (Qp Z ?_))
  rw [decide_eq_false fun e => h1 (by rw [e])]
 ·try rw [h1]
  try simp only [qA] at h1
  refine Qu (Qd (kp2 Z Z) ?_)
  refine QD ?_ -- 1
  refine Qe fun K hK => Qa Z (hK _ _ (Qb (kp3 Z Z Z) ?_))
  refine QG ?_
  refine ZM (ι := Nat) (fun i => ⟨[(0, Zv a), (1, Zv b), (5, .int .i64 i)], []⟩) (fun i => i <= a.length /\ a.take i = b.take i) (fun i => a.length - i) 0 ?_ ?_ ?_
  ·exact QW (kp3 rfl rfl rfl)
  ·exact ⟨Nat.zero_le _, by simp⟩
  intro i hI
  try dsimp only
  refine QD ?_ -- 2
  refine Qe fun K hK => Qa Z (Qa Z ?_)
  first | refine Q7 rfl Zf ?_ | refine Q7 rfl rfl ?_
  refine Yz Z Z (hK _ _ (Qb (kp4 Z Z Z Z) ?_))
  refine Qz Z (fun h2 => ?_) (fun h2 => ?_)
  ·try rw [h2]
   try simp only [qA] at h2
   refine Qu (Qd (kp3 Z Z Z) ?_)
   refine QD ?_ -- 3
   refine QG (Qe fun K hK => Qa Z (Qa Z (QM Z Z Z (by omega) (Zj (by omega)) Z (Zt (ds0 := [0]) Z Z Z Z Z (Qa Z (Qa Z (QM Z Z Z (by omega) (Zj (by omega)) Z (Zt (ds0 := [0]) Z Z Z Z Z ?_))))))))
   first | refine Xn rfl rfl ?_ | refine QfN rfl rfl ?_
   refine hK _ _ (Qb (kp4 Z Z Z Z) ?_)
   refine Qz Z (fun h3 => ?_) (fun h3 => ?_)
   ·try rw [h3]
    try simp only [qA] at h3
    refine Qe fun K hK => Qa Z (hK _ _ (Qb (kp1 Z) ?_))
    refine Qs (Qt (Qk (Q8 (Qt (Qk (Qp Z ?_))))))
    rw [QkP (i := i) (by omega) (by omega) h3]
   ·try rw [h3]
    try simp only [qA] at h3
    refine Qu (Qf (Qd (kp3 Z Z Z) (Q0 fun K hK => Qa Z (Za Z Z (by first | exact Qq (by omega) (by omega) | exact QH (by omega) (by omega) | exact QN (by omega) (by omega) | rfl) (Qa Z (hK _ ?_))))))
    refine Qh (i + 1) ?_ ?_ ?_
    ·exact QW (kp3 rfl rfl rfl)
    ·exact ⟨by omega, QhC (by omega) (by omega) hI.2 h3⟩
    ·first | omega | (simp only; omega) | (dsimp only; omega)
  ·try rw [h2]
   try simp only [qA] at h2
   refine Zl (QJ (Qx (QC (Qd (QO) (Qe fun K hK => Qa Z (hK _ _ (Qb (kp1 Z) ?_)))))))
   refine Qs (Qp Z ?_)
   rw [List.take_of_length_le (by omega), List.take_of_length_le (by omega)] at hI; exact (decide_eq_true hI.2).symm
end Go.Proofs
namespace Go.Proofs
open Go Go.Abs M3 M25
set_option linter.unusedVariables false
set_option linter.unusedSimpArgs false
theorem Xj {s : St} {args : List Opd} {kg : Nat} {L : List Int} {I n : Int} {et : Nat} (ha : Zx s args = some [.ref kg 0 0, .int .i64 n]) (hg : lk s.H kg = some (gB L I et)) (hL : ∀ x ∈ L, I64 x) (hn : n <= 9223372036854775807) : Qbc Try.prog 28 args s [(kg, gB L I et)] [] [(kg, gB L (nxI I) et)] (.int .i64 (nx L I n)) := by
 refine Qiy (b' := gB L (nxI I) et) (ds' := [.ref (upN kg) 0 0, .int .i64 n]) ha (fun j x h => ?_) (fun k b hk j hj => ?_) (fun x hx j hj => ?_) ?_ Z Z Z Z ?_
 ·obtain ⟨rfl, rfl⟩ := XP h; exact hg
 ·obtain ⟨rfl, rfl⟩ := XP hk; simp [Box.ids, gB] at hj
 ·simp only [List.mem_cons, List.not_mem_nil, or_false] at hx
  rcases hx with rfl | rfl
  ·simp [D.ids, D.sid] at hj; subst hj; rw [Qw]; rfl
  ·simp [D.ids, D.sid] at hj
 ·rw [Qw]; rfl
 ·exact XA (by unfold upN; omega) hL hn et
theorem QcA {H : List (Nat × Box)} {kg kc : Nat} {L : List Int} {I : Int} {eg ec : Nat} {pr : Bool} {zs : List CR} (hkg : 1000000 <= kg) (hg : lk H kg = some (gB L I eg)) (hc : lk H kc = some ⟨zs.map dCR, 8, ec, pr⟩) (hne : kg ≠ kc) (hB : Big H) (hC : Closed H) (hL : ∀ x ∈ L, I64 x) (hz : ∀ z ∈ zs, Qdi z.v) (hn : zs.length <= 16) : ∃ d H2, (∃ s I2, SetOk s /\ d = QgC s /\ H2 = (kg, gB L I2 eg) :: H) /\ OkH Try.prog 59 [.ref kg 0 0, .osl kc zs.length] H d H2 := by
 have hkc := hB _ _ hc
 refine OkH.ofX (R := fun d H2 => ∃ s I2, SetOk s /\ d = QgC s /\ H2 = (kg, gB L I2 eg) :: H) Z1 Try.func59 QpT (Nat.le_of_ble_eq_true Z) ?_
 show TX _ _ tf59.body _ _
 refine Q3 fun K hK => ?_
 refine ZD (by repeat (first | exact hB.none (by decide) | refine Zr (by first | decide | omega) ?_)) ?_
 refine hK _ _ (QK (kp3 Z Z Z) ?_)
 refine Q3 fun K hK => Qa Z (Z5 (Xj (I := I) Z (Qi (by omega) hg) hL (by omega)) (Qa Z (hK _ _ (QK (kp4 Z Z Z Z) ?_))))
 refine Q3 fun K hK => QE (Z3) Z Z (.inl Z) ?_
 refine ZD (by repeat (first | exact hB.none (by decide) | refine Zr (by first | decide | omega) ?_)) ?_
 refine QT Z Z Z Z Z Z Z Z (hK _ _ (QK (kp5 Z Z Z Z Z) ?_))
 refine Xz ?_ -- 0
 refine Q3 fun K hK => Qa Z (hK _ _ (QK (kp6 Z Z Z Z Z Z) ?_))
 refine Yt ?_
 refine QdE (ι := Nat × QhE) (fun ⟨i, s⟩ => ⟨[(0, .ref kg 0 0), (1, .osl kc zs.length), (4, .ref 4 0 0), (5, .int .i64 (nx L I 8)), (6, .ref 6 0 0), (7, .int .i64 i)], [(4, ⟨[[.fsl [], .fsl []]], 2, 74, true⟩), (6, ⟨[[ZN s.1, ZN s.2]], 2, 74, true⟩), (kg, gB L (nxI I) eg)] ++ H⟩) (fun ⟨i, s⟩ => i <= zs.length /\ Qjg (bnd i - 4) s) (fun ⟨i, s⟩ => zs.length - i) (0, ([], [])) ?_ ?_ ?_
 ·exact QeF (l := [0, 1, 4, 5, 6, 7]) (B := [_, _, _, _]) (kp6 rfl rfl rfl rfl rfl rfl) rfl (by intro p hp; simp only [List.mem_cons, List.not_mem_nil, or_false] at hp; rcases hp with rfl | rfl | rfl <;> exact ⟨by repeat (first | exact Qw | refine Qi (by first | decide | omega) ?_), rfl⟩) rfl (by intro p hp h; simp only [List.mem_cons, List.not_mem_nil, or_false] at hp; rcases hp with rfl | rfl | rfl | rfl <;> first | (simp only at h; omega) | (repeat (first | exact QV | refine QS ?_))) hB hC (by intro p hp k hk; simp only [List.mem_cons, List.not_mem_nil, or_false] at hp; rcases hp with rfl | rfl | rfl | rfl | rfl | rfl <;> first | (simp [D.ids, D.sid, Q6, QR, Zv] at hk; done) | (simp [D.ids, D.sid, Q6, QR, Zv] at hk; subst hk; repeat (first | exact QV | exact Zp hg | exact Zp hc | refine QS ?_)))
 ·exact ⟨Nat.zero_le _, SmN.nil _, SmN.nil _⟩
 intro ⟨i, s⟩ hI
 try dsimp only at hI
 have hb16 := Ql9 (i := i) (by omega)
 try dsimp only
 refine Xz ?_ -- 1
 refine Q3 fun K hK => Qa Z (Qa Z ?_)
 first | refine Q7 rfl Zf ?_ | refine Q7 rfl rfl ?_
 refine Yz Z Z (hK _ _ (QK (kp7 Z Z Z Z Z Z Z) ?_))
 refine Yv Z (fun h1 => ?_) (fun h1 => ?_)
 ·try rw [h1]
  try simp only [qA] at h1
  refine YN (Q2 (kp6 Z Z Z Z Z Z) ?_)
  refine Xz ?_ -- 2
  refine Yt (Q3 fun K hK => Qa Z (Qa Z (Qfi Z (Qjd (by omega) (by omega)) (QnI Z Z (by omega) (QnC Z Z (YP Z Z (hK _ _ (QK (kp7 Z Z Z Z Z Z Z) ?_))))))))
  refine Yv Z (fun h2 => ?_) (fun h2 => ?_)
  ·try rw [h2]
   try simp only [qA] at h2
   have hvp := (hz _ (List.getElem_mem (show i < zs.length by omega))).1
   refine ZG fun K hK => QU (ds0 := [1, 0]) (cs := [_, _]) Z Z Z Z (by simp [Dr.ok, Qbp]) Z (Qa Z (Qa Z (Qct (ds0 := [4, 3, 2, 1, 0]) Z Z (Qi (by omega) (Qi (by omega) (Qi (by omega) hc))) (by simp) (by omega) (by omega) Z (by simp [Dr.ok, Qbp]) Z (Qm Z (Zp (Qi (by omega) (Qi (by omega) (Qi (by omega) hc)))) (QU (ds0 := [2, 1, 0]) (cs := [_, _, _, _, _]) Z (Ye (Qi (by omega) (Qi (by omega) (Qi (by omega) hc))) (Zj (by omega))) Z Z (by simp [Dr.ok, Qbp]) Z (Ze (ds0 := [1, 0]) (XK (hz _ (List.getElem_mem (by omega))).1 (hz _ (List.getElem_mem (by omega))).2) Z Z (.inl Z) (by simp [Dr.ok, Qbp]) Z (Ze (ds0 := [0]) (Qdk (a := s) (b := (Y8 (zs[i]'(by omega)).v.a (zs[i]'(by omega)).v.b (zs[i]'(by omega)).v.c (zs[i]'(by omega)).v.p (zs[i]'(by omega)).v.q)) (hI.2.1.sm (by omega)) (hI.2.2.sm (by omega)) ((QbM hvp).1.sm (by omega)) ((QbM hvp).2.sm (by omega)) (by have := hI.2.1.1; have := (QbM (a := (zs[i]'(by omega)).v.a) (b := (zs[i]'(by omega)).v.b) (c := (zs[i]'(by omega)).v.c) (q := (zs[i]'(by omega)).v.q) hvp).1.1; omega) (by have := hI.2.2.1; have := (QbM (a := (zs[i]'(by omega)).v.a) (b := (zs[i]'(by omega)).v.b) (c := (zs[i]'(by omega)).v.c) (q := (zs[i]'(by omega)).v.q) hvp).2.1; omega)) Z Z (.inl Z) (by simp [Dr.ok, Qbp]) Z (Xu (ds0 := []) Z Z Z Z Z Z Z Z (by simp [Dr.ok, Qbp]) Z (hK _ ?_)))))))))
   refine Qf (Q2 (kp6 Z Z Z Z Z Z) (ZG fun K hK => Qa Z (Za Z Z (by first | exact Qq (by omega) (by omega) | rfl) (Qa Z (hK _ ?_)))))
   refine Qh (i + 1, Qmj s (Y8 (zs[i]'(by omega)).v.a (zs[i]'(by omega)).v.b (zs[i]'(by omega)).v.c (zs[i]'(by omega)).v.p (zs[i]'(by omega)).v.q)) ?_ ?_ ?_
   ·exact QeF (l := [0, 1, 4, 5, 6, 7]) (B := [_, _, _, _]) (kp6 rfl rfl rfl rfl rfl rfl) rfl (by intro p hp; simp only [List.mem_cons, List.not_mem_nil, or_false] at hp; rcases hp with rfl | rfl | rfl <;> exact ⟨by repeat (first | exact Qw | refine Qi (by first | decide | omega) ?_), rfl⟩) rfl (by intro p hp h; simp only [List.mem_cons, List.not_mem_nil, or_false] at hp; rcases hp with rfl | rfl | rfl | rfl <;> first | (simp only at h; omega) | (repeat (first | exact QV | refine QS ?_))) hB hC (by intro p hp k hk; simp only [List.mem_cons, List.not_mem_nil, or_false] at hp; rcases hp with rfl | rfl | rfl | rfl | rfl | rfl <;> first | (simp [D.ids, D.sid, Q6, QR, Zv] at hk; done) | (simp [D.ids, D.sid, Q6, QR, Zv] at hk; subst hk; repeat (first | exact QV | exact Zp hg | exact Zp hc | refine QS ?_)))
   ·exact ⟨by show i + 1 <= _; omega, Qoa hI.2 (hz _ (List.getElem_mem (by omega))).1 (by omega)⟩
   ·show zs.length - (i + 1) < zs.length - i; omega
  ·try rw [h2]
   try simp only [qA] at h2
   have hvp := (hz _ (List.getElem_mem (show i < zs.length by omega))).1
   refine YN (Qf (Q2 (kp6 Z Z Z Z Z Z) (ZG fun K hK => Qa Z (Za Z Z (by first | exact Qq (by omega) (by omega) | rfl) (Qa Z (hK _ ?_))))))
   refine Qh (i + 1, s) ?_ ?_ ?_
   ·exact QeF (l := [0, 1, 4, 5, 6, 7]) (B := [_, _, _]) (kp6 rfl rfl rfl rfl rfl rfl) rfl (by intro p hp; simp only [List.mem_cons, List.not_mem_nil, or_false] at hp; rcases hp with rfl | rfl | rfl <;> exact ⟨by repeat (first | exact Qw | refine Qi (by first | decide | omega) ?_), rfl⟩) rfl (by intro p hp h; simp only [List.mem_cons, List.not_mem_nil, or_false] at hp; rcases hp with rfl | rfl | rfl <;> first | (simp only at h; omega) | (repeat (first | exact QV | refine QS ?_))) hB hC (by intro p hp k hk; simp only [List.mem_cons, List.not_mem_nil, or_false] at hp; rcases hp with rfl | rfl | rfl | rfl | rfl | rfl <;> first | (simp [D.ids, D.sid, Q6, QR, Zv] at hk; done) | (simp [D.ids, D.sid, Q6, QR, Zv] at hk; subst hk; repeat (first | exact QV | exact Zp hg | exact Zp hc | refine QS ?_)))
   ·exact ⟨by show i + 1 <= _; omega, QlX hI.2⟩
   ·show zs.length - (i + 1) < zs.length - i; omega
 ·try rw [h1]
  try simp only [qA] at h1
  refine Qb6 (YY (Qx (QC (Q2 (kp3 Z Z Z) ?_))))
  refine Xz ?_ -- 3
  refine Q3 fun K hK => Qa Z (Z5 (Xj (I := nxI I) Z (Qi (by omega) (Qi (by omega) Qw)) hL (by omega)) (hK _ _ (QK (kp3 Z Z Z) ?_)))
  refine Yt (Q3 fun K hK => YP Z Z (Qa Z (hK _ _ (QK (kp4 Z Z Z Z) ?_))))
  refine Yv Z (fun h3 => ?_) (fun h3 => ?_)
  ·try rw [h3]
   try simp only [qA] at h3
   refine Q3 fun K hK => QE (QcD) Z Z (.inl Z) (QT Z (Qi (by omega) Z) Z Z Z Z Z Z (hK _ _ (QK (kp1 Z) ?_)))
   refine Qe2 (Qt (Qi8 ?_))
   refine ⟨QgC QjJ, (kg, gB L (nxI (nxI I)) eg) :: H, ⟨QjJ, _, ⟨Ql6.1.up (by omega), Ql6.2.up (by omega)⟩, rfl, rfl⟩, (Xx hB hC hkg rfl).1, (Xx hB hC hkg rfl).2, ?_⟩
   refine QbR (cs := [ZN QjJ.1, ZN QjJ.2]) Z (Ye (by repeat (first | exact Qw | refine Qi (by first | decide | omega) ?_)) Z) Z Z Z ?_
   exact Qam (B := [_, _, _, _, _]) hB (by repeat (first | exact Qw | refine Qi (by first | decide | omega) ?_)) (by intro p hp h; simp only [List.mem_cons, List.not_mem_nil, or_false] at hp; rcases hp with rfl | rfl | rfl | rfl | rfl <;> first | rfl | (simp only at h; omega))
  ·try rw [h3]
   try simp only [qA] at h3
   refine Q3 fun K hK => YP Z Z (Qa Z (hK _ _ (QK (kp3 Z Z Z) ?_)))
   refine Yv Z (fun h4 => ?_) (fun h4 => ?_)
   ·try rw [h4]
    try simp only [qA] at h4
    refine Q3 fun K hK => QP (cs := [_, _]) Z (Ye (Qi (by omega) Z) Z) Z Z (QE (QcE (a := s) (hI.2.1.sm (by omega)) (hI.2.2.sm (by omega))) Z Z (.inl Z) (QT Z (Qi (by omega) Z) Z Z Z Z Z Z (hK _ _ (QK (kp1 Z) ?_))))
    refine Qe2 (Qt (Qi8 ?_))
    refine ⟨QgC (Qgh s), (kg, gB L (nxI (nxI I)) eg) :: H, ⟨(Qgh s), _, ⟨(Qku hI.2 (by omega)).1.up (by omega), (Qku hI.2 (by omega)).2.up (by omega)⟩, rfl, rfl⟩, (Xx hB hC hkg rfl).1, (Xx hB hC hkg rfl).2, ?_⟩
    refine QbR (cs := [ZN (Qgh s).1, ZN (Qgh s).2]) Z (Ye (by repeat (first | exact Qw | refine Qi (by first | decide | omega) ?_)) Z) Z Z Z ?_
    exact Qam (B := [_, _, _, _, _]) hB (by repeat (first | exact Qw | refine Qi (by first | decide | omega) ?_)) (by intro p hp h; simp only [List.mem_cons, List.not_mem_nil, or_false] at hp; rcases hp with rfl | rfl | rfl | rfl | rfl <;> first | rfl | (simp only at h; omega))
   ·try rw [h4]
    try simp only [qA] at h4
    refine YN (Qf (Q2 (kp2 Z Z) (Q3 fun K hK => QP (cs := [_, _]) Z (Ye (Qi (by omega) Z) Z) Z Z (QT Z (Qi (by omega) Z) Z Z Z Z Z Z (hK _ _ (QK (kp1 Z) ?_))))))
    refine Qe2 ?_
    refine ⟨QgC s, (kg, gB L (nxI (nxI I)) eg) :: H, ⟨s, _, ⟨hI.2.1.up (by omega), hI.2.2.up (by omega)⟩, rfl, rfl⟩, (Xx hB hC hkg rfl).1, (Xx hB hC hkg rfl).2, ?_⟩
    refine QbR (cs := [ZN s.1, ZN s.2]) Z (Ye (by repeat (first | exact Qw | refine Qi (by first | decide | omega) ?_)) Z) Z Z Z ?_
    exact Qam (B := [_, _, _, _, _]) hB (by repeat (first | exact Qw | refine Qi (by first | decide | omega) ?_)) (by intro p hp h; simp only [List.mem_cons, List.not_mem_nil, or_false] at hp; rcases hp with rfl | rfl | rfl | rfl | rfl <;> first | rfl | (simp only at h; omega))
end Go.Proofs
namespace Go.Proofs
open Go Go.Abs M3 M25
set_option linter.unusedVariables false
set_option linter.unusedSimpArgs false
/-- The call of 'set', over boxes that are lent. -/
theorem QoJ {H : List (Nat × Box)} {kg kc : Nat} {L : List Int} {I : Int} {eg ec : Nat} {pr : Bool} {zs : List CR} (hg : lk H kg = some (gB L I eg)) (hc : lk H kc = some ⟨zs.map dCR, 8, ec, pr⟩) (hne : kg ≠ kc) (hC : Closed H) (hL : ∀ x ∈ L, I64 x) (hz : ∀ z ∈ zs, Qdi z.v) (hn : zs.length <= 16) :
  ∃ s I2, SetOk s /\ ∀ (st : St) (args : List Opd), Zx st args = some [.ref kg 0 0, .osl kc zs.length] -> (∀ j x, lk H j = some x -> lk st.H j = some x) -> Qbc Try.prog 59 args st H [] [(kg, gB L I2 eg)] (QgC s) := by
 obtain ⟨d, H2, ⟨s, I2, hs, rfl, rfl⟩, hok⟩ := QcA (H := upH H) (kg := upN kg) (kc := upN kc) (L := L) (I := I) (eg := eg) (ec := ec) (pr := pr) (zs := zs.map CR.ren) (by unfold upN; omega) (by rw [Qan, hg]; rfl) (by rw [Qan, hc, Option.map_some, Box.ren, QjV]) (fun e => hne (Qin e)) Qim (QdC hC) hL
  (fun z hz' => by obtain ⟨z0, h0, rfl⟩ := List.mem_map.1 hz'; exact hz z0 h0) (by simpa using hn)
 refine ⟨s, I2, hs, fun st args ha hF => Qiy (b' := gB L I2 eg) (ds' := [.ref (upN kg) 0 0, .osl (upN kc) zs.length]) ha hF hC (fun x hx j hj => ?_) (Zp hg) Z Z Z Z ?_⟩
 ·simp only [List.mem_cons, List.not_mem_nil, or_false] at hx
  rcases hx with rfl | rfl
  ·simp [D.ids, D.sid] at hj; subst hj; exact Zp hg
  ·simp [D.ids, D.sid] at hj; subst hj; exact Zp hc
 ·rw [List.length_map] at hok; exact hok
theorem Qce {H : List (Nat × Box)} {kg ku : Nat} {L : List Int} {I : Int} {eg eu ec : Nat} {us : List UR} (hkg : 1000000 <= kg) (hg : lk H kg = some (gB L I eg)) (hU : Fam H kg ku eu ec us) (hB : Big H) (hC : Closed H) (hL : ∀ x ∈ L, I64 x) (h2n : 2 <= us.length) (hn : us.length <= 48) : ∃ d H2, (∃ x I2, WantIn us.length x /\ d = .agg (Qe4 x) /\ H2 = (kg, gB L I2 eg) :: H) /\ OkH Try.prog 29 [.ref kg 0 0, .osl ku us.length] H d H2 := by
 obtain ⟨pu, hu⟩ := hU.u
 have hku := hB _ _ hu
 have hne := hU.ne
 have hx0 := QfC (v := Qk6 L (IntKind.i64.wrap (nxI I - 1))) (n := (us.length : Int) - 1)
 have hx1 := QfB (v := Qk6 L (IntKind.i64.wrap (nxI I - 1))) (n := (us.length : Int) - 1) (by omega)
 change 0 <= nx L I ((us.length : Int) - 1) at hx0
 change nx L I ((us.length : Int) - 1) < _ at hx1
 obtain ⟨hyk, pr, hy⟩ := hU.c (us[(1 + nx L I ((us.length : Int) - 1)).toNat]'(by omega)) (List.getElem_mem _)
 obtain ⟨hv1, hv2⟩ := hU.v (us[(1 + nx L I ((us.length : Int) - 1)).toNat]'(by omega)) (List.getElem_mem _)
 obtain ⟨s, I2, hs, hcall⟩ := QoJ (H := (kg, gB L (nxI I) eg) :: H) Qw (Qi (Ne.symm hyk) hy) (Ne.symm hyk) (hC.pr rfl) hL hv2 hv1
 refine OkH.ofX (R := fun d H2 => ∃ x I2, WantIn us.length x /\ d = .agg (Qe4 x) /\ H2 = (kg, gB L I2 eg) :: H) Z1 Try.func29 Qpt (Nat.le_of_ble_eq_true Z) ?_
 show TX _ _ tf29.body _ _
 refine Q3 fun K hK => ?_
 refine ZD (by repeat (first | exact hB.none (by decide) | refine Zr (by first | decide | omega) ?_)) ?_
 refine hK _ _ (QK (kp3 Z Z Z) ?_)
 refine Q3 fun K hK => Qa Z (Qa Z ?_)
 first | refine Q7 rfl Zf ?_ | refine Q7 rfl rfl ?_
 refine Qcu Z Z (by first | exact Qq (by omega) (by omega) | rfl) (Z5 (Xj (I := I) Z (Qi (by omega) hg) hL (by omega)) (Za Z Z (by first | exact Qq (by omega) (by omega) | rfl) (Qa Z (hK _ _ (QK (kp4 Z Z Z Z) ?_)))))
 refine Q3 fun K hK => Qa rfl (Qa rfl (Qa rfl (Qa rfl (XQ rfl rfl (Qi (by omega) (Qi (by omega) hu)) (by simp) (by omega) (by omega) rfl (Qm rfl (Zp (Qi (by omega) (Qi (by omega) hu))) (QF rfl (Ye (Qi (by omega) (Qi (by omega) hu)) (Xd (by omega) (by omega))) rfl (Z5 (hcall _ _ rfl (Qam (B := [_, _]) hB Qw (by intro p hp h; simp only [List.mem_cons, List.not_mem_nil, or_false] at hp; rcases hp with rfl | rfl <;> first | rfl | (simp only at h; omega)))) (QZ rfl rfl (QT rfl (Qi (by omega) (Qi (by omega) rfl)) rfl rfl rfl rfl rfl rfl (hK _ _ (QK (kp1 rfl) ?_)))))))))))
 refine Qe2 ?_
 refine ⟨.agg (Qe4 ⟨1 + nx L I ((us.length : Int) - 1), s⟩), (kg, gB L I2 eg) :: H, ⟨⟨1 + nx L I ((us.length : Int) - 1), s⟩, _, ⟨by show 1 <= 1 + _; omega, by show 1 + _ < (us.length : Int); omega, hs⟩, rfl, rfl⟩, (Xx hB hC hkg rfl).1, (Xx hB hC hkg rfl).2, ?_⟩
 refine QbR (cs := Qe4 ⟨1 + nx L I ((us.length : Int) - 1), s⟩) Z (Ye (by repeat (first | exact Qw | refine Qi (by first | decide | omega) ?_)) Z) Z Z Z ?_
 exact Qam (B := [_, _, _, _]) hB (by repeat (first | exact Qw | refine Qi (by first | decide | omega) ?_)) (by intro p hp h; simp only [List.mem_cons, List.not_mem_nil, or_false] at hp; rcases hp with rfl | rfl | rfl | rfl <;> first | rfl | (simp only at h; omega))
/-- The call of 'want'. -/
theorem Qi2 {H : List (Nat × Box)} {kg ku : Nat} {L : List Int} {I : Int} {eg eu ec : Nat} {us : List UR} (hg : lk H kg = some (gB L I eg)) (hU : Fam H kg ku eu ec us) (hC : Closed H) (hL : ∀ x ∈ L, I64 x) (h2 : 2 <= us.length) (hn : us.length <= 48) :
  ∃ x I2, WantIn us.length x /\ ∀ (st : St) (args : List Opd), Zx st args = some [.ref kg 0 0, .osl ku us.length] -> (∀ j x, lk H j = some x -> lk st.H j = some x) -> Qbc Try.prog 29 args st H [] [(kg, gB L I2 eg)] (.agg (Qe4 x)) := by
 obtain ⟨d, H2, ⟨x, I2, hx, rfl, rfl⟩, hok⟩ := Qce (H := upH H) (kg := upN kg) (ku := upN ku) (L := L) (I := I) (eg := eg) (eu := eu) (ec := ec) (us := us.map UR.ren) (by unfold upN; omega) (by rw [Qan, hg]; rfl) hU.up Qim (QdC hC) hL (by simpa using h2) (by simpa using hn)
 obtain ⟨pu, hu⟩ := hU.u
 rw [List.length_map] at hx hok
 refine ⟨x, I2, hx, fun st args ha hF => Qiy (b' := gB L I2 eg) (ds' := [.ref (upN kg) 0 0, .osl (upN ku) us.length]) ha hF hC (fun x hx j hj => ?_) (Zp hg) Z Z Z Z hok⟩
 simp only [List.mem_cons, List.not_mem_nil, or_false] at hx
 rcases hx with rfl | rfl
 ·simp [D.ids, D.sid] at hj; subst hj; exact Zp hg
 ·simp [D.ids, D.sid] at hj; subst hj; exact Zp hu
end Go.Proofs
namespace Go.Proofs
open Go Go.Abs M3 M25
set_option linter.unusedVariables false
set_option linter.unusedSimpArgs false
theorem QbX {H : List (Nat × Box)} {kg ku : Nat} {L : List Int} {I most : Int} {eg eu ec : Nat} {us : List UR} (hkg : 1000000 <= kg) (hg : lk H kg = some (gB L I eg)) (hU : Fam H kg ku eu ec us) (hB : Big H) (hC : Closed H) (hL : ∀ x ∈ L, I64 x) (h2n : 2 <= us.length) (hn : us.length <= 48) (hm0 : 0 <= most) (hm1 : most <= 10) : ∃ d H2, (∃ ns I2, Qd8 us.length most ns /\ d = QR ns /\ H2 = (kg, gB L I2 eg) :: H) /\ OkH Try.prog 26 [.ref kg 0 0, .osl ku us.length, .int .i64 most] H d H2 := by
 obtain ⟨pu, hu⟩ := hU.u
 have hku := hB _ _ hu
 have hne := hU.ne
 have hk0 : 0 <= nx L I (most + 1) := QfC
 have hk1 : nx L I (most + 1) < most + 1 := QfB (by omega)
 refine OkH.ofX (R := fun d H2 => ∃ ns I2, Qd8 us.length most ns /\ d = QR ns /\ H2 = (kg, gB L I2 eg) :: H) Z1 Try.func26 Qpq (Nat.le_of_ble_eq_true Z) ?_
 show TX _ _ tf26.body _ _
 refine Q3 fun K hK => Qa Z (hK _ _ (QK (kp3 Z Z Z) ?_))
 refine Q3 fun K hK => Qa Z (hK _ _ (QK (kp4 Z Z Z Z) ?_))
 refine Xz ?_ -- 0
 refine Q3 fun K hK => Qa Z (Qa Z (Za Z Z (by first | exact Qq (by omega) (by omega) | rfl) (Z5 (Xj (I := I) Z hg hL (by omega)) (Qa Z (hK _ _ (QK (kp4 Z Z Z Z) ?_))))))
 refine Yt ?_
 refine QdE (ι := Nat × List (List WantT) × Int) (fun ⟨k, ns, J⟩ => ⟨[(0, .ref kg 0 0), (1, .osl ku us.length), (7, .osl 7 ns.length), (8, .int .i64 k)], [(7, ⟨(ns).map (fun r => [Q6 r]), 1, 51, true⟩), (kg, gB L J eg)] ++ H⟩) (fun ⟨k, ns, J⟩ => (ns.length : Int) + k <= most /\ ∀ r ∈ ns, QgK us.length r) (fun ⟨k, ns, J⟩ => k) ((nx L I (most + 1)).toNat, [], nxI I) ?_ ?_ ?_
 ·exact le_trans (Xe 7 7 1 51 rfl (by repeat (first | exact hB.none (by decide) | refine Zr (by first | decide | omega) ?_))) (QeF (l := [0, 1, 7, 8]) (B := [_, _]) (kp4 rfl rfl rfl rfl) (by simp only [Int.toNat_of_nonneg hk0] <;> rfl) (by intro p hp; simp only [List.mem_cons, List.not_mem_nil, or_false] at hp; rcases hp with rfl | rfl <;> exact ⟨by repeat (first | exact Qw | refine Qi (by first | decide | omega) ?_), rfl⟩) rfl (by intro p hp h; simp only [List.mem_cons, List.not_mem_nil, or_false] at hp; rcases hp with rfl | rfl <;> first | (simp only at h; omega) | (repeat (first | exact QV | refine QS ?_))) hB hC (by intro p hp k hk; simp only [List.mem_cons, List.not_mem_nil, or_false] at hp; rcases hp with rfl | rfl | rfl | rfl <;> first | (simp [D.ids, D.sid, Q6, QR, Zv] at hk; done) | (simp [D.ids, D.sid, Q6, QR, Zv] at hk; subst hk; repeat (first | exact QV | exact Zp hg | exact Zp hu | refine QS ?_))))
 ·exact ⟨by simp only [List.length_nil]; omega, by simp⟩
 intro ⟨k, ns, J⟩ hI
 try dsimp only at hI
 try dsimp only
 refine Xz ?_ -- 1
 refine Q3 fun K hK => Qa Z (Qcs Z Z (hK _ _ (QK (kp5 Z Z Z Z Z) ?_)))
 refine Yv Z (fun h1 => ?_) (fun h1 => ?_)
 ·try rw [h1]
  try simp only [qA] at h1
  refine YN (Q2 (kp4 Z Z Z Z) ?_)
  refine Xz ?_ -- 2
  refine Yt (Q3 fun K hK => Qa Z (Qa Z ?_))
  obtain ⟨x1, J1, hx1, hc1⟩ := Qi2 (I := J) (H := (kg, gB L (J) eg) :: H) Qw hU.cons (hC.pr rfl) hL h2n hn
  refine Z5 (hc1 _ _ rfl (Qam (B := [_, _]) hB (by repeat (first | exact Qw | refine Qi (by first | decide | omega) ?_)) (by intro p hp h; simp only [List.mem_cons, List.not_mem_nil, or_false] at hp; rcases hp with rfl | rfl <;> first | rfl | (simp only at h; omega)))) ?_
  refine QL Z (by repeat (first | exact hB.none (by decide) | refine Zr (by first | decide | omega) ?_)) ?_
  refine Qa Z (hK _ _ (QK (kp5 Z Z Z Z Z) ?_))
  refine QjI (ι := List WantT × Int) (fun ⟨r, J4⟩ => ⟨[(0, .ref kg 0 0), (1, .osl ku us.length), (7, .osl 7 ns.length), (8, .int .i64 k), (9, Q6 r)], [(7, ⟨(ns).map (fun r => [Q6 r]), 1, 51, true⟩), (kg, gB L J4 eg)] ++ H⟩) (fun ⟨r, J4⟩ => QgK us.length r) ?_ ?_
  ·skip
   refine Q3 fun K hK => Qa Z (Z5 (Xj (I := J1) Z (Qi (by omega) Qw) hL (by omega)) (YP Z Z (hK _ _ (QK (kp6 Z Z Z Z Z Z) ?_))))
   refine Yv Z (fun h2 => ?_) (fun h2 => ?_)
   ·try rw [h2]
    try simp only [qA] at h2
    refine ZG fun K hK => Qa Z (Qa Z (Qa Z ?_))
    obtain ⟨x2, J2, hx2, hc2⟩ := Qi2 (I := nxI J1) (H := (kg, gB L (nxI J1) eg) :: H) Qw hU.cons (hC.pr rfl) hL h2n hn
    refine Z5 (hc2 _ _ rfl (Qam (B := [_, _, _, _, _]) hB (by repeat (first | exact Qw | refine Qi (by first | decide | omega) ?_)) (by intro p hp h; simp only [List.mem_cons, List.not_mem_nil, or_false] at hp; rcases hp with rfl | rfl | rfl | rfl | rfl <;> first | rfl | (simp only at h; omega)))) ?_
    refine QL Z (by repeat (first | exact hB.none (by decide) | refine Zr (by first | decide | omega) ?_)) ?_
    refine QmA Z Z (by simp [D.ids, D.sid]) ⟨_, rfl, rfl, rfl, rfl, rfl⟩ (by repeat (first | exact hB.none (by decide) | refine Zr (by first | decide | omega) ?_)) (Qi (by decide) (Qi (by omega) (Qi (by omega) Z))) Z Z Z (by simp) (by simp) ?_
    refine Qa Z (hK _ ?_)
    refine ZS ([x1, x2], J2) ?_ ?_
    ·exact le_trans (QhY (l := [0, 1, 7, 8]) (B := [_, _, _, _, _, _, _, _, _]) (A := [(7, ⟨(ns).map (fun r => [Q6 r]), 1, 51, true⟩), (kg, gB L J2 eg)]) 30 9 (kp4 rfl rfl rfl rfl) rfl rfl rfl (by first | (simp; done) | (simp; omega)) (by intro p hp hk; simp only [List.mem_cons, List.not_mem_nil, or_false] at hp; rcases hp with rfl | rfl | rfl | rfl <;> first | (simp [D.ids, D.sid, Q6, QR, Zv] at hk; done) | (simp [D.ids, D.sid, Q6, QR, Zv] at hk; omega)) (by intro p hp; simp only [List.mem_cons, List.not_mem_nil, or_false] at hp; rcases hp with rfl | rfl <;> exact ⟨by first | decide | (simp only; omega), by repeat (first | exact Qw | refine Qi (by first | decide | omega) ?_), rfl⟩) (by intro p hp h; simp only [List.mem_cons, List.not_mem_nil, or_false] at hp; rcases hp with rfl | rfl | rfl | rfl | rfl | rfl | rfl | rfl | rfl <;> first | (simp only at h; omega) | (repeat (first | exact QV | refine QS ?_))) hB hC (by intro p hp k hk; simp only [List.mem_cons, List.not_mem_nil, or_false] at hp; rcases hp with rfl | rfl | rfl | rfl <;> first | (simp [D.ids, D.sid, Q6, QR, Zv] at hk; done) | (simp [D.ids, D.sid, Q6, QR, Zv] at hk; subst hk; repeat (first | exact QV | exact Zp hg | exact Zp hu | refine QS ?_)))) (QeF (l := [0, 1, 7, 8, 9]) (B := [_, _]) (kp5 rfl rfl rfl rfl rfl) rfl (by intro p hp; simp only [List.mem_cons, List.not_mem_nil, or_false] at hp; rcases hp with rfl | rfl <;> exact ⟨by repeat (first | exact Qw | refine Qi (by first | decide | omega) ?_), rfl⟩) rfl (by intro p hp h; simp only [List.mem_cons, List.not_mem_nil, or_false] at hp; rcases hp with rfl | rfl <;> first | (simp only at h; omega) | (repeat (first | exact QV | refine QS ?_))) hB hC (by intro p hp k hk; simp only [List.mem_cons, List.not_mem_nil, or_false] at hp; rcases hp with rfl | rfl | rfl | rfl | rfl <;> first | (simp [D.ids, D.sid, Q6, QR, Zv] at hk; done) | (simp [D.ids, D.sid, Q6, QR, Zv] at hk; subst hk; repeat (first | exact QV | exact Zp hg | exact Zp hu | refine QS ?_))))
    ·exact Qm9 hx1 hx2
   ·try rw [h2]
    try simp only [qA] at h2
    refine YN ?_
    refine ZS ([x1], nxI J1) ?_ ?_
    ·exact le_trans (QhY (l := [0, 1, 7, 8]) (B := [_, _, _, _, _]) (A := [(7, ⟨(ns).map (fun r => [Q6 r]), 1, 51, true⟩), (kg, gB L (nxI J1) eg)]) 21 9 (kp4 rfl rfl rfl rfl) rfl (Qi (by omega) rfl) rfl (by first | (simp; done) | (simp; omega)) (by intro p hp hk; simp only [List.mem_cons, List.not_mem_nil, or_false] at hp; rcases hp with rfl | rfl | rfl | rfl <;> first | (simp [D.ids, D.sid, Q6, QR, Zv] at hk; done) | (simp [D.ids, D.sid, Q6, QR, Zv] at hk; omega)) (by intro p hp; simp only [List.mem_cons, List.not_mem_nil, or_false] at hp; rcases hp with rfl | rfl <;> exact ⟨by first | decide | (simp only; omega), by repeat (first | exact Qw | refine Qi (by first | decide | omega) ?_), rfl⟩) (by intro p hp h; simp only [List.mem_cons, List.not_mem_nil, or_false] at hp; rcases hp with rfl | rfl | rfl | rfl | rfl <;> first | (simp only at h; omega) | (repeat (first | exact QV | refine QS ?_))) hB hC (by intro p hp k hk; simp only [List.mem_cons, List.not_mem_nil, or_false] at hp; rcases hp with rfl | rfl | rfl | rfl <;> first | (simp [D.ids, D.sid, Q6, QR, Zv] at hk; done) | (simp [D.ids, D.sid, Q6, QR, Zv] at hk; subst hk; repeat (first | exact QV | exact Zp hg | exact Zp hu | refine QS ?_)))) (QeF (l := [0, 1, 7, 8, 9]) (B := [_, _]) (kp5 rfl rfl rfl rfl rfl) rfl (by intro p hp; simp only [List.mem_cons, List.not_mem_nil, or_false] at hp; rcases hp with rfl | rfl <;> exact ⟨by repeat (first | exact Qw | refine Qi (by first | decide | omega) ?_), rfl⟩) rfl (by intro p hp h; simp only [List.mem_cons, List.not_mem_nil, or_false] at hp; rcases hp with rfl | rfl <;> first | (simp only at h; omega) | (repeat (first | exact QV | refine QS ?_))) hB hC (by intro p hp k hk; simp only [List.mem_cons, List.not_mem_nil, or_false] at hp; rcases hp with rfl | rfl | rfl | rfl | rfl <;> first | (simp [D.ids, D.sid, Q6, QR, Zv] at hk; done) | (simp [D.ids, D.sid, Q6, QR, Zv] at hk; subst hk; repeat (first | exact QV | exact Zp hg | exact Zp hu | refine QS ?_))))
    ·exact Qm8 hx1
  intro ⟨r, J4⟩ hJ
  try dsimp only at hJ
  try dsimp only
  refine ZG fun K hK => Qa Z (Qa Z ?_)
  refine QL Z (by repeat (first | exact hB.none (by decide) | refine Zr (by first | decide | omega) ?_)) ?_
  refine QaC Z Z (fun _ h => QaM Z Z Z h) Z (by simp) Z Z Z (by simp; omega) (by simp; omega) (Qa Z (hK _ ?_))
  refine Qf (Q2 (kp4 Z Z Z Z) (ZG fun K hK => Qa Z (Qcu Z Z (by first | exact Qq (by omega) (by omega) | rfl) (Qa Z (hK _ ?_)))))
  refine Qh (k - 1, ns ++ [r], J4) ?_ ?_ ?_
  ·exact le_trans (QnY (B := [_, _, _, _]) 7 hB hC) (QeF (l := [0, 1, 7, 8]) (A := [(7, ⟨ns.map (fun r => [Q6 r]) ++ [[Q6 r]], 1, 51, true⟩), (kg, gB L J4 eg)]) (B := [_, _, _, _]) (kp4 rfl rfl rfl rfl) (by simp [D.scrub, show ¬ kg = 7 by omega, show ¬ ku = 7 by omega] <;> omega) (by intro p hp; simp only [List.mem_cons, List.not_mem_nil, or_false] at hp; rcases hp with rfl | rfl <;> exact ⟨by repeat (first | exact Qw | refine Qi (by first | decide | omega) ?_), rfl⟩) (by simp) (by intro p hp h; simp only [List.mem_cons, List.not_mem_nil, or_false] at hp; rcases hp with rfl | rfl | rfl | rfl <;> first | (simp only at h; omega) | (repeat (first | exact QV | refine QS ?_))) hB hC (by intro p hp k hk; simp only [List.mem_cons, List.not_mem_nil, or_false] at hp; rcases hp with rfl | rfl | rfl | rfl <;> first | (simp [D.ids, D.sid, Q6, QR, Zv] at hk; done) | (simp [D.ids, D.sid, Q6, QR, Zv] at hk; subst hk; repeat (first | exact QV | exact Zp hg | exact Zp hu | refine QS ?_))))
  ·exact ⟨by simp only [List.length_append, List.length_singleton]; omega, QkL hI.2 hJ⟩
  ·show k - 1 < k; omega
 ·try rw [h1]
  try simp only [qA] at h1
  refine Qb6 (YY (Qx (QC (Q2 (kp1 Z) (Q3 fun K hK => Qa Z (Qa Z (hK _ _ (QK (kp1 Z) ?_))))))))
  refine Qe2 ?_
  refine ⟨QR ns, (kg, gB L J eg) :: H, ⟨ns, _, ⟨by omega, hI.2⟩, rfl, rfl⟩, (Xx hB hC hkg rfl).1, (Xx hB hC hkg rfl).2, ?_⟩
  refine X9 Z (by simp [Qk5, D.fz, D.fzS, Qfg, lk, D.can, D.canS, QR]) ?_
  exact Qam (B := [_, _]) hB (by repeat (first | exact Qw | refine Qi (by first | decide | omega) ?_)) (by intro p hp h; simp only [List.mem_cons, List.not_mem_nil, or_false] at hp; rcases hp with rfl | rfl <;> first | rfl | (simp only at h; omega))
end Go.Proofs
namespace Go.Proofs
open Go Go.Abs M3 M25
set_option linter.unusedVariables false
set_option linter.unusedSimpArgs false
theorem QbY {kg : Nat} {L : List Int} {I most : Int} {eg eu ec : Nat} (heu : eu = 45) (hec : ec = 53) (hkg : 1000000 <= kg) (hL : ∀ x ∈ L, I64 x) (hm0 : 1 <= most) (hm1 : most <= 5) : ∃ d H2, (∃ us I2, (UnitsIn us /\ 2 <= us.length /\ us.length <= 11) /\ d = .osl 500000 us.length /\ H2 = ((500000, ⟨us.map dUR, 3, eu, false⟩) :: fbx ec us) ++ [(kg, gB L I2 eg), (kg, gB L I eg)]) /\ OkH Try.prog 25 [.ref kg 0 0, .int .i64 most] [(kg, gB L I eg)] d H2 := by
 subst heu hec
 have e3 : ¬ kg = 500000 := by omega
 have k1 := Ql0 (a := 18) (b := 500000) hkg (by decide) (by decide)
 have k2 := Ql0 (a := 16) (b := 500001) hkg (by decide) (by decide)
 refine OkH.ofX (R := fun d H2 => ∃ us I2, (UnitsIn us /\ 2 <= us.length /\ us.length <= 11) /\ d = .osl 500000 us.length /\ H2 = ((500000, ⟨us.map dUR, 3, 45, false⟩) :: fbx 53 us) ++ [(kg, gB L I2 eg), (kg, gB L I eg)]) Z1 Try.func25 Qpp (Nat.le_of_ble_eq_true Z) ?_
 show TX _ _ tf25.body _ _
 refine Q3 fun K hK => Qa Z (hK _ _ (QK (kp2 Z Z) ?_))
 refine Q3 fun K hK => ?_
 refine QL Z (by repeat (first | exact Z | refine Zr (by first | decide | omega) ?_)) ?_
 refine Qa Z (hK _ _ (QK (kp3 Z Z Z) ?_))
 refine QjH (QhY (l := [0, 1]) (B := [_]) (A := []) (H0 := [(kg, gB L I eg)]) 14 5 (kp2 rfl rfl) rfl rfl rfl rfl (by intro p hp hk; simp only [List.mem_cons, List.not_mem_nil, or_false] at hp; rcases hp with rfl | rfl <;> first | (simp [D.ids, D.sid, Q6, QR, Zv] at hk; done) | (simp [D.ids, D.sid, Q6, QR, Zv] at hk; omega)) (by intro p hp; cases hp) (by intro p hp h; simp only [List.mem_singleton] at hp; subst hp; simp only at h; omega) (fun k b h => by obtain ⟨rfl, rfl⟩ := XP h; exact hkg) (fun k b h j hj => by obtain ⟨rfl, rfl⟩ := XP h; simp [Box.ids, gB] at hj) (by intro p hp k hk; simp only [List.mem_cons, List.not_mem_nil, or_false] at hp; rcases hp with rfl | rfl <;> first | (simp [D.ids, D.sid, Q6, QR, Zv] at hk; done) | (simp [D.ids, D.sid, Q6, QR, Zv] at hk; subst hk; repeat (first | exact QV | refine QS ?_)))) ?_
 refine Q3 fun K hK => QZ Z Z ?_
 refine QL Z (by repeat (first | exact Z | refine Zr (by first | decide | omega) ?_)) ?_
 refine QZ Z Z ?_
 refine QL Z (by repeat (first | exact Z | refine Zr (by first | decide | omega) ?_)) ?_
 refine Qa Z (hK _ _ (QK (kp4 Z Z Z Z) ?_))
 refine Q3 fun K hK => QE (Yk) Z Z (.inl Z) (Qa Z (hK _ _ (QK (kp5 Z Z Z Z Z) ?_)))
 refine Xz ?_ -- 0
 refine Q3 fun K hK => Qa Z (hK _ _ (QK (kp6 Z Z Z Z Z Z) ?_))
 refine Yt ?_
 refine QdE (ι := List UR × Int × Nat) (fun ⟨us, J, n⟩ => ⟨[(0, .ref kg 0 0), (1, .int .i64 most), (5, .sl (Yb names5)), (6, .osl 500000 us.length), (7, .sl (versions.map dVr)), (8, .int .i64 n)], [(500000, ⟨(us).map dUR, 3, 45, false⟩), (kg, gB L (J) eg)] ++ fbx 53 (us)⟩) (fun ⟨us, J, n⟩ => UnitsIn us /\ us.length <= 1 + 2 * n /\ n <= 5 /\ 1 + n <= us.length) (fun ⟨us, J, n⟩ => 5 - n) ([u0 v0], I, 0) ?_ ?_ ?_
 ·refine Qkk (l := [0, 1, 5, 6, 7, 8]) hkg (kp6 Z Z Z Z Z Z) ?_; simp only [List.map_cons, List.map_nil, D.ren, D.renS, k1, k2]; rfl
 ·exact ⟨UnitsIn.zero, by simp, by omega, by simp⟩
 intro ⟨us, J, n⟩ hI
 try dsimp only at hI
 have e1 : ¬ kg = 500001 + us.length := by omega
 have e2 : ¬ 500000 = 500001 + us.length := by omega
 have e4 : ¬ 500001 + us.length = 500000 := by omega
 have hx0 : 0 <= nx L J most := QfC
 have hx1 : nx L J most < most := QfB (by omega)
 have hn5 := Q9
 have hv4 := QbH
 try dsimp only
 refine Xz ?_ -- 1
 refine Q3 fun K hK => Qa Z (Qa Z (Qa Z ?_))
 refine Z5 (Xj (I := J) Z (by repeat (first | exact Qw | refine Qi (by omega) ?_)) hL (by omega)) ?_
 refine Za Z Z (by first | exact Qq (by omega) (by omega) | rfl) (Yz Z Z (Qa Z ?_))
 refine QB (g := 26) Z (fun h1 => ?_) (fun h1 => ?_)
 ·try rw [h1]
  try simp only [qA] at h1
  refine Qj Z (Qa Z (Qj Z (Qa Z (Qj Z ?_))))
  first | refine Q7 rfl Zf ?_ | refine Q7 rfl rfl ?_
  refine Qj Z (Yz Z Z (Qn Z Z (hK _ _ (QK (kp7 Z Z Z Z Z Z Z) ?_))))
  refine Yv Z (fun h2 => ?_) (fun h2 => ?_)
  ·try rw [h2]
   try simp only [qA] at h2
   refine YN (Q2 (kp6 Z Z Z Z Z Z) ?_)
   refine Xz ?_ -- 2
   refine Yt (Q3 fun K hK => Qa Z (hK _ _ (QK (kp7 Z Z Z Z Z Z Z) ?_)))
   refine Q3 fun K hK => Qa Z ?_
   refine Z5 (Xj (I := nxI J) Z (by repeat (first | exact Qw | refine Qi (by omega) ?_)) hL (by omega)) ?_
   refine Qa Z (hK _ _ (QK (kp8 Z Z Z Z Z Z Z Z) ?_))
   refine Xz ?_ -- 3
   refine Q3 fun K hK => Qa Z (hK _ _ (QK (kp9 Z Z Z Z Z Z Z Z Z) ?_))
   refine Yt ?_
   refine QdE (ι := List CR × Nat) (fun ⟨cs, i⟩ => ⟨[(0, .ref kg 0 0), (1, .int .i64 most), (5, .sl (Yb names5)), (6, .osl 500000 us.length), (7, .sl (versions.map dVr)), (8, .int .i64 n), (9, .osl (500001 + us.length) cs.length), (10, .int .i64 (nx L (nxI J) 16)), (11, .int .i64 i)], [(500001 + (us).length, ⟨(cs).map dCR, 8, 53, true⟩), (500000, ⟨(us).map dUR, 3, 45, false⟩), (kg, gB L (nxI (nxI J)) eg)] ++ fbx 53 (us)⟩) (fun ⟨cs, i⟩ => i <= 4 /\ CsIn i cs) (fun ⟨cs, i⟩ => 4 - i) ([], 0) ?_ ?_ ?_
   ·exact le_trans (Xe 9 (500001 + us.length) 8 53 rfl (by repeat (first | exact YJ hI.1.keys (.inr (by omega)) | refine Zr (by omega) ?_))) (Qnw (l := [0, 1, 5, 6, 7, 8, 9, 10, 11]) (B := [_, _, _, _, _]) (kp9 rfl rfl rfl rfl rfl rfl rfl rfl rfl) rfl hI.1.keys (by repeat (first | exact Qw | refine Qi (by omega) ?_)) (by repeat (first | exact Qw | refine Qi (by omega) ?_)) (by repeat (first | exact Qw | refine Qi (by omega) ?_)) (by intro p hp h; simp only [List.mem_cons, List.not_mem_nil, or_false] at hp; rcases hp with rfl | rfl | rfl | rfl | rfl <;> first | (simp only at h; omega) | exact .inl rfl | exact .inr rfl) (by intro p hp k hk; simp only [List.mem_cons, List.not_mem_nil, or_false] at hp; rcases hp with rfl | rfl | rfl | rfl | rfl | rfl | rfl | rfl | rfl <;> first | (simp [D.ids, D.sid, Q6, QR, Zv] at hk; done) | (simp [D.ids, D.sid, Q6, QR, Zv] at hk; subst hk; first | exact .inl rfl | exact .inr (.inl rfl) | exact .inr (.inr (.inl rfl)) | (refine .inr (.inr (.inl ?_)); simp; done) | (first | exact .inr (.inr ⟨_, List.mem_append_right _ (List.mem_singleton.2 rfl), rfl⟩) | exact .inr (.inr (.inr ⟨_, List.mem_append_right _ (List.mem_singleton.2 rfl), rfl⟩))))))
   ·exact ⟨by omega, CsIn.nil _⟩
   intro ⟨cs, i⟩ hC
   try dsimp only at hC
   have hcl := hC.2.1
   try dsimp only
   refine Xz ?_ -- 4
   refine Q3 fun K hK => Qa Z (Qa Z ?_)
   first | refine Q7 rfl Zf ?_ | refine Q7 rfl rfl ?_
   refine Yz Z Z (hK _ _ (QK (QnV Z Z Z Z Z Z Z Z Z Z) ?_))
   refine Yv Z (fun h3 => ?_) (fun h3 => ?_)
   ·try rw [h3]
    try simp only [qA] at h3
    refine YN (Q2 (kp9 Z Z Z Z Z Z Z Z Z) ?_)
    refine Xz ?_ -- 5
    refine Yt (Q3 fun K hK => Qa Z (Qa Z (Qfi Z (Qjd (by omega) (by omega)) (QnI Z Z (by omega) (QnC Z Z (YP Z Z (hK _ _ (QK (QnV Z Z Z Z Z Z Z Z Z Z) ?_))))))))
    refine Yv Z (fun h4 => ?_) (fun h4 => ?_)
    ·try rw [h4]
     try simp only [qA] at h4
     refine ZG fun K hK => Qa Z (Qa Z (Qa Z (QM Z Z Z (by omega) (Zj (by omega)) Z (QP (cs := [_, _, _, _, _]) Z Z Z Z (QZ Z Z ?_)))))
     refine QL Z (by repeat (first | exact YJ hI.1.keys (.inl (by omega)) | exact YJ hK1.keys (.inl (by omega)) | refine Zr (by first | decide | omega) ?_)) ?_
     refine QaC (hk0 := by omega) Z Z (fun _ h => QaM Z Z Z h) (Qi (by omega) Qw) (by simp) Z Z Z (by simp; omega) (by simp; omega) (Qa Z (hK _ ?_))
     refine Qf (Q2 (kp9 Z Z Z Z Z Z Z Z Z) (ZG fun K hK => Qa Z (Za Z Z (by first | exact Qq (by omega) (by omega) | rfl) (Qa Z (hK _ ?_)))))
     refine Qh (cs ++ [zr (versions[i]'(by omega)) 0], i + 1) ?_ ?_ ?_
     ·exact le_trans (Qgc (B := [_, _, _, _, _]) (500001 + us.length) (Qew _ _)) (Qnw (l := [0, 1, 5, 6, 7, 8, 9, 10, 11]) (B := [_, _, _, _, _]) (kp9 rfl rfl rfl rfl rfl rfl rfl rfl rfl) (by simp [D.scrub, e1, e2, e3, e4] <;> omega) hI.1.keys (by rw [List.map_append]; exact Qw) (by repeat (first | exact Qw | exact QiV (Qhx hI.1.keys) | refine Qi (by omega) ?_)) (by repeat (first | exact Qw | refine Qi (by omega) ?_)) (by intro p hp h; simp only [List.mem_cons, List.not_mem_nil, or_false] at hp; rcases hp with rfl | rfl | rfl | rfl | rfl <;> first | (simp only at h; omega) | exact .inl rfl | exact .inr rfl) (by intro p hp k hk; simp only [List.mem_cons, List.not_mem_nil, or_false] at hp; rcases hp with rfl | rfl | rfl | rfl | rfl | rfl | rfl | rfl | rfl <;> first | (simp [D.ids, D.sid, Q6, QR, Zv] at hk; done) | (simp [D.ids, D.sid, Q6, QR, Zv] at hk; subst hk; first | exact .inl rfl | exact .inr (.inl rfl) | exact .inr (.inr (.inl rfl)) | (refine .inr (.inr (.inl ?_)); simp; done) | (first | exact .inr (.inr ⟨_, List.mem_append_right _ (List.mem_singleton.2 rfl), rfl⟩) | exact .inr (.inr (.inr ⟨_, List.mem_append_right _ (List.mem_singleton.2 rfl), rfl⟩))))))
     ·try dsimp only
      exact ⟨by omega, hC.2.snoc (QkZ (by omega))⟩
     ·show 4 - (i + 1) < 4 - i; omega
    ·try rw [h4]
     try simp only [qA] at h4
     refine YN (Qf (Q2 (kp9 Z Z Z Z Z Z Z Z Z) (ZG fun K hK => Qa Z (Za Z Z (by first | exact Qq (by omega) (by omega) | rfl) (Qa Z (hK _ ?_))))))
     refine Qh (cs, i + 1) ?_ ?_ ?_
     ·exact Qnw (l := [0, 1, 5, 6, 7, 8, 9, 10, 11]) (B := [_, _, _]) (kp9 rfl rfl rfl rfl rfl rfl rfl rfl rfl) rfl hI.1.keys (by repeat (first | exact Qw | refine Qi (by omega) ?_)) (by repeat (first | exact Qw | refine Qi (by omega) ?_)) (by repeat (first | exact Qw | refine Qi (by omega) ?_)) (by intro p hp h; simp only [List.mem_cons, List.not_mem_nil, or_false] at hp; rcases hp with rfl | rfl | rfl <;> first | (simp only at h; omega) | exact .inl rfl | exact .inr rfl) (by intro p hp k hk; simp only [List.mem_cons, List.not_mem_nil, or_false] at hp; rcases hp with rfl | rfl | rfl | rfl | rfl | rfl | rfl | rfl | rfl <;> first | (simp [D.ids, D.sid, Q6, QR, Zv] at hk; done) | (simp [D.ids, D.sid, Q6, QR, Zv] at hk; subst hk; first | exact .inl rfl | exact .inr (.inl rfl) | exact .inr (.inr (.inl rfl)) | (refine .inr (.inr (.inl ?_)); simp; done) | (first | exact .inr (.inr ⟨_, List.mem_append_right _ (List.mem_singleton.2 rfl), rfl⟩) | exact .inr (.inr (.inr ⟨_, List.mem_append_right _ (List.mem_singleton.2 rfl), rfl⟩)))))
     ·try dsimp only
      exact ⟨by omega, hC.2.keep⟩
     ·show 4 - (i + 1) < 4 - i; omega
   ·try rw [h3]
    try simp only [qA] at h3
    refine Qb6 (YY (Qx (QC (Q2 (kp7 Z Z Z Z Z Z Z) (Q3 fun K hK => Qa Z (Qa Z (Qa Z (QM Z Z Z (by omega) (Zj (by omega)) Z (QF Z Z Z (Qa Z ?_))))))))))
    refine QZ Z Z ?_
    refine QL Z (by repeat (first | exact YJ hI.1.keys (.inl (by omega)) | exact YJ hK1.keys (.inl (by omega)) | refine Zr (by first | decide | omega) ?_)) ?_
    refine QhI (hk0 := by decide) Z Z (fun _ h => QaM Z Z Z h) (Qi (by omega) (Qi (by omega) Qw)) (by simp) Z Z (.inr (Qjb hI.1.keys (by omega))) (by simp; omega) (by simp; omega) (Qa Z (hK _ _ (QK (kp7 Z Z Z Z Z Z Z) ?_)))
    have hc4 : CsIn 4 cs := ⟨by omega, hC.2.2⟩
    refine QjH (le_trans (Qgc (B := [_, _, _, _, _]) 500000 (Qew _ _)) (Qoi (u := (UR.mk (names5[n]'(by have := Q9; omega)) [] (500001 + us.length) cs)) (l := [0, 1, 5, 6, 7, 8, 9]) (fr' := [(0, .ref kg 0 0), (1, .int .i64 most), (5, .sl (Yb names5)), (6, .osl 500000 (us ++ [(UR.mk (names5[n]'(by have := Q9; omega)) [] (500001 + us.length) cs)]).length), (7, .sl (versions.map dVr)), (8, .int .i64 n), (9, .osl (500001 + us.length) cs.length)]) (B := [_, _, _, _, _]) (kp7 rfl rfl rfl rfl rfl rfl rfl) (by simp [D.scrub, e1, e2, e3, e4]) hI.1.keys rfl (by repeat (first | exact Qw | refine Qi (by omega) ?_)) (by rw [List.map_append]; exact Qw) (by repeat (first | exact Qw | refine Qi (by omega) ?_)) (by intro p hp h; simp only [List.mem_cons, List.not_mem_nil, or_false] at hp; rcases hp with rfl | rfl | rfl | rfl | rfl <;> first | (simp only at h; omega) | exact .inl rfl | exact .inr rfl) hkg (by omega) (by intro p hp k hk; simp only [List.mem_cons, List.not_mem_nil, or_false] at hp; rcases hp with rfl | rfl | rfl | rfl | rfl | rfl | rfl <;> first | (simp [D.ids, D.sid, Q6, QR, Zv] at hk; done) | (simp [D.ids, D.sid, Q6, QR, Zv] at hk; subst hk; first | exact .inl rfl | exact .inr (.inl rfl) | (first | exact .inr (.inr ⟨_, List.mem_append_right _ (List.mem_singleton.2 rfl), rfl⟩) | exact .inr (.inr (.inr ⟨_, List.mem_append_right _ (List.mem_singleton.2 rfl), rfl⟩))))))) ?_
    have hK1 := hI.1.snoc (n := (names5[n]'(by have := Q9; omega))) (f := []) hc4.1 hc4.2
    have hl1 : (us ++ [(UR.mk (names5[n]'(by have := Q9; omega)) [] (500001 + us.length) cs)]).length = us.length + 1 := by simp
    have f1 : ¬ kg = 500001 + (us ++ [(UR.mk (names5[n]'(by have := Q9; omega)) [] (500001 + us.length) cs)]).length := by omega
    have f2 : ¬ 500000 = 500001 + (us ++ [(UR.mk (names5[n]'(by have := Q9; omega)) [] (500001 + us.length) cs)]).length := by omega
    have f4 : ¬ 500001 + (us ++ [(UR.mk (names5[n]'(by have := Q9; omega)) [] (500001 + us.length) cs)]).length = 500000 := by omega
    have f5 : ¬ 500001 + us.length = 500001 + (us ++ [(UR.mk (names5[n]'(by have := Q9; omega)) [] (500001 + us.length) cs)]).length := by omega
    refine Q3 fun K hK => Qa Z (Yz Z Z (Qa Z ?_))
    refine QB (g := 67) Z (fun h5 => ?_) (fun h5 => ?_)
    ·try rw [h5]
     try simp only [qA] at h5
     refine Qj Z (Qa Z (Qj Z ?_))
     refine Z5 (Xj (I := nxI (nxI J)) Z (by repeat (first | exact Qw | refine Qi (by omega) ?_)) hL (by omega)) ?_
     refine Qj Z (YP Z Z (Qn Z Z (hK _ _ (QK (kp8 Z Z Z Z Z Z Z Z) ?_))))
     refine Yv Z (fun h6 => ?_) (fun h6 => ?_)
     ·try rw [h6]
      try simp only [qA] at h6
      refine Q3 fun K hK => Qa Z (hK _ _ (QK (kp8 Z Z Z Z Z Z Z Z) ?_))
      refine Xz ?_ -- 6
      refine Q3 fun K hK => Qa Z (hK _ _ (QK (kp9 Z Z Z Z Z Z Z Z Z) ?_))
      refine Yt ?_
      refine QdE (ι := List CR × Nat × Int) (fun ⟨c2, m, J3⟩ => ⟨[(0, .ref kg 0 0), (1, .int .i64 most), (5, .sl (Yb names5)), (6, .osl 500000 (us ++ [(UR.mk (names5[n]'(by have := Q9; omega)) [] (500001 + us.length) cs)]).length), (7, .sl (versions.map dVr)), (8, .int .i64 n), (9, .osl (500001 + us.length) cs.length), (12, .osl (500001 + (us ++ [(UR.mk (names5[n]'(by have := Q9; omega)) [] (500001 + us.length) cs)]).length) c2.length), (13, .int .i64 m)], [(500001 + (us ++ [(UR.mk (names5[n]'(by have := Q9; omega)) [] (500001 + us.length) cs)]).length, ⟨(c2).map dCR, 8, 53, true⟩), (500000, ⟨(us ++ [(UR.mk (names5[n]'(by have := Q9; omega)) [] (500001 + us.length) cs)]).map dUR, 3, 45, false⟩), (kg, gB L (J3) eg)] ++ fbx 53 (us ++ [(UR.mk (names5[n]'(by have := Q9; omega)) [] (500001 + us.length) cs)])⟩) (fun ⟨c2, m, J3⟩ => m <= cs.length /\ CsIn m c2) (fun ⟨c2, m, J3⟩ => cs.length - m) ([], 0, nxI (nxI (nxI J))) ?_ ?_ ?_
      ·exact le_trans (Xe 12 (500001 + (us ++ [(UR.mk (names5[n]'(by have := Q9; omega)) [] (500001 + us.length) cs)]).length) 8 53 rfl (by repeat (first | exact YJ hK1.keys (.inr (by omega)) | refine Zr (by omega) ?_))) (Qnw (l := [0, 1, 5, 6, 7, 8, 9, 12, 13]) (B := [_, _, _, _]) (kp9 rfl rfl rfl rfl rfl rfl rfl rfl rfl) rfl hK1.keys (by repeat (first | exact Qw | refine Qi (by omega) ?_)) (by repeat (first | exact Qw | refine Qi (by omega) ?_)) (by repeat (first | exact Qw | refine Qi (by omega) ?_)) (by intro p hp h; simp only [List.mem_cons, List.not_mem_nil, or_false] at hp; rcases hp with rfl | rfl | rfl | rfl <;> first | (simp only at h; omega) | exact .inl rfl | exact .inr rfl) (by intro p hp k hk; simp only [List.mem_cons, List.not_mem_nil, or_false] at hp; rcases hp with rfl | rfl | rfl | rfl | rfl | rfl | rfl | rfl | rfl <;> first | (simp [D.ids, D.sid, Q6, QR, Zv] at hk; done) | (simp [D.ids, D.sid, Q6, QR, Zv] at hk; subst hk; first | exact .inl rfl | exact .inr (.inl rfl) | exact .inr (.inr (.inl rfl)) | (refine .inr (.inr (.inl ?_)); simp; done) | (first | exact .inr (.inr ⟨_, List.mem_append_right _ (List.mem_singleton.2 rfl), rfl⟩) | exact .inr (.inr (.inr ⟨_, List.mem_append_right _ (List.mem_singleton.2 rfl), rfl⟩))))))
      ·exact ⟨by omega, CsIn.nil _⟩
      intro ⟨c2, m, J3⟩ hM
      try dsimp only at hM
      have hcl2 := hM.2.1
      try dsimp only
      refine Xz ?_ -- 7
      refine Q3 fun K hK => Qa Z (Qa Z ?_)
      first | refine Q7 rfl Zf ?_ | refine Q7 rfl rfl ?_
      refine Yz Z Z (hK _ _ (QK (QnV Z Z Z Z Z Z Z Z Z Z) ?_))
      refine Yv Z (fun h7 => ?_) (fun h7 => ?_)
      ·try rw [h7]
       try simp only [qA] at h7
       refine YN (Q2 (kp9 Z Z Z Z Z Z Z Z Z) ?_)
       refine Xz ?_ -- 8
       refine Yt (Q3 fun K hK => Qa Z ?_)
       refine Z5 (Xj (I := J3) Z (by repeat (first | exact Qw | refine Qi (by omega) ?_)) hL (by omega)) ?_
       refine Qcs Z Z (hK _ _ (QK (QnV Z Z Z Z Z Z Z Z Z Z) ?_))
       refine Yv Z (fun h8 => ?_) (fun h8 => ?_)
       ·try rw [h8]
        try simp only [qA] at h8
        refine ZG fun K hK => Qa Z (Qa Z (Qa Z (XQ Z Z (Qi (by omega) (Qi (by omega) (Qi (by omega) (Qi (by omega) (Qf0 (u := (UR.mk (names5[n]'(by have := Q9; omega)) [] (500001 + us.length) cs)) hI.1.keys Z))))) (by simp) (by omega) (by omega) Z (Qm Z (Zp (Qi (by omega) (Qi (by omega) (Qi (by omega) (Qi (by omega) (Qf0 (u := (UR.mk (names5[n]'(by have := Q9; omega)) [] (500001 + us.length) cs)) hI.1.keys Z)))))) (QP (cs := [_, _, _, _, _]) Z (Ye (Qi (by omega) (Qi (by omega) (Qi (by omega) (Qi (by omega) (Qf0 (u := (UR.mk (names5[n]'(by have := Q9; omega)) [] (500001 + us.length) cs)) hI.1.keys Z))))) (Zj (l := cs) (by omega))) Z Z (QZ Z Z ?_))))))
        refine QL Z (by repeat (first | exact YJ hI.1.keys (.inl (by omega)) | exact YJ hK1.keys (.inl (by omega)) | refine Zr (by first | decide | omega) ?_)) ?_
        refine QaC (hk0 := by omega) Z Z (fun _ h => QaM Z Z Z h) (Qi (by omega) (Qi (by omega) Qw)) (by simp) Z Z Z (by simp; omega) (by simp; omega) (Qa Z (hK _ ?_))
        refine Qf (Q2 (kp9 Z Z Z Z Z Z Z Z Z) (ZG fun K hK => Qa Z (Za Z Z (by first | exact Qq (by omega) (by omega) | rfl) (Qa Z (hK _ ?_)))))
        refine Qh (c2 ++ [zr (cs[m]'(by omega)).v 0], m + 1, nxI J3) ?_ ?_ ?_
        ·exact le_trans (Qgc (B := [_, _, _, _, _, _]) (500001 + (us ++ [(UR.mk (names5[n]'(by have := Q9; omega)) [] (500001 + us.length) cs)]).length) (Qew _ _)) (Qnw (l := [0, 1, 5, 6, 7, 8, 9, 12, 13]) (B := [_, _, _, _, _, _]) (kp9 rfl rfl rfl rfl rfl rfl rfl rfl rfl) (by simp [D.scrub, f1, f2, f4, f5] <;> omega) hK1.keys (by rw [QmS (cs := c2)]; exact Qw) (by repeat (first | exact Qw | exact QiV (Qhx hK1.keys) | refine Qi (by omega) ?_)) (by repeat (first | exact Qw | refine Qi (by omega) ?_)) (by intro p hp h; simp only [List.mem_cons, List.not_mem_nil, or_false] at hp; rcases hp with rfl | rfl | rfl | rfl | rfl | rfl <;> first | (simp only at h; omega) | exact .inl rfl | exact .inr rfl) (by intro p hp k hk; simp only [List.mem_cons, List.not_mem_nil, or_false] at hp; rcases hp with rfl | rfl | rfl | rfl | rfl | rfl | rfl | rfl | rfl <;> first | (simp [D.ids, D.sid, Q6, QR, Zv] at hk; done) | (simp [D.ids, D.sid, Q6, QR, Zv] at hk; subst hk; first | exact .inl rfl | exact .inr (.inl rfl) | exact .inr (.inr (.inl rfl)) | (refine .inr (.inr (.inl ?_)); simp; done) | (first | exact .inr (.inr ⟨_, List.mem_append_right _ (List.mem_singleton.2 rfl), rfl⟩) | exact .inr (.inr (.inr ⟨_, List.mem_append_right _ (List.mem_singleton.2 rfl), rfl⟩))))))
        ·try dsimp only
         exact ⟨by omega, hM.2.snoc (hC.2.at (by omega))⟩
        ·show cs.length - (m + 1) < cs.length - m; omega
       ·try rw [h8]
        try simp only [qA] at h8
        refine YN (Qf (Q2 (kp9 Z Z Z Z Z Z Z Z Z) (ZG fun K hK => Qa Z (Za Z Z (by first | exact Qq (by omega) (by omega) | rfl) (Qa Z (hK _ ?_))))))
        refine Qh (c2, m + 1, nxI J3) ?_ ?_ ?_
        ·exact Qnw (l := [0, 1, 5, 6, 7, 8, 9, 12, 13]) (B := [_, _, _, _]) (kp9 rfl rfl rfl rfl rfl rfl rfl rfl rfl) rfl hK1.keys (by repeat (first | exact Qw | refine Qi (by omega) ?_)) (by repeat (first | exact Qw | refine Qi (by omega) ?_)) (by repeat (first | exact Qw | refine Qi (by omega) ?_)) (by intro p hp h; simp only [List.mem_cons, List.not_mem_nil, or_false] at hp; rcases hp with rfl | rfl | rfl | rfl <;> first | (simp only at h; omega) | exact .inl rfl | exact .inr rfl) (by intro p hp k hk; simp only [List.mem_cons, List.not_mem_nil, or_false] at hp; rcases hp with rfl | rfl | rfl | rfl | rfl | rfl | rfl | rfl | rfl <;> first | (simp [D.ids, D.sid, Q6, QR, Zv] at hk; done) | (simp [D.ids, D.sid, Q6, QR, Zv] at hk; subst hk; first | exact .inl rfl | exact .inr (.inl rfl) | exact .inr (.inr (.inl rfl)) | (refine .inr (.inr (.inl ?_)); simp; done) | (first | exact .inr (.inr ⟨_, List.mem_append_right _ (List.mem_singleton.2 rfl), rfl⟩) | exact .inr (.inr (.inr ⟨_, List.mem_append_right _ (List.mem_singleton.2 rfl), rfl⟩)))))
        ·try dsimp only
         exact ⟨by omega, hM.2.keep⟩
        ·show cs.length - (m + 1) < cs.length - m; omega
      ·try rw [h7]
       try simp only [qA] at h7
       refine Qb6 (YY (Qx (QC (Q2 (kp7 Z Z Z Z Z Z Z) (ZG fun K hK => Qa Z (Qa Z (Qa Z (QM Z Z Z (by omega) (Zj (by omega)) Z (QF Z Z Z (Qa Z ?_))))))))))
       refine QZ Z Z ?_
       refine QL Z (by repeat (first | exact YJ hI.1.keys (.inl (by omega)) | exact YJ hK1.keys (.inl (by omega)) | refine Zr (by first | decide | omega) ?_)) ?_
       refine QhI (hk0 := by decide) Z Z (fun _ h => QaM Z Z Z h) (Qi (by omega) (Qi (by omega) Qw)) (by simp) Z Z (.inr (Qjb hK1.keys (by omega))) (by simp; omega) (by simp; omega) (Qa Z (hK _ ?_))
       refine Qf (Q2 (kp6 Z Z Z Z Z Z) (ZG fun K hK => Qa Z (Za Z Z (by first | exact Qq (by omega) (by omega) | rfl) (Qa Z (hK _ ?_)))))
       refine Qh (us ++ [(UR.mk (names5[n]'(by have := Q9; omega)) [] (500001 + us.length) cs)] ++ [(UR.mk (names5[n]'(by have := Q9; omega)) [102] (500001 + (us ++ [(UR.mk (names5[n]'(by have := Q9; omega)) [] (500001 + us.length) cs)]).length) c2)], J3, n + 1) ?_ ?_ ?_
       ·exact le_trans (Qgc (B := [_, _, _, _, _]) 500000 (Qew _ _)) (Qoi (u := (UR.mk (names5[n]'(by have := Q9; omega)) [102] (500001 + (us ++ [(UR.mk (names5[n]'(by have := Q9; omega)) [] (500001 + us.length) cs)]).length) c2)) (l := [0, 1, 5, 6, 7, 8]) (B := [_, _, _, _, _]) (kp6 rfl rfl rfl rfl rfl rfl) (by simp [D.scrub, f1, f2, e3, f4, e4] <;> omega) hK1.keys rfl (by repeat (first | exact Qw | refine Qi (by omega) ?_)) (by rw [Qni (u := (UR.mk (names5[n]'(by have := Q9; omega)) [102] (500001 + (us ++ [(UR.mk (names5[n]'(by have := Q9; omega)) [] (500001 + us.length) cs)]).length) c2))]; exact Qw) (by repeat (first | exact Qw | refine Qi (by omega) ?_)) (by intro p hp h; simp only [List.mem_cons, List.not_mem_nil, or_false] at hp; rcases hp with rfl | rfl | rfl | rfl | rfl <;> first | (simp only at h; omega) | exact .inl rfl | exact .inr rfl) hkg (by omega) (by intro p hp k hk; simp only [List.mem_cons, List.not_mem_nil, or_false] at hp; rcases hp with rfl | rfl | rfl | rfl | rfl | rfl <;> first | (simp [D.ids, D.sid, Q6, QR, Zv] at hk; done) | (simp [D.ids, D.sid, Q6, QR, Zv] at hk; subst hk; first | exact .inl rfl | exact .inr (.inl rfl) | (first | exact .inr (.inr ⟨_, List.mem_append_right _ (List.mem_singleton.2 rfl), rfl⟩) | exact .inr (.inr (.inr ⟨_, List.mem_append_right _ (List.mem_singleton.2 rfl), rfl⟩))))))
       ·try dsimp only
        exact ⟨hK1.snoc (by omega) hM.2.2, by simp; omega, by omega, by simp; omega⟩
       ·show 5 - (n + 1) < 5 - n; omega
     ·try rw [h6]
      try simp only [qA] at h6
      refine YN (Qf (Q2 (kp6 Z Z Z Z Z Z) (ZG fun K hK => Qa Z (Za Z Z (by first | exact Qq (by omega) (by omega) | rfl) (Qa Z (hK _ ?_))))))
      refine Qh (us ++ [(UR.mk (names5[n]'(by have := Q9; omega)) [] (500001 + us.length) cs)], nxI (nxI (nxI J)), n + 1) ?_ ?_ ?_
      ·exact Qo5 (l := [0, 1, 5, 6, 7, 8]) (B := [_, _, _]) (kp6 rfl rfl rfl rfl rfl rfl) rfl hK1.keys (by repeat (first | exact Qw | refine Qi (by omega) ?_)) (by repeat (first | exact Qw | refine Qi (by omega) ?_)) (by intro p hp h; simp only [List.mem_cons, List.not_mem_nil, or_false] at hp; rcases hp with rfl | rfl | rfl <;> first | (simp only at h; omega) | rfl) (by omega) (by intro p hp k hk; simp only [List.mem_cons, List.not_mem_nil, or_false] at hp; rcases hp with rfl | rfl | rfl | rfl | rfl | rfl <;> first | (simp [D.ids, D.sid, Q6, QR, Zv] at hk; done) | (simp [D.ids, D.sid, Q6, QR, Zv] at hk; subst hk; first | exact .inl rfl | exact .inr (.inl rfl) | (first | exact .inr (.inr ⟨_, List.mem_append_right _ (List.mem_singleton.2 rfl), rfl⟩) | exact .inr (.inr (.inr ⟨_, List.mem_append_right _ (List.mem_singleton.2 rfl), rfl⟩)))))
      ·try dsimp only
       exact ⟨hK1, by simp; omega, by omega, by simp; omega⟩
      ·show 5 - (n + 1) < 5 - n; omega
    ·try rw [h5]
     try simp only [qA] at h5
     refine Qy Z (Qy Z (Qy Z (Qn Z Z (hK _ _ (QK (kp8 Z Z Z Z Z Z Z Z) ?_)))))
     refine QhJ Z (YN (Qf (Q2 (kp6 Z Z Z Z Z Z) (ZG fun K hK => Qa Z (Za Z Z (by first | exact Qq (by omega) (by omega) | rfl) (Qa Z (hK _ ?_)))))))
     refine Qh (us ++ [(UR.mk (names5[n]'(by have := Q9; omega)) [] (500001 + us.length) cs)], nxI (nxI J), n + 1) ?_ ?_ ?_
     ·exact Qo5 (l := [0, 1, 5, 6, 7, 8]) (B := [_, _]) (kp6 rfl rfl rfl rfl rfl rfl) rfl hK1.keys (by repeat (first | exact Qw | refine Qi (by omega) ?_)) (by repeat (first | exact Qw | refine Qi (by omega) ?_)) (by intro p hp h; simp only [List.mem_cons, List.not_mem_nil, or_false] at hp; rcases hp with rfl | rfl <;> first | (simp only at h; omega) | rfl) (by omega) (by intro p hp k hk; simp only [List.mem_cons, List.not_mem_nil, or_false] at hp; rcases hp with rfl | rfl | rfl | rfl | rfl | rfl <;> first | (simp [D.ids, D.sid, Q6, QR, Zv] at hk; done) | (simp [D.ids, D.sid, Q6, QR, Zv] at hk; subst hk; first | exact .inl rfl | exact .inr (.inl rfl) | (first | exact .inr (.inr ⟨_, List.mem_append_right _ (List.mem_singleton.2 rfl), rfl⟩) | exact .inr (.inr (.inr ⟨_, List.mem_append_right _ (List.mem_singleton.2 rfl), rfl⟩)))))
     ·try dsimp only
      exact ⟨hK1, by simp; omega, by omega, by simp; omega⟩
     ·show 5 - (n + 1) < 5 - n; omega
  ·try rw [h2]
   try simp only [qA] at h2
   refine Qb6 (YY (Qx (QC (Q2 (kp1 Z) (Q3 fun K hK => Qa Z (Qa Z (hK _ _ (QK (kp1 Z) ?_))))))))
   refine Qe2 ?_
   refine ⟨.osl 500000 us.length, ((500000, ⟨us.map dUR, 3, 45, false⟩) :: fbx 53 us) ++ [(kg, gB L (nxI J) eg), (kg, gB L I eg)], ⟨us, _, ⟨hI.1, by omega, by omega⟩, rfl, rfl⟩, (QaN (g3 := gB L J eg) hI.1.keys hkg Z Z (by omega)).1, (QaN (g3 := gB L J eg) hI.1.keys hkg Z Z (by omega)).2.1, X9 Z Z (QaN (g3 := gB L J eg) hI.1.keys hkg Z Z (by omega)).2.2⟩
 ·try rw [h1]
  try simp only [qA] at h1
  refine Qy Z (Qy Z (Qy Z (Qy Z (Qn Z Z (hK _ _ (QK (kp7 Z Z Z Z Z Z Z) ?_))))))
  refine QhJ Z (Qb6 (YY (Qx (QC (Q2 (kp1 Z) (Q3 fun K hK => Qa Z (Qa Z (hK _ _ (QK (kp1 Z) ?_)))))))))
  refine Qe2 ?_
  refine ⟨.osl 500000 us.length, ((500000, ⟨us.map dUR, 3, 45, false⟩) :: fbx 53 us) ++ [(kg, gB L (nxI J) eg), (kg, gB L I eg)], ⟨us, _, ⟨hI.1, by omega, by omega⟩, rfl, rfl⟩, (QaN (g3 := gB L J eg) hI.1.keys hkg Z Z (by omega)).1, (QaN (g3 := gB L J eg) hI.1.keys hkg Z Z (by omega)).2.1, X9 Z Z (QaN (g3 := gB L J eg) hI.1.keys hkg Z Z (by omega)).2.2⟩
end Go.Proofs
