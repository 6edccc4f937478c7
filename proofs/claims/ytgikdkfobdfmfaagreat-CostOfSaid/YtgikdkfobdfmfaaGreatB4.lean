/- Part 4 of the means of the proof: a verified abstract evaluator, the prepared functions, and contracts of functions. It states nothing of the claim by itself. -/
import Derived.Test.YtgikdkfobdfmfaaGreatB3
set_option maxRecDepth 4000
set_option linter.unusedSimpArgs false
set_option linter.unusedVariables false
namespace Go.Proofs
open Go Go.Abs M3
set_option linter.unusedVariables false
set_option linter.unusedSimpArgs false
theorem Qat {s : List UInt8} (hl : s.length <= 1000000) : Ok Tryz.prog 97 [.str s] (.tup [.int .i64 (Ya s).1, .bool (Ya s).2]) := by
 refine Ok.ofT ZY Tryz.func97 QqL (Nat.le_of_ble_eq_true Z) ?_
 show TW _ _ tf97.body _ _
 refine Qe fun K hK => Qa Z (Qa Z (hK _ _ (Qb (kp1 Z) ?_)))
 refine Qg4 (ι := Unit) (fun _u => ⟨[(0, .str s)], []⟩) (fun _u => ¬ (s = [] \/ 4 < s.length \/ (1 < s.length /\ s.head? = some 48))) ?_ ?_
 ·skip
  refine Qe fun K hK => Qa Z (Qbd Z Z (Qa Z ?_))
  refine QA (g := 9) Z (fun h1 => ?_) (fun h1 => ?_)
  ·try rw [h1]
   try simp only [qB, Bool.and_eq_true, Bool.and_eq_false_iff, decide_eq_true_eq] at h1
   refine Qz Z (Qz Z (Qz Z (Qk Z Z (Qa Z (Qz Z (Qz Z (Qz Z (Qz Z (QZ Z (QZ Z (QZ Z ?_)))))))))))
   refine Qz Z (Qk Z Z (hK _ _ (Qb (kp2 Z Z) ?_)))
   refine Zy Z (Qe fun K hK => Qa Z (Qa Z (hK _ _ (Qb (kp2 Z Z) ?_))))
   refine Qu (QbX (ZS Z Z ?_))
   first | (rw [Qap (s := s) (by first | (left; assumption) | (right; omega))]; exact ⟨rfl, rfl⟩) | (rw [YC (s := s) (by omega) (by assumption)]; exact ⟨rfl, rfl⟩) | (rw [Xj (s := s) (i := i) (by omega) (by simp [Yl]; omega)]; exact ⟨rfl, rfl⟩) | (rw [QbK (s := s) (i := i) hJ (by omega) hI.2.1]; exact ⟨rfl, by simp [Qad, D.fz, D.fzS, D.can, D.canS]; omega⟩)
  ·try rw [h1]
   try simp only [qB, Bool.and_eq_true, Bool.and_eq_false_iff, decide_eq_true_eq] at h1
   refine Qi Z (Qa Z (Qi Z (Ym Z (Qi Z (QbR Z Z (Qk Z Z (Qa Z ?_)))))))
   refine QA (g := 14) Z (fun h2 => ?_) (fun h2 => ?_)
   ·try rw [h2]
    try simp only [qB, Bool.and_eq_true, Bool.and_eq_false_iff, decide_eq_true_eq] at h2
    refine Qz Z (Qz Z (Qz Z (Qz Z (QZ Z (QZ Z (QZ Z (Qz Z (Qk Z Z (hK _ _ (Qb (kp2 Z Z) ?_))))))))))
    refine Zy Z (Qe fun K hK => Qa Z (Qa Z (hK _ _ (Qb (kp2 Z Z) ?_))))
    refine Qu (QbX (ZS Z Z ?_))
    first | (rw [Qap (s := s) (by first | (left; assumption) | (right; omega))]; exact ⟨rfl, rfl⟩) | (rw [YC (s := s) (by omega) (by assumption)]; exact ⟨rfl, rfl⟩) | (rw [Xj (s := s) (i := i) (by omega) (by simp [Yl]; omega)]; exact ⟨rfl, rfl⟩) | (rw [QbK (s := s) (i := i) hJ (by omega) hI.2.1]; exact ⟨rfl, by simp [Qad, D.fz, D.fzS, D.can, D.canS]; omega⟩)
   ·try rw [h2]
    try simp only [qB, Bool.and_eq_true, Bool.and_eq_false_iff, decide_eq_true_eq] at h2
    refine Qi Z (Qa Z (Qi Z (Yd Z Z (by omega) (XR (i := 0) (List.length_pos_iff.2 (by assumption))) (Qi Z (YF Z Z (Qi Z (Qa Z ?_)))))))
    refine QA (g := 18) Z (fun h3 => ?_) (fun h3 => ?_)
    ·try rw [h3]
     try simp only [qB, Bool.and_eq_true, Bool.and_eq_false_iff, decide_eq_true_eq] at h3
     refine Qi Z (Qa Z (Qi Z (Ym Z (Qi Z (QbR Z Z (Qi Z (Qk Z Z (Qk Z Z (hK _ _ (Qb (kp2 Z Z) ?_))))))))))
     refine Qx Z (fun h4 => ?_) (fun h4 => ?_)
     ·try rw [h4]
      try simp only [qB, Bool.and_eq_true, Bool.and_eq_false_iff, decide_eq_true_eq] at h4
      refine Qe fun K hK => Qa Z (Qa Z (hK _ _ (Qb (kp2 Z Z) ?_)))
      refine Qu (QbX (ZS Z Z ?_))
      first | (rw [Qap (s := s) (by first | (left; assumption) | (right; omega))]; exact ⟨rfl, rfl⟩) | (rw [YC (s := s) (by omega) (by assumption)]; exact ⟨rfl, rfl⟩) | (rw [Xj (s := s) (i := i) (by omega) (by simp [Yl]; omega)]; exact ⟨rfl, rfl⟩) | (rw [QbK (s := s) (i := i) hJ (by omega) hI.2.1]; exact ⟨rfl, by simp [Qad, D.fz, D.fzS, D.can, D.canS]; omega⟩)
     ·try rw [h4]
      try simp only [qB, Bool.and_eq_true, Bool.and_eq_false_iff, decide_eq_true_eq] at h4
      refine Qv ?_
      refine Zv () ?_ ?_
      ·exact QP (kp1 rfl)
      ·rintro (q | q | q) <;> first | (simp_all; done) | omega | exact Qgp (s := s) (by omega) (by assumption) q.2
    ·try rw [h3]
     try simp only [qB, Bool.and_eq_true, Bool.and_eq_false_iff, decide_eq_true_eq] at h3
     refine Qz Z (Qz Z (Qz Z (Qi Z (Qk Z Z (Qk Z Z (hK _ _ (Qb (kp2 Z Z) ?_)))))))
     refine Zp Z (Qv ?_)
     refine Zv () ?_ ?_
     ·exact QP (kp1 rfl)
     ·rintro (q | q | q) <;> first | (simp_all; done) | omega | exact Qgp (s := s) (by omega) (by assumption) q.2
 intro _u hJ
 try dsimp only
 refine Qe fun K hK => Qa Z (hK _ _ (Qb (kp2 Z Z) ?_))
 refine QF ?_ -- 1
 refine Qe fun K hK => Qa Z (Qj7 Z Z (hK _ _ (Qb (kp2 Z Z) ?_)))
 refine QC ?_
 refine ZB (ι := Nat) (fun i => ⟨[(4, .int .i64 (val (s.take i))), (25, .ref 25 0 0)], [(25, ⟨[], 0, Zr s i, false⟩)]⟩) (fun i => i <= s.length /\ (s.take i).all Yl = true /\ s.length <= 4 /\ 0 < s.length) (fun i => s.length - i) 0 ?_ ?_ ?_
 ·exact Za (l := [4, 25]) (lH := [25]) (kp2 rfl rfl) (Qf rfl Qq) (by simp [val]) rfl rfl
 ·exact ⟨Nat.zero_le _, rfl, Nat.le_of_not_lt fun h => hJ (.inr (.inl h)), List.length_pos_iff.2 fun h => hJ (.inl h)⟩
 intro i hI
 have hv := Qlg (s := s.take i) hI.2.1
 have hp : 10 ^ (s.take i).length <= 10 ^ 4 := Nat.pow_le_pow_right (by omega) (by simp; omega)
 have hI1 := hI.1
 have hI3 := hI.2.2.1
 try dsimp only
 refine Qe fun K hK => ?_
 rcases Nat.lt_or_ge (i) (s).length with h5 | h5
 ·rcases Nat.lt_or_ge (((s)[i]).toNat) 128 with h6 | h6
  ·refine QiV Z Z h5 (Qhj h5 h6) (Zj Z Z (hK _ _ (Qb (kp4 Z Z Z Z) ?_)))
   refine QF ?_ -- 2
   refine Zy Z (Qv (Qd (kp3 Z Z Z) (QC (Qe fun K hK => Zj Z Z (Qa Z (hK _ _ (Qb (kp3 Z Z Z) ?_)))))))
   refine QC (Qe fun K hK => Qa Z (QiT Z Z (Qa Z ?_)))
   refine QA (g := 32) Z (fun h7 => ?_) (fun h7 => ?_)
   ·try rw [h7]
    try simp only [qB, Bool.and_eq_true, Bool.and_eq_false_iff, decide_eq_true_eq] at h7
    refine Qi Z (Qa Z (Qi Z (Qj0 Z Z (Qk Z Z (Qa Z (hK _ _ (Qb (kp4 Z Z Z Z) ?_)))))))
    refine Qx Z (fun h8 => ?_) (fun h8 => ?_)
    ·try rw [h8]
     try simp only [qB, Bool.and_eq_true, Bool.and_eq_false_iff, decide_eq_true_eq] at h8
     refine QO fun K hK => Qa Z (QmN Z Z (by first | exact Qr (by omega) (by omega) | exact QG (by omega) (by omega) | exact QL (by omega) (by omega) | rfl) (Qa Z (Qbn Z Z (by first | exact Qr (by omega) (by omega) | exact QG (by omega) (by omega) | exact QL (by omega) (by omega) | rfl) (Qen Z (by first | exact Qr (by omega) (by omega) | exact QG (by omega) (by omega) | exact QL (by omega) (by omega) | rfl) (Q7 Z Z (by first | exact Qr (by omega) (by omega) | exact QG (by omega) (by omega) | exact QL (by omega) (by omega) | rfl) (Qa Z (hK _ ?_)))))))
     refine Qg (Qg ?_)
     refine Qh (i + 1) ?_ ?_ ?_
     ·first | exact Za (l := [4, 25]) (lH := [25]) (kp2 rfl rfl) (Qf rfl Qq) rfl rfl rfl | exact Za (l := [4, 25]) (lH := [25]) (kp2 rfl rfl) (Qf rfl Qq) (by rw [Qeg (by omega)]; simp; omega) rfl rfl | (exfalso; omega)
     ·first | exact ⟨by omega, Zg (by omega) hI.2.1 (by simp [Yl]; omega), hI.2.2⟩ | (exfalso; omega)
     ·first | omega | (simp only; omega) | (dsimp only; omega)
    ·try rw [h8]
     try simp only [qB, Bool.and_eq_true, Bool.and_eq_false_iff, decide_eq_true_eq] at h8
     refine Qe fun K hK => Qa Z (Qa Z (hK _ _ (Qb (kp2 Z Z) ?_)))
     refine Qu (Qs (Qs (Q3 (Qs (Qj (ZS Z Z ?_))))))
     first | (rw [Qap (s := s) (by first | (left; assumption) | (right; omega))]; exact ⟨rfl, rfl⟩) | (rw [YC (s := s) (by omega) (by assumption)]; exact ⟨rfl, rfl⟩) | (rw [Xj (s := s) (i := i) (by omega) (by simp [Yl]; omega)]; exact ⟨rfl, rfl⟩) | (rw [QbK (s := s) (i := i) hJ (by omega) hI.2.1]; exact ⟨rfl, by simp [Qad, D.fz, D.fzS, D.can, D.canS]; omega⟩)
   ·try rw [h7]
    try simp only [qB, Bool.and_eq_true, Bool.and_eq_false_iff, decide_eq_true_eq] at h7
    refine Qz Z (Qz Z (Qk Z Z (Qa Z (hK _ _ (Qb (kp4 Z Z Z Z) ?_)))))
    refine Zp Z (Qe fun K hK => Qa Z (Qa Z (hK _ _ (Qb (kp2 Z Z) ?_))))
    refine Qu (Qs (Qs (Q3 (Qs (Qj (ZS Z Z ?_))))))
    first | (rw [Qap (s := s) (by first | (left; assumption) | (right; omega))]; exact ⟨rfl, rfl⟩) | (rw [YC (s := s) (by omega) (by assumption)]; exact ⟨rfl, rfl⟩) | (rw [Xj (s := s) (i := i) (by omega) (by simp [Yl]; omega)]; exact ⟨rfl, rfl⟩) | (rw [QbK (s := s) (i := i) hJ (by omega) hI.2.1]; exact ⟨rfl, by simp [Qad, D.fz, D.fzS, D.can, D.canS]; omega⟩)
  ·obtain ⟨cwh6, nwh6, hch6, hdh6⟩ := Qi3 h5 h6
   refine QiV Z Z h5 hdh6 (Zj Z Z (hK _ _ (Qb (kp4 Z Z Z Z) ?_)))
   refine QF ?_ -- 2
   refine Zy Z (Qv (Qd (kp3 Z Z Z) (QC (Qe fun K hK => Zj Z Z (Qa Z (hK _ _ (Qb (kp3 Z Z Z) ?_)))))))
   refine QC (Qe fun K hK => Qa Z (QiT Z Z (Qa Z ?_)))
   refine QA (g := 32) Z (fun h9 => ?_) (fun h9 => ?_)
   ·try rw [h9]
    try simp only [qB, Bool.and_eq_true, Bool.and_eq_false_iff, decide_eq_true_eq] at h9
    refine Qi Z (Qa Z (Qi Z (Qj0 Z Z (Qk Z Z (Qa Z (hK _ _ (Qb (kp4 Z Z Z Z) ?_)))))))
    refine Qx Z (fun h10 => ?_) (fun h10 => ?_)
    ·try rw [h10]
     try simp only [qB, Bool.and_eq_true, Bool.and_eq_false_iff, decide_eq_true_eq] at h10
     refine QO fun K hK => Qa Z (QmN Z Z (by first | exact Qr (by omega) (by omega) | exact QG (by omega) (by omega) | exact QL (by omega) (by omega) | rfl) (Qa Z (Qbn Z Z (by first | exact Qr (by omega) (by omega) | exact QG (by omega) (by omega) | exact QL (by omega) (by omega) | rfl) (Qen Z (by first | exact Qr (by omega) (by omega) | exact QG (by omega) (by omega) | exact QL (by omega) (by omega) | rfl) (Q7 Z Z (by first | exact Qr (by omega) (by omega) | exact QG (by omega) (by omega) | exact QL (by omega) (by omega) | rfl) (Qa Z (hK _ ?_)))))))
     refine Qg (Qg ?_)
     refine Qh (i + 1) ?_ ?_ ?_
     ·first | exact Za (l := [4, 25]) (lH := [25]) (kp2 rfl rfl) (Qf rfl Qq) rfl rfl rfl | exact Za (l := [4, 25]) (lH := [25]) (kp2 rfl rfl) (Qf rfl Qq) (by rw [Qeg (by omega)]; simp; omega) rfl rfl | (exfalso; omega)
     ·first | exact ⟨by omega, Zg (by omega) hI.2.1 (by simp [Yl]; omega), hI.2.2⟩ | (exfalso; omega)
     ·first | omega | (simp only; omega) | (dsimp only; omega)
    ·try rw [h10]
     try simp only [qB, Bool.and_eq_true, Bool.and_eq_false_iff, decide_eq_true_eq] at h10
     refine Qe fun K hK => Qa Z (Qa Z (hK _ _ (Qb (kp2 Z Z) ?_)))
     refine Qu (Qs (Qs (Q3 (Qs (Qj (ZS Z Z ?_))))))
     first | (rw [Qap (s := s) (by first | (left; assumption) | (right; omega))]; exact ⟨rfl, rfl⟩) | (rw [YC (s := s) (by omega) (by assumption)]; exact ⟨rfl, rfl⟩) | (rw [Xj (s := s) (i := i) (by omega) (by simp [Yl]; omega)]; exact ⟨rfl, rfl⟩) | (rw [QbK (s := s) (i := i) hJ (by omega) hI.2.1]; exact ⟨rfl, by simp [Qad, D.fz, D.fzS, D.can, D.canS]; omega⟩)
   ·try rw [h9]
    try simp only [qB, Bool.and_eq_true, Bool.and_eq_false_iff, decide_eq_true_eq] at h9
    refine Qz Z (Qz Z (Qk Z Z (Qa Z (hK _ _ (Qb (kp4 Z Z Z Z) ?_)))))
    refine Zp Z (Qe fun K hK => Qa Z (Qa Z (hK _ _ (Qb (kp2 Z Z) ?_))))
    refine Qu (Qs (Qs (Q3 (Qs (Qj (ZS Z Z ?_))))))
    first | (rw [Qap (s := s) (by first | (left; assumption) | (right; omega))]; exact ⟨rfl, rfl⟩) | (rw [YC (s := s) (by omega) (by assumption)]; exact ⟨rfl, rfl⟩) | (rw [Xj (s := s) (i := i) (by omega) (by simp [Yl]; omega)]; exact ⟨rfl, rfl⟩) | (rw [QbK (s := s) (i := i) hJ (by omega) hI.2.1]; exact ⟨rfl, by simp [Qad, D.fz, D.fzS, D.can, D.canS]; omega⟩)
 ·refine Qg2 Z Z (by omega) (Zj Z Z (hK _ _ (Qb (kp4 Z Z Z Z) ?_)))
  refine QF ?_ -- 2
  refine Zp Z (Zf (QH (Qt (QB (Qd (kp1 Z) (Qe fun K hK => Qa Z (Qa Z (Qj0 Z Z (Qa Z (Qa Z ?_))))))))))
  refine hK _ _ (Qb (kp2 Z Z) ?_)
  refine Qu (ZS Z Z ?_)
  first | (rw [Qap (s := s) (by first | (left; assumption) | (right; omega))]; exact ⟨rfl, rfl⟩) | (rw [YC (s := s) (by omega) (by assumption)]; exact ⟨rfl, rfl⟩) | (rw [Xj (s := s) (i := i) (by omega) (by simp [Yl]; omega)]; exact ⟨rfl, rfl⟩) | (rw [QbK (s := s) (i := i) hJ (by omega) hI.2.1]; exact ⟨rfl, by simp [Qad, D.fz, D.fzS, D.can, D.canS]; omega⟩)
theorem Qav {s : List UInt8} (hl : s.length <= 1000000) : Ok Tryz.prog 94 [.str s] (.bool (Qco s)) := by
 refine Ok.ofT ZY Tryz.func94 QqI (Nat.le_of_ble_eq_true Z) ?_
 show TW _ _ tf94.body _ _
 refine Qe fun K hK => Qa Z (hK _ _ (Qb (kp1 Z) ?_))
 refine QmQ (Qe fun K hK => Qa Z (QE (XU (by omega)) Z Z (.inl Z) (Qa Z (hK _ _ (Qb (kp1 Z) ?_)))))
 refine Qe fun K hK => Qa Z (QQ Z Z (Qj0 Z Z (Qa Z (hK _ _ (Qb (kp2 Z Z) ?_)))))
 refine QF ?_ -- 0
 refine Qv (Qd (kp2 Z Z) ?_)
 refine QF ?_ -- 1
 refine Qe fun K hK => Qa Z (QQ Z Z (Qa Z (hK _ _ (Qb (kp4 Z Z Z Z) ?_))))
 refine QC ?_
 refine ZB (ι := Nat) (fun i => ⟨[(4, .bool (decide ((Q9 s 46).length <= 4))), (14, .sl (Yb (Q9 s 46))), (15, .int .i64 (Q9 s 46).length), (16, .int .i64 i)], []⟩) (fun i => i <= (Q9 s 46).length /\ ((Q9 s 46).take i).all Qbl = true) (fun i => (Q9 s 46).length - i) 0 ?_ ?_ ?_
 ·exact Za (l := [4, 14, 15, 16]) (kp4 rfl rfl rfl rfl) Qq (by simp [Qo]; omega) rfl rfl
 ·exact ⟨Nat.zero_le _, rfl⟩
 intro i hI
 have sl := Qdo (s := s) (c := 46)
 try dsimp only
 refine Qe fun K hK => Z7 Z Z (hK _ _ (Qb (kp5 Z Z Z Z Z) ?_))
 refine QF ?_ -- 2
 refine Qx Z (fun h1 => ?_) (fun h1 => ?_)
 ·try rw [h1]
  try simp only [qB, Qo] at h1
  refine Qv (Qd (kp4 Z Z Z Z) ?_)
  refine QF ?_ -- 3
  refine QC (Qe fun K hK => QK Z Z Z (by omega) (Y2 (by omega)) Z (QI Z Z Z (Qa Z (hK _ _ (Qb (kp5 Z Z Z Z Z) ?_)))))
  refine QF ?_ -- 4
  refine Qe fun K hK => Qa Z (Qbd Z Z (Qa Z ?_))
  refine QA (g := 22) Z (fun h2 => ?_) (fun h2 => ?_)
  ·try rw [h2]
   try simp only [qB, Qo] at h2
   refine Qz Z (Qz Z (Qz Z (Qk Z Z (hK _ _ (Qb (kp6 Z Z Z Z Z Z) ?_)))))
   refine Zy Z (Qe fun K hK => Qa Z (hK _ _ (Qb (kp1 Z) ?_)))
   refine Zf (QH (Zh (by decide) (QH (Qt (QB (Qd (kp1 Z) (Qe fun K hK => Qa Z (Qa Z (hK _ _ (Qb (kp1 Z) ?_))))))))))
   refine Qu (Qp Z ?_)
   first | exact (ZQ (i := i) (by omega) (Xi (by first | (left; assumption) | (right; omega)))).symm | exact (ZQ (i := i) (by omega) (Xh (Yf (i := j) (by omega) (by simp [ZO]; omega)))).symm | exact (YM (by omega) hI.2).symm
  ·try rw [h2]
   try simp only [qB, Qo] at h2
   refine Qi Z (Qa Z (Qi Z (Ym Z (Qi Z (QbR Z Z (Qk Z Z (hK _ _ (Qb (kp6 Z Z Z Z Z Z) ?_))))))))
   refine Qx Z (fun h3 => ?_) (fun h3 => ?_)
   ·try rw [h3]
    try simp only [qB, Qo] at h3
    refine Qe fun K hK => Qa Z (hK _ _ (Qb (kp1 Z) ?_))
    refine Zf (QH (Zh (by decide) (QH (Qt (QB (Qd (kp1 Z) (Qe fun K hK => Qa Z (Qa Z (hK _ _ (Qb (kp1 Z) ?_))))))))))
    refine Qu (Qp Z ?_)
    first | exact (ZQ (i := i) (by omega) (Xi (by first | (left; assumption) | (right; omega)))).symm | exact (ZQ (i := i) (by omega) (Xh (Yf (i := j) (by omega) (by simp [ZO]; omega)))).symm | exact (YM (by omega) hI.2).symm
   ·try rw [h3]
    try simp only [qB, Qo] at h3
    refine Qv (Qd (kp5 Z Z Z Z Z) (Qe fun K hK => Qa Z (Qj7 Z Z (hK _ _ (Qb (kp5 Z Z Z Z Z) ?_)))))
    refine QC ?_
    have hlt : i < (Q9 s 46).length := by omega
    refine ZB (ι := Nat) (fun j => ⟨[(4, .bool (decide ((Q9 s 46).length <= 4))), (14, .sl (Yb (Q9 s 46))), (15, .int .i64 (Q9 s 46).length), (16, .int .i64 i), (28, .ref 28 0 0)], [(28, ⟨[], 0, Zr ((Q9 s 46)[i]'hlt) j, false⟩)]⟩) (fun j => j <= ((Q9 s 46)[i]'hlt).length /\ (((Q9 s 46)[i]'hlt).take j).all ZO = true) (fun j => ((Q9 s 46)[i]'hlt).length - j) 0 ?_ ?_ ?_
    ·first | exact Za (l := [4, 14, 15, 16, 28]) (lH := [28]) (kp5 rfl rfl rfl rfl rfl) (Qf rfl Qq) rfl rfl rfl | (exfalso; omega)
    ·exact ⟨Nat.zero_le _, rfl⟩
    intro j hJ
    have hJ1 := hJ.1
    try dsimp only
    refine Qe fun K hK => ?_
    rcases Nat.lt_or_ge (j) (((Q9 s 46)[i]'hlt)).length with h4 | h4
    ·rcases Nat.lt_or_ge (((((Q9 s 46)[i]'hlt))[j]).toNat) 128 with h5 | h5
     ·refine QiV Z Z h4 (Qhj h4 h5) (Zj Z Z (hK _ _ (Qb (kp7 Z Z Z Z Z Z Z) ?_)))
      refine QF ?_ -- 5
      refine Zy Z (Qv (Qd (kp6 Z Z Z Z Z Z) (QC (Qe fun K hK => Zj Z Z (Qa Z (hK _ _ (Qb (kp6 Z Z Z Z Z Z) ?_)))))))
      refine Qe fun K hK => Qa Z (Z7 Z Z (Qa Z ?_))
      refine QA (g := 34) Z (fun h6 => ?_) (fun h6 => ?_)
      ·try rw [h6]
       try simp only [qB, Qo] at h6
       refine Qz Z (Qz Z (Qk Z Z (Qa Z (Qi Z (Qa Z (Qi Z (Z7 Z Z (Qi Z (Qa Z ?_)))))))))
       refine QA (g := 41) Z (fun h7 => ?_) (fun h7 => ?_)
       ·try rw [h7]
        try simp only [qB, Qo] at h7
        refine Qz Z (Qz Z (Qi Z (Qk Z Z (Qk Z Z (Qa Z (Qi Z (Qa Z (Qi Z (Xo Z Z (Qk Z Z (hK _ _ (Qb (kp6 Z Z Z Z Z Z) ?_))))))))))))
        refine Qx Z (fun h8 => ?_) (fun h8 => ?_)
        ·try rw [h8]
         try simp only [qB, Qo] at h8
         refine Qe fun K hK => Qa Z (hK _ _ (Qb (kp1 Z) ?_))
         refine Zf (Zh (by decide) (Qt (Zh (by decide) (Zh (by decide) (QH (Qt (QB (Qd (kp1 Z) (Qe fun K hK => Qa Z (Qa Z ?_))))))))))
         refine hK _ _ (Qb (kp1 Z) ?_)
         refine Qu (Qp Z ?_)
         first | exact (ZQ (i := i) (by omega) (Xi (by first | (left; assumption) | (right; omega)))).symm | exact (ZQ (i := i) (by omega) (Xh (Yf (i := j) (by omega) (by simp [ZO]; omega)))).symm | exact (YM (by omega) hI.2).symm
        ·try rw [h8]
         try simp only [qB, Qo] at h8
         refine Qv (Qg ?_)
         refine Qh (j + 1) ?_ ?_ ?_
         ·first | exact Za (l := [4, 14, 15, 16, 28]) (lH := [28]) (kp5 rfl rfl rfl rfl rfl) (Qf rfl Qq) rfl rfl rfl | (exfalso; omega)
         ·first | exact ⟨by omega, Zg (by omega) hJ.2 (by simp [ZO]; omega)⟩ | (exfalso; omega)
         ·first | omega | (simp only; omega) | (dsimp only; omega)
       ·try rw [h7]
        try simp only [qB, Qo] at h7
        refine Qi Z (Qa Z (Qi Z (QbR Z Z (Qi Z (Qk Z Z (Qk Z Z (Qa Z ?_)))))))
        refine QA (g := 46) Z (fun h9 => ?_) (fun h9 => ?_)
        ·try rw [h9]
         try simp only [qB, Qo] at h9
         refine Qi Z (Qa Z (Qi Z (Xo Z Z (Qk Z Z (hK _ _ (Qb (kp6 Z Z Z Z Z Z) ?_))))))
         refine Qx Z (fun h10 => ?_) (fun h10 => ?_)
         ·try rw [h10]
          try simp only [qB, Qo] at h10
          refine Qe fun K hK => Qa Z (hK _ _ (Qb (kp1 Z) ?_))
          refine Zf (Zh (by decide) (Qt (Zh (by decide) (Zh (by decide) (QH (Qt (QB (Qd (kp1 Z) (Qe fun K hK => Qa Z (Qa Z ?_))))))))))
          refine hK _ _ (Qb (kp1 Z) ?_)
          refine Qu (Qp Z ?_)
          first | exact (ZQ (i := i) (by omega) (Xi (by first | (left; assumption) | (right; omega)))).symm | exact (ZQ (i := i) (by omega) (Xh (Yf (i := j) (by omega) (by simp [ZO]; omega)))).symm | exact (YM (by omega) hI.2).symm
         ·try rw [h10]
          try simp only [qB, Qo] at h10
          refine Qv (Qg ?_)
          refine Qh (j + 1) ?_ ?_ ?_
          ·first | exact Za (l := [4, 14, 15, 16, 28]) (lH := [28]) (kp5 rfl rfl rfl rfl rfl) (Qf rfl Qq) rfl rfl rfl | (exfalso; omega)
          ·first | exact ⟨by omega, Zg (by omega) hJ.2 (by simp [ZO]; omega)⟩ | (exfalso; omega)
          ·first | omega | (simp only; omega) | (dsimp only; omega)
        ·try rw [h9]
         try simp only [qB, Qo] at h9
         refine Qz Z (Qz Z (Qk Z Z (hK _ _ (Qb (kp6 Z Z Z Z Z Z) ?_))))
         refine Zp Z (Qv (Qg ?_))
         refine Qh (j + 1) ?_ ?_ ?_
         ·first | exact Za (l := [4, 14, 15, 16, 28]) (lH := [28]) (kp5 rfl rfl rfl rfl rfl) (Qf rfl Qq) rfl rfl rfl | (exfalso; omega)
         ·first | exact ⟨by omega, Zg (by omega) hJ.2 (by simp [ZO]; omega)⟩ | (exfalso; omega)
         ·first | omega | (simp only; omega) | (dsimp only; omega)
      ·try rw [h6]
       try simp only [qB, Qo] at h6
       refine Qi Z (Qa Z (Qi Z (QbR Z Z (Qk Z Z (Qa Z ?_)))))
       refine QA (g := 38) Z (fun h11 => ?_) (fun h11 => ?_)
       ·try rw [h11]
        try simp only [qB, Qo] at h11
        refine Qi Z (Qa Z (Qi Z (Z7 Z Z (Qi Z (Qa Z ?_)))))
        refine QA (g := 41) Z (fun h12 => ?_) (fun h12 => ?_)
        ·try rw [h12]
         try simp only [qB, Qo] at h12
         refine Qz Z (Qz Z (Qi Z (Qk Z Z (Qk Z Z (Qa Z (Qi Z (Qa Z (Qi Z (Xo Z Z (Qk Z Z (hK _ _ (Qb (kp6 Z Z Z Z Z Z) ?_))))))))))))
         refine Qx Z (fun h13 => ?_) (fun h13 => ?_)
         ·try rw [h13]
          try simp only [qB, Qo] at h13
          refine Qe fun K hK => Qa Z (hK _ _ (Qb (kp1 Z) ?_))
          refine Zf (Zh (by decide) (Qt (Zh (by decide) (Zh (by decide) (QH (Qt (QB (Qd (kp1 Z) (Qe fun K hK => Qa Z (Qa Z ?_))))))))))
          refine hK _ _ (Qb (kp1 Z) ?_)
          refine Qu (Qp Z ?_)
          first | exact (ZQ (i := i) (by omega) (Xi (by first | (left; assumption) | (right; omega)))).symm | exact (ZQ (i := i) (by omega) (Xh (Yf (i := j) (by omega) (by simp [ZO]; omega)))).symm | exact (YM (by omega) hI.2).symm
         ·try rw [h13]
          try simp only [qB, Qo] at h13
          refine Qv (Qg ?_)
          refine Qh (j + 1) ?_ ?_ ?_
          ·first | exact Za (l := [4, 14, 15, 16, 28]) (lH := [28]) (kp5 rfl rfl rfl rfl rfl) (Qf rfl Qq) rfl rfl rfl | (exfalso; omega)
          ·first | exact ⟨by omega, Zg (by omega) hJ.2 (by simp [ZO]; omega)⟩ | (exfalso; omega)
          ·first | omega | (simp only; omega) | (dsimp only; omega)
        ·try rw [h12]
         try simp only [qB, Qo] at h12
         refine Qi Z (Qa Z (Qi Z (QbR Z Z (Qi Z (Qk Z Z (Qk Z Z (Qa Z ?_)))))))
         refine QA (g := 46) Z (fun h14 => ?_) (fun h14 => ?_)
         ·try rw [h14]
          try simp only [qB, Qo] at h14
          refine Qi Z (Qa Z (Qi Z (Xo Z Z (Qk Z Z (hK _ _ (Qb (kp6 Z Z Z Z Z Z) ?_))))))
          refine Qx Z (fun h15 => ?_) (fun h15 => ?_)
          ·try rw [h15]
           try simp only [qB, Qo] at h15
           refine Qe fun K hK => Qa Z (hK _ _ (Qb (kp1 Z) ?_))
           refine Zf (Zh (by decide) (Qt (Zh (by decide) (Zh (by decide) (QH (Qt (QB (Qd (kp1 Z) (Qe fun K hK => Qa Z (Qa Z ?_))))))))))
           refine hK _ _ (Qb (kp1 Z) ?_)
           refine Qu (Qp Z ?_)
           first | exact (ZQ (i := i) (by omega) (Xi (by first | (left; assumption) | (right; omega)))).symm | exact (ZQ (i := i) (by omega) (Xh (Yf (i := j) (by omega) (by simp [ZO]; omega)))).symm | exact (YM (by omega) hI.2).symm
          ·try rw [h15]
           try simp only [qB, Qo] at h15
           refine Qv (Qg ?_)
           refine Qh (j + 1) ?_ ?_ ?_
           ·first | exact Za (l := [4, 14, 15, 16, 28]) (lH := [28]) (kp5 rfl rfl rfl rfl rfl) (Qf rfl Qq) rfl rfl rfl | (exfalso; omega)
           ·first | exact ⟨by omega, Zg (by omega) hJ.2 (by simp [ZO]; omega)⟩ | (exfalso; omega)
           ·first | omega | (simp only; omega) | (dsimp only; omega)
         ·try rw [h14]
          try simp only [qB, Qo] at h14
          refine Qz Z (Qz Z (Qk Z Z (hK _ _ (Qb (kp6 Z Z Z Z Z Z) ?_))))
          refine Zp Z (Qv (Qg ?_))
          refine Qh (j + 1) ?_ ?_ ?_
          ·first | exact Za (l := [4, 14, 15, 16, 28]) (lH := [28]) (kp5 rfl rfl rfl rfl rfl) (Qf rfl Qq) rfl rfl rfl | (exfalso; omega)
          ·first | exact ⟨by omega, Zg (by omega) hJ.2 (by simp [ZO]; omega)⟩ | (exfalso; omega)
          ·first | omega | (simp only; omega) | (dsimp only; omega)
       ·try rw [h11]
        try simp only [qB, Qo] at h11
        refine Qz Z (Qz Z (Qz Z (QZ Z (QZ Z (Qz Z (Qk Z Z (Qa Z (Qz Z (Qz Z (Qk Z Z (hK _ _ (Qb (kp6 Z Z Z Z Z Z) ?_))))))))))))
        refine Zp Z (Qv (Qg ?_))
        refine Qh (j + 1) ?_ ?_ ?_
        ·first | exact Za (l := [4, 14, 15, 16, 28]) (lH := [28]) (kp5 rfl rfl rfl rfl rfl) (Qf rfl Qq) rfl rfl rfl | (exfalso; omega)
        ·first | exact ⟨by omega, Zg (by omega) hJ.2 (by simp [ZO]; omega)⟩ | (exfalso; omega)
        ·first | omega | (simp only; omega) | (dsimp only; omega)
     ·obtain ⟨cwh5, nwh5, hch5, hdh5⟩ := Qi3 h4 h5
      refine QiV Z Z h4 hdh5 (Zj Z Z (hK _ _ (Qb (kp7 Z Z Z Z Z Z Z) ?_)))
      refine QF ?_ -- 5
      refine Zy Z (Qv (Qd (kp6 Z Z Z Z Z Z) (QC (Qe fun K hK => Zj Z Z (Qa Z (hK _ _ (Qb (kp6 Z Z Z Z Z Z) ?_)))))))
      refine Qe fun K hK => Qa Z (Z7 Z Z (Qa Z ?_))
      refine QA (g := 34) Z (fun h16 => ?_) (fun h16 => ?_)
      ·try rw [h16]
       try simp only [qB, Qo] at h16
       refine Qz Z (Qz Z (Qk Z Z (Qa Z (Qi Z (Qa Z (Qi Z (Z7 Z Z (Qi Z (Qa Z ?_)))))))))
       refine QA (g := 41) Z (fun h17 => ?_) (fun h17 => ?_)
       ·try rw [h17]
        try simp only [qB, Qo] at h17
        refine Qz Z (Qz Z (Qi Z (Qk Z Z (Qk Z Z (Qa Z (Qi Z (Qa Z (Qi Z (Xo Z Z (Qk Z Z (hK _ _ (Qb (kp6 Z Z Z Z Z Z) ?_))))))))))))
        refine Qx Z (fun h18 => ?_) (fun h18 => ?_)
        ·try rw [h18]
         try simp only [qB, Qo] at h18
         refine Qe fun K hK => Qa Z (hK _ _ (Qb (kp1 Z) ?_))
         refine Zf (Zh (by decide) (Qt (Zh (by decide) (Zh (by decide) (QH (Qt (QB (Qd (kp1 Z) (Qe fun K hK => Qa Z (Qa Z ?_))))))))))
         refine hK _ _ (Qb (kp1 Z) ?_)
         refine Qu (Qp Z ?_)
         first | exact (ZQ (i := i) (by omega) (Xi (by first | (left; assumption) | (right; omega)))).symm | exact (ZQ (i := i) (by omega) (Xh (Yf (i := j) (by omega) (by simp [ZO]; omega)))).symm | exact (YM (by omega) hI.2).symm
        ·try rw [h18]
         try simp only [qB, Qo] at h18
         refine Qv (Qg ?_)
         refine Qh (j + 1) ?_ ?_ ?_
         ·first | exact Za (l := [4, 14, 15, 16, 28]) (lH := [28]) (kp5 rfl rfl rfl rfl rfl) (Qf rfl Qq) rfl rfl rfl | (exfalso; omega)
         ·first | exact ⟨by omega, Zg (by omega) hJ.2 (by simp [ZO]; omega)⟩ | (exfalso; omega)
         ·first | omega | (simp only; omega) | (dsimp only; omega)
       ·try rw [h17]
        try simp only [qB, Qo] at h17
        refine Qi Z (Qa Z (Qi Z (QbR Z Z (Qi Z (Qk Z Z (Qk Z Z (Qa Z ?_)))))))
        refine QA (g := 46) Z (fun h19 => ?_) (fun h19 => ?_)
        ·try rw [h19]
         try simp only [qB, Qo] at h19
         refine Qi Z (Qa Z (Qi Z (Xo Z Z (Qk Z Z (hK _ _ (Qb (kp6 Z Z Z Z Z Z) ?_))))))
         refine Qx Z (fun h20 => ?_) (fun h20 => ?_)
         ·try rw [h20]
          try simp only [qB, Qo] at h20
          refine Qe fun K hK => Qa Z (hK _ _ (Qb (kp1 Z) ?_))
          refine Zf (Zh (by decide) (Qt (Zh (by decide) (Zh (by decide) (QH (Qt (QB (Qd (kp1 Z) (Qe fun K hK => Qa Z (Qa Z ?_))))))))))
          refine hK _ _ (Qb (kp1 Z) ?_)
          refine Qu (Qp Z ?_)
          first | exact (ZQ (i := i) (by omega) (Xi (by first | (left; assumption) | (right; omega)))).symm | exact (ZQ (i := i) (by omega) (Xh (Yf (i := j) (by omega) (by simp [ZO]; omega)))).symm | exact (YM (by omega) hI.2).symm
         ·try rw [h20]
          try simp only [qB, Qo] at h20
          refine Qv (Qg ?_)
          refine Qh (j + 1) ?_ ?_ ?_
          ·first | exact Za (l := [4, 14, 15, 16, 28]) (lH := [28]) (kp5 rfl rfl rfl rfl rfl) (Qf rfl Qq) rfl rfl rfl | (exfalso; omega)
          ·first | exact ⟨by omega, Zg (by omega) hJ.2 (by simp [ZO]; omega)⟩ | (exfalso; omega)
          ·first | omega | (simp only; omega) | (dsimp only; omega)
        ·try rw [h19]
         try simp only [qB, Qo] at h19
         refine Qz Z (Qz Z (Qk Z Z (hK _ _ (Qb (kp6 Z Z Z Z Z Z) ?_))))
         refine Zp Z (Qv (Qg ?_))
         refine Qh (j + 1) ?_ ?_ ?_
         ·first | exact Za (l := [4, 14, 15, 16, 28]) (lH := [28]) (kp5 rfl rfl rfl rfl rfl) (Qf rfl Qq) rfl rfl rfl | (exfalso; omega)
         ·first | exact ⟨by omega, Zg (by omega) hJ.2 (by simp [ZO]; omega)⟩ | (exfalso; omega)
         ·first | omega | (simp only; omega) | (dsimp only; omega)
      ·try rw [h16]
       try simp only [qB, Qo] at h16
       refine Qi Z (Qa Z (Qi Z (QbR Z Z (Qk Z Z (Qa Z ?_)))))
       refine QA (g := 38) Z (fun h21 => ?_) (fun h21 => ?_)
       ·try rw [h21]
        try simp only [qB, Qo] at h21
        refine Qi Z (Qa Z (Qi Z (Z7 Z Z (Qi Z (Qa Z ?_)))))
        refine QA (g := 41) Z (fun h22 => ?_) (fun h22 => ?_)
        ·try rw [h22]
         try simp only [qB, Qo] at h22
         refine Qz Z (Qz Z (Qi Z (Qk Z Z (Qk Z Z (Qa Z (Qi Z (Qa Z (Qi Z (Xo Z Z (Qk Z Z (hK _ _ (Qb (kp6 Z Z Z Z Z Z) ?_))))))))))))
         refine Qx Z (fun h23 => ?_) (fun h23 => ?_)
         ·try rw [h23]
          try simp only [qB, Qo] at h23
          refine Qe fun K hK => Qa Z (hK _ _ (Qb (kp1 Z) ?_))
          refine Zf (Zh (by decide) (Qt (Zh (by decide) (Zh (by decide) (QH (Qt (QB (Qd (kp1 Z) (Qe fun K hK => Qa Z (Qa Z ?_))))))))))
          refine hK _ _ (Qb (kp1 Z) ?_)
          refine Qu (Qp Z ?_)
          first | exact (ZQ (i := i) (by omega) (Xi (by first | (left; assumption) | (right; omega)))).symm | exact (ZQ (i := i) (by omega) (Xh (Yf (i := j) (by omega) (by simp [ZO]; omega)))).symm | exact (YM (by omega) hI.2).symm
         ·try rw [h23]
          try simp only [qB, Qo] at h23
          refine Qv (Qg ?_)
          refine Qh (j + 1) ?_ ?_ ?_
          ·first | exact Za (l := [4, 14, 15, 16, 28]) (lH := [28]) (kp5 rfl rfl rfl rfl rfl) (Qf rfl Qq) rfl rfl rfl | (exfalso; omega)
          ·first | exact ⟨by omega, Zg (by omega) hJ.2 (by simp [ZO]; omega)⟩ | (exfalso; omega)
          ·first | omega | (simp only; omega) | (dsimp only; omega)
        ·try rw [h22]
         try simp only [qB, Qo] at h22
         refine Qi Z (Qa Z (Qi Z (QbR Z Z (Qi Z (Qk Z Z (Qk Z Z (Qa Z ?_)))))))
         refine QA (g := 46) Z (fun h24 => ?_) (fun h24 => ?_)
         ·try rw [h24]
          try simp only [qB, Qo] at h24
          refine Qi Z (Qa Z (Qi Z (Xo Z Z (Qk Z Z (hK _ _ (Qb (kp6 Z Z Z Z Z Z) ?_))))))
          refine Qx Z (fun h25 => ?_) (fun h25 => ?_)
          ·try rw [h25]
           try simp only [qB, Qo] at h25
           refine Qe fun K hK => Qa Z (hK _ _ (Qb (kp1 Z) ?_))
           refine Zf (Zh (by decide) (Qt (Zh (by decide) (Zh (by decide) (QH (Qt (QB (Qd (kp1 Z) (Qe fun K hK => Qa Z (Qa Z ?_))))))))))
           refine hK _ _ (Qb (kp1 Z) ?_)
           refine Qu (Qp Z ?_)
           first | exact (ZQ (i := i) (by omega) (Xi (by first | (left; assumption) | (right; omega)))).symm | exact (ZQ (i := i) (by omega) (Xh (Yf (i := j) (by omega) (by simp [ZO]; omega)))).symm | exact (YM (by omega) hI.2).symm
          ·try rw [h25]
           try simp only [qB, Qo] at h25
           refine Qv (Qg ?_)
           refine Qh (j + 1) ?_ ?_ ?_
           ·first | exact Za (l := [4, 14, 15, 16, 28]) (lH := [28]) (kp5 rfl rfl rfl rfl rfl) (Qf rfl Qq) rfl rfl rfl | (exfalso; omega)
           ·first | exact ⟨by omega, Zg (by omega) hJ.2 (by simp [ZO]; omega)⟩ | (exfalso; omega)
           ·first | omega | (simp only; omega) | (dsimp only; omega)
         ·try rw [h24]
          try simp only [qB, Qo] at h24
          refine Qz Z (Qz Z (Qk Z Z (hK _ _ (Qb (kp6 Z Z Z Z Z Z) ?_))))
          refine Zp Z (Qv (Qg ?_))
          refine Qh (j + 1) ?_ ?_ ?_
          ·first | exact Za (l := [4, 14, 15, 16, 28]) (lH := [28]) (kp5 rfl rfl rfl rfl rfl) (Qf rfl Qq) rfl rfl rfl | (exfalso; omega)
          ·first | exact ⟨by omega, Zg (by omega) hJ.2 (by simp [ZO]; omega)⟩ | (exfalso; omega)
          ·first | omega | (simp only; omega) | (dsimp only; omega)
       ·try rw [h21]
        try simp only [qB, Qo] at h21
        refine Qz Z (Qz Z (Qz Z (QZ Z (QZ Z (Qz Z (Qk Z Z (Qa Z (Qz Z (Qz Z (Qk Z Z (hK _ _ (Qb (kp6 Z Z Z Z Z Z) ?_))))))))))))
        refine Zp Z (Qv (Qg ?_))
        refine Qh (j + 1) ?_ ?_ ?_
        ·first | exact Za (l := [4, 14, 15, 16, 28]) (lH := [28]) (kp5 rfl rfl rfl rfl rfl) (Qf rfl Qq) rfl rfl rfl | (exfalso; omega)
        ·first | exact ⟨by omega, Zg (by omega) hJ.2 (by simp [ZO]; omega)⟩ | (exfalso; omega)
        ·first | omega | (simp only; omega) | (dsimp only; omega)
    ·refine Qg2 Z Z (by omega) (Zj Z Z (hK _ _ (Qb (kp7 Z Z Z Z Z Z Z) ?_)))
     refine QF ?_ -- 5
     refine Zp Z (Zf (QH (Qt (QB (Qg (Qd (kp4 Z Z Z Z) (QO fun K hK => Q7 Z Z (by first | exact Qr (by omega) (by omega) | exact QG (by omega) (by omega) | exact QL (by omega) (by omega) | rfl) (Qa Z (hK _ ?_)))))))))
     refine Qh (i + 1) ?_ ?_ ?_
     ·exact Za (l := [4, 14, 15, 16]) (kp4 rfl rfl rfl rfl) Qq rfl rfl rfl
     ·exact ⟨by omega, Zg (by omega) hI.2 (Qnf (by assumption) (by omega) (Y6 (by omega) hJ.2))⟩
     ·first | omega | (simp only; omega) | (dsimp only; omega)
 ·try rw [h1]
  try simp only [qB, Qo] at h1
  refine Zf (QH (Qt (QB (Qd (kp1 Z) (Qe fun K hK => Qa Z (Qa Z (hK _ _ (Qb (kp1 Z) ?_))))))))
  refine Qu (Qp Z ?_)
  first | exact (ZQ (i := i) (by omega) (Xi (by first | (left; assumption) | (right; omega)))).symm | exact (ZQ (i := i) (by omega) (Xh (Yf (i := j) (by omega) (by simp [ZO]; omega)))).symm | exact (YM (by omega) hI.2).symm
end Go.Proofs
namespace Go.Proofs
open Go Go.Abs M3
set_option linter.unusedVariables false
set_option linter.unusedSimpArgs false
theorem Qgc {a b : List UInt8} (ha : a.length <= 1000000) (hb : b.length <= 1000000) : Ok Tryz.prog 76 [.str a, .str b] (.int .i64 (Qfv a b)) := by
 refine Ok.ofT ZY Tryz.func76 Qqs (Nat.le_of_ble_eq_true Z) ?_
 show TW _ _ tf76.body _ _
 refine Qe fun K hK => Qa Z (hK _ _ (Qb (kp2 Z Z) ?_))
 refine Qe fun K hK => Qa Z (QE (Xv (by omega)) Z Z (.inr Z) (Qa Z (QE (Xv (by omega)) Z Z (.inr Z) (Qa Z (Qa Z (hK _ _ (Qb (kp4 Z Z Z Z) ?_)))))))
 refine QF ?_ -- 0
 refine Qe fun K hK => Qa Z (Qa Z ?_)
 refine QA (g := 16) Z (fun h1 => ?_) (fun h1 => ?_)
 ·try rw [h1]
  try simp only [qB] at h1
  refine Qi Z (Qa Z (Qk Z Z (hK _ _ (Qb (kp5 Z Z Z Z Z) ?_))))
  refine Qx Z (fun h2 => ?_) (fun h2 => ?_)
  ·try rw [h2]
   try simp only [qB] at h2
   refine Qe fun K hK => Qa Z (QE (Qat (by omega)) Z Z (.inr Z) (Qa Z (Zj Z Z (Zj Z Z (Qa Z (Qa Z (hK _ _ (Qb (kp2 Z Z) ?_))))))))
   refine Qe fun K hK => Qa Z (QE (Qat (by omega)) Z Z (.inr Z) (Qa Z (Zj Z Z (Zj Z Z (Qa Z (Qa Z (hK _ _ (Qb (kp2 Z Z) ?_))))))))
   refine Qe fun K hK => Qa Z (Qa Z (QE (Z2) Z Z (.inr Z) (Qa Z (hK _ _ (Qb (kp1 Z) ?_)))))
   refine Qu (Qj (Qw Z ?_))
   (repeat clear hK K); first | (simp [Qfv, h1, h2]; done) | (simp_all [Qfv]; done)
  ·try rw [h2]
   try simp only [qB] at h2
   refine Qv (Qd (kp4 Z Z Z Z) ?_)
   refine QF ?_ -- 1
   refine Qe fun K hK => Qa Z (Qa Z (QnT Z Z (hK _ _ (Qb (kp4 Z Z Z Z) ?_))))
   refine Qx Z (fun h3 => ?_) (fun h3 => ?_)
   ·try rw [h3]
    try simp only [qB] at h3
    refine QF ?_ -- 2
    refine Qe fun K hK => Qa Z (hK _ _ (Qb (kp1 Z) ?_))
    refine Zy Z (Qe fun K hK => Qa Z (hK _ _ (Qb (kp1 Z) ?_)))
    refine Qu (Qj (Qj (Qw Z ?_)))
    (repeat clear hK K); first | (simp [Qfv, h1, h2, h3]; done) | (simp_all [Qfv]; done)
   ·try rw [h3]
    try simp only [qB] at h3
    refine Qv (Qd (kp2 Z Z) (Qe fun K hK => Qa Z (Qa Z (QE (XL) Z Z (.inr Z) (Qa Z (hK _ _ (Qb (kp1 Z) ?_)))))))
    refine Qu (Qw Z ?_)
    (repeat clear hK K); first | (simp [Qfv, h1, h2, h3]; done) | (simp_all [Qfv]; done)
 ·try rw [h1]
  try simp only [qB] at h1
  refine Qz Z (Qk Z Z (hK _ _ (Qb (kp5 Z Z Z Z Z) ?_)))
  refine Zp Z (Qv (Qd (kp4 Z Z Z Z) ?_))
  refine QF ?_ -- 1
  refine Qe fun K hK => Qa Z (Qa Z (QnT Z Z (hK _ _ (Qb (kp4 Z Z Z Z) ?_))))
  refine Qx Z (fun h4 => ?_) (fun h4 => ?_)
  ·try rw [h4]
   try simp only [qB] at h4
   refine QF ?_ -- 2
   refine Qe fun K hK => Qa Z (hK _ _ (Qb (kp1 Z) ?_))
   refine Zp Z (Qv (Qd (QT) (Qe fun K hK => Qa Z (hK _ _ (Qb (kp1 Z) ?_)))))
   refine Qu (Qj (Qw Z ?_))
   (repeat clear hK K); first | (simp [Qfv, h1, h4]; done) | (simp_all [Qfv]; done)
  ·try rw [h4]
   try simp only [qB] at h4
   refine Qv (Qd (kp2 Z Z) (Qe fun K hK => Qa Z (Qa Z (QE (XL) Z Z (.inr Z) (Qa Z (hK _ _ (Qb (kp1 Z) ?_)))))))
   refine Qu (Qw Z ?_)
   (repeat clear hK K); first | (simp [Qfv, h1, h4]; done) | (simp_all [Qfv]; done)
theorem Qgb {s : List UInt8} (hl : s.length <= 1000000) : Ok Tryz.prog 93 [.str s] (.bool (Qfw s)) := by
 refine Ok.ofT ZY Tryz.func93 QqH (Nat.le_of_ble_eq_true Z) ?_
 show TW _ _ tf93.body _ _
 refine Qe fun K hK => Qa Z (hK _ _ (Qb (kp1 Z) ?_))
 refine QF ?_ -- 0
 refine Qe fun K hK => Qa Z (QE (Qav (by omega)) Z Z (.inr Z) (Ye Z (hK _ _ (Qb (kp2 Z Z) ?_))))
 refine Qx Z (fun h1 => ?_) (fun h1 => ?_)
 ·try rw [h1]
  try simp only [qB, Qo] at h1
  refine Qe fun K hK => Qa Z (hK _ _ (Qb (kp1 Z) ?_))
  refine Qu (Qj (Qp Z ?_))
  first | (simp [Qfw, h1]; done) | exact (QiA (i := i) (by omega) (by simp [Qd1, h1])).symm | exact (QgB (i := i) (by assumption) (by omega) hI.2).symm
 ·try rw [h1]
  try simp only [qB, Qo] at h1
  refine Qv (Qd (kp1 Z) ?_)
  refine QF ?_ -- 1
  refine Qe fun K hK => Qa Z (QE (XU (by omega)) Z Z (.inl Z) (QQ Z Z (Qa Z (hK _ _ (Qb (kp3 Z Z Z) ?_)))))
  refine QC ?_
  refine ZB (ι := Nat) (fun i => ⟨[(11, .sl (Yb (Q9 s 46))), (12, .int .i64 (Q9 s 46).length), (13, .int .i64 i)], []⟩) (fun i => i <= (Q9 s 46).length /\ ((Q9 s 46).take i).all Qd1 = true) (fun i => (Q9 s 46).length - i) 0 ?_ ?_ ?_
  ·exact Za (l := [11, 12, 13]) (kp3 rfl rfl rfl) Qq (by simp [Qo]) rfl rfl
  ·exact ⟨Nat.zero_le _, rfl⟩
  intro i hI
  have sl := Qdo (s := s) (c := 46)
  try dsimp only
  refine Qe fun K hK => Z7 Z Z (hK _ _ (Qb (kp4 Z Z Z Z) ?_))
  refine QF ?_ -- 2
  refine Qx Z (fun h2 => ?_) (fun h2 => ?_)
  ·try rw [h2]
   try simp only [qB, Qo] at h2
   refine Qv (Qd (kp3 Z Z Z) ?_)
   refine QF ?_ -- 3
   refine QC (Qe fun K hK => QK Z Z Z (by omega) (Y2 (by omega)) Z (QI Z Z Z (Qa Z (hK _ _ (Qb (kp4 Z Z Z Z) ?_)))))
   refine Qe fun K hK => Qa Z (QE (Qat (X0 (by omega) hl)) Z Z (.inr Z) (Qa Z (Zj Z Z (Zj Z Z (Qa Z (Qa Z (hK _ _ (Qb (kp5 Z Z Z Z Z) ?_))))))))
   refine Qe fun K hK => Qa Z (QE (Xv (X0 (by omega) hl)) Z Z (.inr Z) (Qa Z ?_))
   refine QA (g := 24) Z (fun h3 => ?_) (fun h3 => ?_)
   ·try rw [h3]
    try simp only [qB, Qo] at h3
    refine Qi Z (Qa Z (Qi Z (Ye Z (Qk Z Z (hK _ _ (Qb (kp4 Z Z Z Z) ?_))))))
    refine Qx Z (fun h4 => ?_) (fun h4 => ?_)
    ·try rw [h4]
     try simp only [qB, Qo] at h4
     refine Qe fun K hK => Qa Z (hK _ _ (Qb (kp1 Z) ?_))
     refine Qu (Qs (Qj (Q3 (Qs (Qj (Qp Z ?_))))))
     first | (simp [Qfw, h1, h2, h3, h4]; done) | exact (QiA (i := i) (by omega) (by simp [Qd1, h1, h2, h3, h4])).symm | exact (QgB (i := i) (by assumption) (by omega) hI.2).symm
    ·try rw [h4]
     try simp only [qB, Qo] at h4
     refine Qv (Qg (Qd (kp3 Z Z Z) (QO fun K hK => Q7 Z Z (by first | exact Qr (by omega) (by omega) | exact QG (by omega) (by omega) | exact QL (by omega) (by omega) | rfl) (Qa Z (hK _ ?_)))))
     refine Qh (i + 1) ?_ ?_ ?_
     ·exact QP (kp3 rfl rfl rfl)
     ·exact ⟨by omega, Zg (by omega) hI.2 (by simp [Qd1, h1, h2, h3, h4])⟩
     ·first | omega | (simp only; omega) | (dsimp only; omega)
   ·try rw [h3]
    try simp only [qB, Qo] at h3
    refine Qz Z (Qz Z (Qk Z Z (hK _ _ (Qb (kp4 Z Z Z Z) ?_))))
    refine Zp Z (Qv (Qg (Qd (kp3 Z Z Z) (QO fun K hK => Q7 Z Z (by first | exact Qr (by omega) (by omega) | exact QG (by omega) (by omega) | exact QL (by omega) (by omega) | rfl) (Qa Z (hK _ ?_))))))
    refine Qh (i + 1) ?_ ?_ ?_
    ·exact QP (kp3 rfl rfl rfl)
    ·exact ⟨by omega, Zg (by omega) hI.2 (by simp [Qd1, h1, h2, h3])⟩
    ·first | omega | (simp only; omega) | (dsimp only; omega)
  ·try rw [h2]
   try simp only [qB, Qo] at h2
   refine Zf (QH (Qt (QB (Qd (QT) (Qe fun K hK => Qa Z (hK _ _ (Qb (kp1 Z) ?_)))))))
   refine Qu (Qp Z ?_)
   first | (simp [Qfw, h1, h2]; done) | exact (QiA (i := i) (by omega) (by simp [Qd1, h1, h2])).symm | exact (QgB (i := i) (by assumption) (by omega) hI.2).symm
theorem QcT {a b c : Int} {p q : List UInt8} (hp : p.length <= 1000000) (hq : q.length <= 1000000) : Ok Tryz.prog 71 [.agg [.int .i64 a, .int .i64 b, .int .i64 c, .str p, .str q]] (.bool (Qbk a b c p q)) := by
 refine Ok.ofT ZY Tryz.func71 Qqn (Nat.le_of_ble_eq_true Z) ?_
 show TW _ _ tf71.body _ _
 refine Qe fun K hK => ZM Z Z Z (Qa Z (hK _ _ (Qb (kp1 Z) ?_)))
 refine Qe fun K hK => Qn Z Z (QI Z Z Z (QE (Qau) Z Z (.inr Z) (Qa Z ?_)))
 refine QA (g := 6) Z (fun h1 => ?_) (fun h1 => ?_)
 ·try rw [h1]
  try simp only [qB] at h1
  refine Qi Z (Qn Z Z (Qi Z (QI Z Z Z (Qi Z (QE (Qau) Z Z (.inr Z) (Qk Z Z (Qa Z ?_)))))))
  refine QA (g := 11) Z (fun h2 => ?_) (fun h2 => ?_)
  ·try rw [h2]
   try simp only [qB] at h2
   refine Qi Z (Qn Z Z (Qi Z (QI Z Z Z (Qi Z (QE (Qau) Z Z (.inr Z) (Qk Z Z (Qa Z ?_)))))))
   refine QA (g := 16) Z (fun h3 => ?_) (fun h3 => ?_)
   ·try rw [h3]
    try simp only [qB] at h3
    refine Qi Z (Qn Z Z (Qi Z (QI Z Z Z (Qi Z (Qbd Z Z (Qi Z (Qa Z ?_)))))))
    refine QA (g := 20) Z (fun h4 => ?_) (fun h4 => ?_)
    ·try rw [h4]
     try simp only [qB] at h4
     refine Qz Z (Qz Z (Qz Z (Qi Z (Qk Z Z (Qk Z Z (Qa Z (Qi Z (Qn Z Z (Qi Z (QI Z Z Z (Qi Z ?_)))))))))))
     refine Qbd Z Z (Qi Z (Qa Z ?_))
     refine QA (g := 30) Z (fun h5 => ?_) (fun h5 => ?_)
     ·try rw [h5]
      try simp only [qB] at h5
      refine Qz Z (Qz Z (Qz Z (Qi Z (Qk Z Z (Qk Z Z (Qa Z (hK _ _ (Qb (kp1 Z) ?_))))))))
      refine Qu (Qp Z ?_)
      simp [Qbk, YJ, Xb, h1, h2, h3, h4, h5]
     ·try rw [h5]
      try simp only [qB] at h5
      refine Qi Z (Qn Z Z (Qi Z (QI Z Z Z (Qi Z (QE (Qav (by omega)) Z Z (.inr Z) (Qi Z (Qk Z Z (Qk Z Z (Qa Z (hK _ _ (Qb (kp1 Z) ?_)))))))))))
      refine Qu (Qp Z ?_)
      simp [Qbk, YJ, Xb, h1, h2, h3, h4, h5]
    ·try rw [h4]
     try simp only [qB] at h4
     refine Qi Z (Qn Z Z (Qi Z (QI Z Z Z (Qi Z (QE (Qgb (by omega)) Z Z (.inr Z) (Qi Z (Qk Z Z (Qk Z Z (Qa Z ?_)))))))))
     refine QA (g := 26) Z (fun h6 => ?_) (fun h6 => ?_)
     ·try rw [h6]
      try simp only [qB] at h6
      refine Qi Z (Qn Z Z (Qi Z (QI Z Z Z (Qi Z (Qbd Z Z (Qi Z (Qa Z ?_)))))))
      refine QA (g := 30) Z (fun h7 => ?_) (fun h7 => ?_)
      ·try rw [h7]
       try simp only [qB] at h7
       refine Qz Z (Qz Z (Qz Z (Qi Z (Qk Z Z (Qk Z Z (Qa Z (hK _ _ (Qb (kp1 Z) ?_))))))))
       refine Qu (Qp Z ?_)
       simp [Qbk, YJ, Xb, h1, h2, h3, h4, h6, h7]
      ·try rw [h7]
       try simp only [qB] at h7
       refine Qi Z (Qn Z Z (Qi Z (QI Z Z Z (Qi Z (QE (Qav (by omega)) Z Z (.inr Z) (Qi Z (Qk Z Z (Qk Z Z (Qa Z (hK _ _ (Qb (kp1 Z) ?_)))))))))))
       refine Qu (Qp Z ?_)
       simp [Qbk, YJ, Xb, h1, h2, h3, h4, h6, h7]
     ·try rw [h6]
      try simp only [qB] at h6
      refine Qz Z (Qz Z (Qz Z (Qz Z (QZ Z (QZ Z (QZ Z (Qz Z (Qk Z Z (Qa Z (hK _ _ (Qb (kp1 Z) ?_)))))))))))
      refine Qu (Qp Z ?_)
      simp [Qbk, YJ, Xb, h1, h2, h3, h4, h6]
   ·try rw [h3]
    try simp only [qB] at h3
    refine Qz Z (Qz Z (Qz Z (Qz Z (QZ Z (QZ Z (QZ Z (Qz Z (Qk Z Z (Qa Z (Qz Z (Qz Z ?_)))))))))))
    refine Qz Z (Qz Z (QZ Z (QZ Z (QZ Z (Qz Z (Qk Z Z (Qa Z (hK _ _ (Qb (kp1 Z) ?_)))))))))
    refine Qu (Qp Z ?_)
    simp [Qbk, YJ, Xb, h1, h2, h3]
  ·try rw [h2]
   try simp only [qB] at h2
   refine Qz Z (Qz Z (Qz Z (Qk Z Z (Qa Z (Qz Z (Qz Z (Qz Z (Qz Z (QZ Z (QZ Z (QZ Z ?_)))))))))))
   refine Qz Z (Qk Z Z (Qa Z (Qz Z (Qz Z (Qz Z (Qz Z (QZ Z (QZ Z (QZ Z (Qz Z (Qk Z Z ?_)))))))))))
   refine Qa Z (hK _ _ (Qb (kp1 Z) ?_))
   refine Qu (Qp Z ?_)
   simp [Qbk, YJ, Xb, h1, h2]
 ·try rw [h1]
  try simp only [qB] at h1
  refine Qz Z (Qz Z (Qz Z (Qk Z Z (Qa Z (Qz Z (Qz Z (Qz Z (Qk Z Z (Qa Z (Qz Z (Qz Z ?_)))))))))))
  refine Qz Z (Qz Z (QZ Z (QZ Z (QZ Z (Qz Z (Qk Z Z (Qa Z (Qz Z (Qz Z (Qz Z (Qz Z ?_)))))))))))
  refine QZ Z (QZ Z (QZ Z (Qz Z (Qk Z Z (Qa Z (hK _ _ (Qb (kp1 Z) ?_)))))))
  refine Qu (Qp Z ?_)
  simp [Qbk, YJ, Xb, h1]
theorem Qdw {a b c : Int} {p q : List UInt8} (hp : p.length <= 1000000) (hq : q.length <= 1000000) {a' b' c' : Int} {p' q' : List UInt8} (hp' : p'.length <= 1000000) (hq' : q'.length <= 1000000) : Ok Tryz.prog 42 [.agg [.int .i64 a, .int .i64 b, .int .i64 c, .str p, .str q], .agg [.int .i64 a', .int .i64 b', .int .i64 c', .str p', .str q']] (.int .i64 (Qcz a b c p q a' b' c' p' q')) := by
 refine Ok.ofT ZY Tryz.func42 Qp0 (Nat.le_of_ble_eq_true Z) ?_
 show TW _ _ tf42.body _ _
 refine Qe fun K hK => ZM Z Z Z (ZM Z Z Z (Qa Z (hK _ _ (Qb (kp2 Z Z) ?_))))
 refine QF ?_ -- 0
 refine Qe fun K hK => Q2 (ds0 := [13, 12, 11, 10, 9, 8, 7, 6, 5, 4, 3, 2, 1, 0]) (cs := [_, _, _, _, _]) Z Z Z Z Z Z (Zi (ds0 := [12, 11, 10, 9, 8, 7, 6, 5, 4, 3, 2, 1, 0]) (QcT (by omega) (by omega)) Z Z (.inr Z) Z Z (Ye Z (Qa Z ?_)))
 refine QA (g := 13) Z (fun h1 => ?_) (fun h1 => ?_)
 ·try rw [h1]
  try simp only [qB, Qo] at h1
  refine Qz Z (Qz Z (Qz Z (Qk Z Z (Qa Z (Qz Z (Qz Z (Qz Z (Qz Z (Qz Z (Qk Z Z (hK _ _ (Qb (kp3 Z Z Z) ?_))))))))))))
  refine Zy Z (Qe fun K hK => Qa Z (hK _ _ (Qb (kp1 Z) ?_)))
  refine Qu (Qj (Qw Z ?_))
  first | (simp [Qcz, h1]; done) | (exact (QcX (by assumption) (by assumption) (by assumption)).symm) | (exact QaR (by assumption) (by assumption) (by assumption)) | (exact (XW (by assumption) (by assumption) (by assumption) (by assumption) (by assumption)).symm) | (exact (XX (by assumption) (by assumption) (by assumption) (by assumption) (by assumption)).symm) | (rw [hI.2.2, Ys (by omega) (by omega) (by assumption)]) | (rw [hI.2.2, Yr (by omega) (by omega) (by omega)]; simp [Qo])
 ·try rw [h1]
  try simp only [qB, Qo] at h1
  refine Qi Z (Q2 (ds0 := [9, 8, 7, 6, 5, 4, 3, 2, 1, 0]) (cs := [_, _, _, _, _]) Z Z Z Z Z Z (Qi Z (Zi (ds0 := [8, 7, 6, 5, 4, 3, 2, 1, 0]) (QcT (by omega) (by omega)) Z Z (.inr Z) Z Z (Qi Z (Ye Z (Qk Z Z (Qa Z ?_)))))))
  refine QA (g := 18) Z (fun h2 => ?_) (fun h2 => ?_)
  ·try rw [h2]
   try simp only [qB, Qo] at h2
   refine Qz Z (Qz Z (Qz Z (Qz Z (Qz Z (Qk Z Z (hK _ _ (Qb (kp3 Z Z Z) ?_)))))))
   refine Zy Z (Qe fun K hK => Qa Z (hK _ _ (Qb (kp1 Z) ?_)))
   refine Qu (Qj (Qw Z ?_))
   first | (simp [Qcz, h1, h2]; done) | (exact (QcX (by assumption) (by assumption) (by assumption)).symm) | (exact QaR (by assumption) (by assumption) (by assumption)) | (exact (XW (by assumption) (by assumption) (by assumption) (by assumption) (by assumption)).symm) | (exact (XX (by assumption) (by assumption) (by assumption) (by assumption) (by assumption)).symm) | (rw [hI.2.2, Ys (by omega) (by omega) (by assumption)]) | (rw [hI.2.2, Yr (by omega) (by omega) (by omega)]; simp [Qo])
  ·try rw [h2]
   try simp only [qB, Qo] at h2
   refine Qi Z (Q2 (ds0 := [4, 1, 0]) (cs := [_, _, _, _, _]) Z Z Z Z Z Z (Qi Z (Zi (ds0 := [1, 0]) (Qcj) Z Z (.inl Z) Z Z (Qi Z (Q2 (ds0 := [2, 1, 0]) (cs := [_, _, _, _, _]) Z Z Z Z Z Z (Qi Z (Zi (ds0 := [1, 0]) (Qcj) Z Z (.inl Z) Z Z (Qi Z (Qj6 Z Z Z (Qk Z Z (hK _ _ (Qb (kp3 Z Z Z) ?_))))))))))))
   refine Qx Z (fun h3 => ?_) (fun h3 => ?_)
   ·try rw [h3]
    try simp only [qB, Qo] at h3
    refine Qe fun K hK => Qa Z (hK _ _ (Qb (kp1 Z) ?_))
    refine Qu (Qj (Qw Z ?_))
    first | (simp [Qcz, h1, h2, h3]; done) | (exact (QcX (by assumption) (by assumption) (by assumption)).symm) | (exact QaR (by assumption) (by assumption) (by assumption)) | (exact (XW (by assumption) (by assumption) (by assumption) (by assumption) (by assumption)).symm) | (exact (XX (by assumption) (by assumption) (by assumption) (by assumption) (by assumption)).symm) | (rw [hI.2.2, Ys (by omega) (by omega) (by assumption)]) | (rw [hI.2.2, Yr (by omega) (by omega) (by omega)]; simp [Qo])
   ·try rw [h3]
    try simp only [qB, Qo] at h3
    refine Qv (Qd (kp2 Z Z) ?_)
    refine QF ?_ -- 1
    refine Qe fun K hK => Qn Z Z (Zl (ds0 := [13, 2, 1, 0]) Z Z Z Z Z (Qn Z Z (Zl (ds0 := [13, 2, 1, 0]) Z Z Z Z Z (Zi (ds0 := [2, 1, 0]) (Z2) Z Z (.inr Z) Z Z (Qn Z Z (Zl (ds0 := [8, 2, 1, 0]) Z Z Z Z Z (Qn Z Z (Zl (ds0 := [8, 2, 1, 0]) Z Z Z Z Z (Zi (ds0 := [2, 1, 0]) (Z2) Z Z (.inr Z) Z Z (Qn Z Z ?_))))))))))
    refine Zl (ds0 := [3, 2, 1, 0]) Z Z Z Z Z (Qn Z Z (Zl (ds0 := [3, 2, 1, 0]) Z Z Z Z Z (Zi (ds0 := [2, 1, 0]) (Z2) Z Z (.inr Z) Z Z (QM Z Z (Zi (ds0 := [0]) (Qha (l := [ZW a a', ZW b b', ZW c c']) (by simp)) Z Z (.inr Z) Z Z (Qa Z (hK _ _ (Qb (kp3 Z Z Z) ?_))))))))
    refine Qe fun K hK => Qa Z (Xo Z Z (hK _ _ (Qb (kp4 Z Z Z Z) ?_)))
    refine Qx Z (fun h4 => ?_) (fun h4 => ?_)
    ·try rw [h4]
     try simp only [qB, Qo] at h4
     refine Qe fun K hK => Qa Z (Qa Z (hK _ _ (Qb (kp1 Z) ?_)))
     refine Qu (Qj (Qw Z ?_))
     first | (simp [Qcz, h1, h2, h3, h4]; done) | (exact (QcX (by assumption) (by assumption) (by assumption)).symm) | (exact QaR (by assumption) (by assumption) (by assumption)) | (exact (XW (by assumption) (by assumption) (by assumption) (by assumption) (by assumption)).symm) | (exact (XX (by assumption) (by assumption) (by assumption) (by assumption) (by assumption)).symm) | (rw [hI.2.2, Ys (by omega) (by omega) (by assumption)]) | (rw [hI.2.2, Yr (by omega) (by omega) (by omega)]; simp [Qo])
    ·try rw [h4]
     try simp only [qB, Qo] at h4
     refine Qv (Qd (kp2 Z Z) ?_)
     refine QF ?_ -- 2
     refine Qe fun K hK => Qn Z Z (QI Z Z Z (Qbd Z Z (hK _ _ (Qb (kp3 Z Z Z) ?_))))
     refine Qx Z (fun h5 => ?_) (fun h5 => ?_)
     ·try rw [h5]
      try simp only [qB, Qo] at h5
      refine Qe fun K hK => Qa Z (hK _ _ (Qb (kp1 Z) ?_))
      refine Qu (Qj (Qw Z ?_))
      first | (simp [Qcz, h1, h2, h3, h4, h5]; done) | (exact (QcX (by assumption) (by assumption) (by assumption)).symm) | (exact QaR (by assumption) (by assumption) (by assumption)) | (exact (XW (by assumption) (by assumption) (by assumption) (by assumption) (by assumption)).symm) | (exact (XX (by assumption) (by assumption) (by assumption) (by assumption) (by assumption)).symm) | (rw [hI.2.2, Ys (by omega) (by omega) (by assumption)]) | (rw [hI.2.2, Yr (by omega) (by omega) (by omega)]; simp [Qo])
     ·try rw [h5]
      try simp only [qB, Qo] at h5
      refine Qv (Qd (kp2 Z Z) ?_)
      refine QF ?_ -- 3
      refine Qe fun K hK => Qn Z Z (QI Z Z Z (Qbd Z Z (hK _ _ (Qb (kp3 Z Z Z) ?_))))
      refine Qx Z (fun h6 => ?_) (fun h6 => ?_)
      ·try rw [h6]
       try simp only [qB, Qo] at h6
       refine Qe fun K hK => Qa Z (hK _ _ (Qb (kp1 Z) ?_))
       refine Qu (Qj (Qw Z ?_))
       first | (simp [Qcz, h1, h2, h3, h4, h5, h6]; done) | (exact (QcX (by assumption) (by assumption) (by assumption)).symm) | (exact QaR (by assumption) (by assumption) (by assumption)) | (exact (XW (by assumption) (by assumption) (by assumption) (by assumption) (by assumption)).symm) | (exact (XX (by assumption) (by assumption) (by assumption) (by assumption) (by assumption)).symm) | (rw [hI.2.2, Ys (by omega) (by omega) (by assumption)]) | (rw [hI.2.2, Yr (by omega) (by omega) (by omega)]; simp [Qo])
      ·try rw [h6]
       try simp only [qB, Qo] at h6
       refine Qv (Qd (kp2 Z Z) (Qe fun K hK => Qn Z Z (Zl (ds0 := [5, 1]) Z Z Z Z Z (Zi (ds0 := [1]) (XU (by omega)) Z Z (.inl Z) Z Z (Qn Z Z (Zl (ds0 := [2, 0]) Z Z Z Z Z (Zi (ds0 := [0]) (XU (by omega)) Z Z (.inl Z) Z Z (Qa Z (Qa Z (hK _ _ (Qb (kp2 Z Z) ?_)))))))))))
       refine QF ?_ -- 4
       refine Qe fun K hK => Qa Z (hK _ _ (Qb (kp3 Z Z Z) ?_))
       refine QC ?_
       refine ZB (ι := Nat) (fun i => ⟨[(6, .sl (Yb (Q9 p 46))), (7, .sl (Yb (Q9 p' 46))), (8, .int .i64 i)], []⟩) (fun i => i <= (Q9 p 46).length /\ i <= (Q9 p' 46).length /\ Qcz a b c p q a' b' c' p' q' = Qjq ((Q9 p 46).drop i) ((Q9 p' 46).drop i)) (fun i => (Q9 p 46).length - i) 0 ?_ ?_ ?_
       ·exact Za (l := [6, 7, 8]) (kp3 rfl rfl rfl) Qq rfl rfl rfl
       ·exact ⟨Nat.zero_le _, Nat.zero_le _, Qm5 (by assumption) (by assumption) (by assumption) (by assumption) (by assumption) (by assumption)⟩
       intro i hI
       have sl := Qdo (s := p) (c := 46)
       try dsimp only
       refine QF ?_ -- 5
       refine Qe fun K hK => Qa Z (Qa Z (QQ Z Z (Z7 Z Z (Qa Z ?_))))
       refine QA (g := 61) Z (fun h7 => ?_) (fun h7 => ?_)
       ·try rw [h7]
        try simp only [qB, Qo] at h7
        refine Qi Z (Qa Z (Qi Z (Qa Z (Qi Z (QQ Z Z (Qi Z (Z7 Z Z (Qk Z Z (hK _ _ (Qb (kp4 Z Z Z Z) ?_))))))))))
        refine Qx Z (fun h8 => ?_) (fun h8 => ?_)
        ·try rw [h8]
         try simp only [qB, Qo] at h8
         refine Qv (Qd (kp3 Z Z Z) ?_)
         refine QF ?_ -- 6
         refine QC (Qe fun K hK => Qa Z (Qa Z (QK Z Z Z (by omega) (Y2 (by omega)) Z (Zl (ds0 := [1, 0]) Z Z Z Z Z (Qa Z (Qa Z (QK Z Z Z (by omega) (Y2 (by omega)) Z (Zl (ds0 := [1, 0]) Z Z Z Z Z (Zi (ds0 := [0]) (Qgc (X0 (by omega) hp) (X0 (by omega) hp')) Z Z (.inr Z) Z Z (Qa Z ?_))))))))))
         refine hK _ _ (Qb (kp4 Z Z Z Z) ?_)
         refine Qe fun K hK => Qa Z (Xo Z Z (hK _ _ (Qb (kp5 Z Z Z Z Z) ?_)))
         refine Qx Z (fun h9 => ?_) (fun h9 => ?_)
         ·try rw [h9]
          try simp only [qB, Qo] at h9
          refine Qe fun K hK => Qa Z (Qa Z (hK _ _ (Qb (kp1 Z) ?_)))
          refine Qu (Qs (Qj (Q3 (Qs (Qj (Qw Z ?_))))))
          first | (simp [Qcz, h1, h2, h3, h4, h5, h6, h7, h8, h9]; done) | (exact (QcX (by assumption) (by assumption) (by assumption)).symm) | (exact QaR (by assumption) (by assumption) (by assumption)) | (exact (XW (by assumption) (by assumption) (by assumption) (by assumption) (by assumption)).symm) | (exact (XX (by assumption) (by assumption) (by assumption) (by assumption) (by assumption)).symm) | (rw [hI.2.2, Ys (by omega) (by omega) (by assumption)]) | (rw [hI.2.2, Yr (by omega) (by omega) (by omega)]; simp [Qo])
         ·try rw [h9]
          try simp only [qB, Qo] at h9
          refine Qv (Qg (Qd (kp3 Z Z Z) (QO fun K hK => Qa Z (Q7 Z Z (by first | exact Qr (by omega) (by omega) | exact QG (by omega) (by omega) | exact QL (by omega) (by omega) | rfl) (Qa Z (hK _ ?_))))))
          refine Qh (i + 1) ?_ ?_ ?_
          ·exact QP (kp3 rfl rfl rfl)
          ·exact ⟨by omega, by omega, by rw [hI.2.2, QhE (by omega) (by omega) (by assumption)]⟩
          ·first | omega | (simp only; omega) | (dsimp only; omega)
        ·try rw [h8]
         try simp only [qB, Qo] at h8
         refine Zf (QH (Qt (QB (Qd (kp2 Z Z) (Qe fun K hK => Qa Z (QQ Z Z (Qa Z (QQ Z Z (QE (Z2) Z Z (.inr Z) (Qa Z ?_))))))))))
         refine hK _ _ (Qb (kp1 Z) ?_)
         refine Qu (Qw Z ?_)
         first | (simp [Qcz, h1, h2, h3, h4, h5, h6, h7, h8]; done) | (exact (QcX (by assumption) (by assumption) (by assumption)).symm) | (exact QaR (by assumption) (by assumption) (by assumption)) | (exact (XW (by assumption) (by assumption) (by assumption) (by assumption) (by assumption)).symm) | (exact (XX (by assumption) (by assumption) (by assumption) (by assumption) (by assumption)).symm) | (rw [hI.2.2, Ys (by omega) (by omega) (by assumption)]) | (rw [hI.2.2, Yr (by omega) (by omega) (by omega)]; simp [Qo])
       ·try rw [h7]
        try simp only [qB, Qo] at h7
        refine Qz Z (Qz Z (Qz Z (Qz Z (Qk Z Z (hK _ _ (Qb (kp4 Z Z Z Z) ?_))))))
        refine Zp Z (Zf (QH (Qt (QB (Qd (kp2 Z Z) (Qe fun K hK => Qa Z (QQ Z Z (Qa Z (QQ Z Z (QE (Z2) Z Z (.inr Z) ?_))))))))))
        refine Qa Z (hK _ _ (Qb (kp1 Z) ?_))
        refine Qu (Qw Z ?_)
        first | (simp [Qcz, h1, h2, h3, h4, h5, h6, h7]; done) | (exact (QcX (by assumption) (by assumption) (by assumption)).symm) | (exact QaR (by assumption) (by assumption) (by assumption)) | (exact (XW (by assumption) (by assumption) (by assumption) (by assumption) (by assumption)).symm) | (exact (XX (by assumption) (by assumption) (by assumption) (by assumption) (by assumption)).symm) | (rw [hI.2.2, Ys (by omega) (by omega) (by assumption)]) | (rw [hI.2.2, Yr (by omega) (by omega) (by omega)]; simp [Qo])
end Go.Proofs
namespace M3
open Go Go.Abs
end M3
namespace M3
open Go Go.Abs
end M3
namespace M3
open Go Go.Abs
end M3
namespace M25
open Go Go.Abs M3
def QfR (a b c : Int) : Bool := decide (a = 0) && decide (b = 0) && decide (c = 0)
def XY (a b c : Int) (p q : List UInt8) (part : Int) : Option (Int × Int × Int) :=
 if Qbk a b c p q = false \/ part < 0 \/ 2 < part then none
 else
  let o := if part = 0 then (a + 1, 0, 0) else if part = 1 then (a, b + 1, 0) else (a, b, c + 1)
  if Qbk o.1 o.2.1 o.2.2 [] [] = true then some o else none
def dOV (o : Option (Int × Int × Int)) : D := .tup [.agg [.int .i64 (o.getD (0, 0, 0)).1, .int .i64 (o.getD (0, 0, 0)).2.1, .int .i64 (o.getD (0, 0, 0)).2.2, .str [], .str []], .bool o.isSome]
def Xz (a b c : Int) (p q : List UInt8) : Nat -> Option (Int × Int × Int)
 | 0 => none
 | n + 1 => if (XY a b c p q n).isSome = true then XY a b c p q n else Xz a b c p q n
def QhD (a b c : Int) (p q : List UInt8) : Option (Int × Int × Int) :=
 if Qbk a b c p q = false then none else if p ≠ [] then some (a, b, c) else Xz a b c p q 3
theorem QbZ {a b c : Int} {p q : List UInt8} (h : Qbk a b c p q = true) : (0 <= a /\ a <= 9999) /\ (0 <= b /\ b <= 9999) /\ (0 <= c /\ c <= 9999) := by
 simp only [Qbk, Qfr, Bool.and_eq_true, decide_eq_true_eq] at h
 omega
theorem Qib {a b c : Int} {p q : List UInt8} {m : Nat} (hm : 0 < m) (h : (XY a b c p q ((m : Int) - 1)).isSome = false) : Xz a b c p q m = Xz a b c p q (m - 1) := by
 obtain ⟨n, rfl⟩ : ∃ n, m = n + 1 := ⟨m - 1, by omega⟩
 rw [show ((n + 1 : Nat) : Int) - 1 = (n : Int) by omega] at h
 rw [Xz, if_neg (by rw [h]; simp)]; rfl
theorem Qg9 {a b c : Int} {p q : List UInt8} {m : Nat} (hm : 0 < m) (h : (XY a b c p q ((m : Int) - 1)).isSome = true) : Xz a b c p q m = XY a b c p q ((m : Int) - 1) := by
 obtain ⟨n, rfl⟩ : ∃ n, m = n + 1 := ⟨m - 1, by omega⟩
 rw [show ((n + 1 : Nat) : Int) - 1 = (n : Int) by omega] at h ⊢
 rw [Xz, if_pos h]
def dCu (x : Cu) : List D := [.int .i64 x.e, .int .i64 x.a, .int .i64 x.b, .int .i64 x.c, .str x.p, .str x.q, .bool x.f]
def QdY (s : Cu × Cu) : List D := dCu s.1 ++ dCu s.2
def ZP (l : List (Cu × Cu)) : D := .sl (l.map QdY)
def QgT (s : List (Cu × Cu) × List (Cu × Cu)) : D := .agg [ZP s.1, ZP s.2]
def Qck : Cu := ⟨-1, 0, 0, 0, [], [], false⟩
def Qfq : Cu := ⟨1, 0, 0, 0, [], [], false⟩
def QeZ (a b c : Int) : Cu := if QfR a b c = true then Qck else ⟨0, a, b, c, [], [], false⟩
def Qc8 (a b c : Int) : Cu := match QhD a b c [] [] with
 | none => Qfq
 | some o => ⟨0, o.1, o.2.1, o.2.2, [], [], false⟩
def Xa (a b c : Int) (p q : List UInt8) : List (Cu × Cu) × List (Cu × Cu) :=
 if Qbk a b c p q = false then ([], []) else if p ≠ [] then ([], [(⟨0, a, b, c, p, [], false⟩, ⟨0, a, b, c, p, [], true⟩)]) else ([(QeZ a b c, Qc8 a b c)], [])
def QfS (e a b c : Int) (p q : List UInt8) (f : Bool) : Bool := !decide (e = 0) || (!f && decide (p = []) && !QfR a b c)
def Cu.sm (x : Cu) : Prop := x.p.length <= 1000000 /\ x.q.length <= 1000000
def Sm (l : List (Cu × Cu)) : Prop := l.length <= 1000000 /\ ∀ s ∈ l, Cu.sm s.1 /\ Cu.sm s.2
theorem Sm.at {l : List (Cu × Cu)} (h : Sm l) {i : Nat} (hi : i < l.length) : (l[i].1.p.length <= 1000000 /\ l[i].1.q.length <= 1000000) /\ (l[i].2.p.length <= 1000000 /\ l[i].2.q.length <= 1000000) := h.2 _ (List.getElem_mem hi)
def Qda (s : Cu × Cu) : Bool := QhF s.1.e s.1.a s.1.b s.1.c s.1.p s.1.q s.1.f s.2.e s.2.a s.2.b s.2.c s.2.p s.2.q s.2.f
def Qa3 (x y : Cu) : Int := Qa1 x.e x.a x.b x.c x.p x.q x.f y.e y.a y.b y.c y.p y.q y.f
def QnF (l : List (Cu × Cu)) (i : Nat) : Bool := match l[i]? with
 | none => true
 | some s => Qda s && (decide (i = 0) || match l[i - 1]? with | none => true | some r => decide (Qa3 r.2 s.1 < 0))
theorem QkS {l : List (Cu × Cu)} {i : Nat} (h : i < l.length) : QnF l i = (Qda l[i] && (decide (i = 0) || decide (Qa3 (l[i - 1]'(by omega)).2 l[i].1 < 0))) := by
 unfold QnF
 rw [List.getElem?_eq_getElem h, List.getElem?_eq_getElem (show i - 1 < l.length by omega)]
theorem Qmy {l : List (Cu × Cu)} {i : Nat} (h : i < l.length) (h1 : Qda l[i] = true) (h2 : i = 0 \/ Qa3 (l[i - 1]'(by omega)).2 l[i].1 < 0) : QnF l i = true := by
 rw [QkS h, h1]; simpa using h2
theorem QfU {l : List (Cu × Cu)} {i : Nat} (h : i < l.length) (h1 : Qda l[i] = false \/ (i ≠ 0 /\ 0 <= Qa3 (l[i - 1]'(by omega)).2 l[i].1)) : QnF l i = false := by
 rw [QkS h]
 rcases h1 with h1 | ⟨h1, h2⟩
 ·rw [h1]; rfl
 ·simp only [Bool.and_eq_false_iff, Bool.or_eq_false_iff, decide_eq_false_iff_not]
  exact .inr ⟨h1, by omega⟩
def Qft (l : List (Cu × Cu)) : Bool := (List.range l.length).all (QnF l)
theorem Qa5 {n i : Nat} {p : Nat -> Bool} (h : i < n) (hp : p i = false) : (List.range n).all p = false := by
 rw [Bool.eq_false_iff]; intro ha
 rw [List.all_eq_true] at ha
 rw [ha i (List.mem_range.2 h)] at hp; cases hp
theorem QgD {i : Nat} {p : Nat -> Bool} (h : (List.range i).all p = true) (hp : p i = true) : (List.range (i + 1)).all p = true := by
 rw [List.range_succ, List.all_append, h]; simp [hp]
theorem QgC {i : Nat} {p : Nat -> Bool} {n : Nat} (h : (List.range i).all p = true) (hn : n <= i) : (List.range n).all p = true := by
 rw [List.all_eq_true] at h ⊢
 exact fun x hx => h x (List.mem_range.2 (Nat.lt_of_lt_of_le (List.mem_range.1 hx) hn))
def inC (x y : Cu) (s : Cu × Cu) : Bool := decide (Qa3 s.1 x <= 0) && decide (Qa3 y s.2 <= 0)
theorem Qn9 {x y : Cu} {s : Cu × Cu} (h1 : Qa3 s.1 x <= 0) (h2 : Qa3 y s.2 <= 0) : inC x y s = true := by simp [inC, h1, h2]
theorem Qn8 {x y : Cu} {s : Cu × Cu} (h : ¬ Qa3 s.1 x <= 0 \/ ¬ Qa3 y s.2 <= 0) : inC x y s = false := by
 simp only [inC, Bool.and_eq_false_iff, decide_eq_false_iff_not]; exact h
def mIn (l : List (Cu × Cu)) (x y : Cu) : Bool := l.any (inC x y)
theorem Qh8 {α : Type} {s : List α} {p : α -> Bool} {i : Nat} (h : i < s.length) (hp : p s[i] = true) : s.any p = true := List.any_eq_true.2 ⟨_, List.getElem_mem h, hp⟩
theorem Qmk {α : Type} {s : List α} {p : α -> Bool} {i : Nat} (hi : s.length <= i) (h : (s.take i).any p = false) : s.any p = false := by rwa [List.take_of_length_le hi] at h
theorem QfB {α : Type} {s : List α} {p : α -> Bool} {i : Nat} (h : i < s.length) (ha : (s.take i).any p = false) (hp : p s[i] = false) : (s.take (i + 1)).any p = false := by
 rw [List.take_succ_eq_append_getElem h, List.any_append, ha]; simp [hp]
def Qbc (x : Cu) : Bool := QfS x.e x.a x.b x.c x.p x.q x.f
def Qfu (s : List (Cu × Cu) × List (Cu × Cu)) : Bool := Qft s.1 && Qft s.2 && s.1.all fun x => Qbc x.1 && Qbc x.2
theorem QaA {s : List (Cu × Cu) × List (Cu × Cu)} (h : Qft s.1 = false \/ Qft s.2 = false) : Qfu s = false := by
 rw [Qfu]; rcases h with h | h <;> simp [h]
theorem Qaz {s : List (Cu × Cu) × List (Cu × Cu)} {i : Nat} (hi : i < s.1.length) (h : Qbc s.1[i].1 = false \/ Qbc s.1[i].2 = false) : Qfu s = false := by
 have : (s.1.all fun x => Qbc x.1 && Qbc x.2) = false := Yf hi (by rcases h with h | h <;> simp [h])
 rw [Qfu, this, Bool.and_false]
theorem Qdd {s : List (Cu × Cu) × List (Cu × Cu)} {i : Nat} (h1 : Qft s.1 = true) (h2 : Qft s.2 = true) (hi : s.1.length <= i) (h : (s.1.take i).all (fun x => Qbc x.1 && Qbc x.2) = true) : Qfu s = true := by
 rw [List.take_of_length_le hi] at h
 rw [Qfu, h1, h2, h]; rfl
def Qgd (l : List Cu) : D := .sl (l.map dCu)
theorem QhQ {l : List Cu} : ∀ r ∈ l.map dCu, r.length = 7 := fun r hr => by obtain ⟨x, _, rfl⟩ := List.mem_map.1 hr; rfl
theorem Ql7 {l : List Cu} {a b : Nat} : ∀ r ∈ ((l.map dCu).take a).drop b, r.length = 7 := fun r hr => QhQ r (List.mem_of_mem_take (List.mem_of_mem_drop hr))
def QbH : List Cu -> Cu -> List Cu
 | [], c => [c]
 | x :: r, c => if Qa3 x c < 0 then x :: QbH r c else if Qa3 x c = 0 then x :: r else c :: x :: r
theorem QkK {l : List Cu} {c : Cu} {k : Nat} (hk : k < l.length) (h : Qa3 l[k] c < 0) (hi : QbH l c = l.take k ++ QbH (l.drop k) c) : QbH l c = l.take (k + 1) ++ QbH (l.drop (k + 1)) c := by
 rw [hi, List.drop_eq_getElem_cons hk, QbH, if_pos h, List.take_succ_eq_append_getElem hk, List.append_assoc]; rfl
theorem QkJ {l : List Cu} {c : Cu} {k : Nat} (hk : k < l.length) (h : Qa3 l[k] c = 0) (hi : QbH l c = l.take k ++ QbH (l.drop k) c) : QbH l c = l := by
 rw [hi, List.drop_eq_getElem_cons hk, QbH, if_neg (by omega), if_pos h, <- List.drop_eq_getElem_cons hk, List.take_append_drop]
theorem Qjp {l : List Cu} {c : Cu} {k : Nat} (h : l.length <= k \/ ∃ hk : k < l.length, ¬ Qa3 l[k] c < 0 /\ Qa3 l[k] c ≠ 0) (hi : QbH l c = l.take k ++ QbH (l.drop k) c) : QbH l c = l.take k ++ c :: l.drop k := by
 rw [hi]
 rcases h with h | ⟨hk, h1, h2⟩
 ·rw [List.drop_eq_nil_of_le h, QbH]
 ·rw [List.drop_eq_getElem_cons hk, QbH, if_neg h1, if_neg h2]
theorem Qec : ∀ (l : List Cu) (c : Cu), (QbH l c).length <= l.length + 1
 | [], c => by simp [QbH]
 | x :: r, c => by
  have := Qec r c
  simp only [QbH]
  (repeat' split) <;> simp <;> omega
theorem Qgw : ∀ {l : List Cu} {c : Cu}, (∀ x ∈ l, Cu.sm x) -> Cu.sm c -> ∀ x ∈ QbH l c, Cu.sm x
 | [], c, _, hc, x, hx => by simp [QbH] at hx; exact hx ▸ hc
 | y :: r, c, hl, hc, x, hx => by
  simp only [QbH] at hx
  split at hx
  ·rcases List.mem_cons.1 hx with rfl | hx
   ·exact hl _ (by simp)
   ·exact Qgw (fun z hz => hl z (by simp [hz])) hc x hx
  ·split at hx
   ·exact hl x hx
   ·rcases List.mem_cons.1 hx with rfl | hx
    ·exact hc
    ·exact hl x hx
def YP (l : List (Cu × Cu)) : List Cu := l.foldl (fun out s => QbH (QbH out s.1) s.2) [Qck, Qfq]
theorem QlS {l : List (Cu × Cu)} {i : Nat} (h : i < l.length) : YP (l.take (i + 1)) = QbH (QbH (YP (l.take i)) l[i].1) l[i].2 := by
 rw [List.take_succ_eq_append_getElem h, YP, List.foldl_append]; rfl
theorem QfO : ∀ (l : List (Cu × Cu)) (out : List Cu), (l.foldl (fun out s => QbH (QbH out s.1) s.2) out).length <= out.length + 2 * l.length
 | [], out => by simp
 | s :: l, out => by
  have h1 := Qec out s.1
  have h2 := Qec (QbH out s.1) s.2
  have := QfO l (QbH (QbH out s.1) s.2)
  simp only [List.foldl_cons, List.length_cons]; omega
theorem QbD (l : List (Cu × Cu)) : (YP l).length <= 2 + 2 * l.length := QfO l _
theorem QhA : ∀ {l : List (Cu × Cu)} {out : List Cu}, (∀ s ∈ l, Cu.sm s.1 /\ Cu.sm s.2) -> (∀ x ∈ out, Cu.sm x) -> ∀ x ∈ l.foldl (fun out s => QbH (QbH out s.1) s.2) out, Cu.sm x
 | [], _, _, h => h
 | s :: l, out, hl, h => by
  rw [List.foldl_cons]
  exact QhA (fun t ht => hl t (by simp [ht])) (Qgw (Qgw h (hl s (by simp)).1) (hl s (by simp)).2)
theorem Qjm {l : List (Cu × Cu)} (hl : ∀ s ∈ l, Cu.sm s.1 /\ Cu.sm s.2) : ∀ x ∈ YP l, Cu.sm x := QhA hl (by
 intro x hx
 simp only [List.mem_cons, List.not_mem_nil, or_false] at hx
 rcases hx with rfl | rfl <;> exact ⟨Nat.zero_le _, Nat.zero_le _⟩)
theorem Qeb {l : List (Cu × Cu)} (hl : Sm l) (i : Nat) : (YP (l.take i)).length <= 2000002 /\ ∀ x ∈ YP (l.take i), Cu.sm x := by
 refine ⟨?_, Qjm fun s hs => hl.2 s (List.mem_of_mem_take hs)⟩
 have := QbD (l.take i)
 have h2 : (l.take i).length <= l.length := List.length_take_le' ..
 have := hl.1
 omega
def QbG (l : List (Cu × Cu)) (x y : Cu) : List (Cu × Cu) := match l.getLast? with
 | some s => if Qa3 s.2 x = 0 then l.dropLast ++ [(s.1, y)] else l ++ [(x, y)]
 | none => l ++ [(x, y)]
theorem QhB {l : List (Cu × Cu)} {x y : Cu} {i : Nat} (hi : i + 1 = l.length) (h : Qa3 (l[i]'(by omega)).2 x = 0) : QbG l x y = l.set i ((l[i]'(by omega)).1, y) := by
 have hg : l.getLast? = some (l[i]'(by omega)) := by
  rw [List.getLast?_eq_getElem?, show l.length - 1 = i by omega, List.getElem?_eq_getElem]
 rw [QbG, hg]
 simp only [h, if_true]
 rw [List.dropLast_eq_take, show l.length - 1 = i by omega, List.set_eq_take_append_cons_drop, if_pos (by omega), List.drop_eq_nil_of_le (by omega)]
theorem Qc9 {l : List (Cu × Cu)} {x y : Cu} (h : l = [] \/ ∃ i, ∃ hi : i + 1 = l.length, Qa3 (l[i]'(by omega)).2 x ≠ 0) : QbG l x y = l ++ [(x, y)] := by
 rcases h with rfl | ⟨i, hi, h⟩
 ·rfl
 ·have hg : l.getLast? = some (l[i]'(by omega)) := by
   rw [List.getLast?_eq_getElem?, show l.length - 1 = i by omega, List.getElem?_eq_getElem]
  rw [QbG, hg]
  simp only [if_neg h]
theorem QhC (l : List (Cu × Cu)) (x y : Cu) : (QbG l x y).length <= l.length + 1 := by
 unfold QbG
 split
 ·split
  ·simp
  ·simp
 ·simp
theorem Qjn {l : List (Cu × Cu)} {x y : Cu} (hl : ∀ s ∈ l, Cu.sm s.1 /\ Cu.sm s.2) (hx : Cu.sm x) (hy : Cu.sm y) : ∀ s ∈ QbG l x y, Cu.sm s.1 /\ Cu.sm s.2 := by
 intro s hs
 unfold QbG at hs
 split at hs
 ·rename_i t ht
  have ht' := List.mem_of_getLast? ht
  split at hs
  ·rcases List.mem_append.1 hs with hs | hs
   ·exact hl s (List.dropLast_subset _ hs)
   ·simp at hs; subst hs; exact ⟨(hl t ht').1, hy⟩
  ·rcases List.mem_append.1 hs with hs | hs
   ·exact hl s hs
   ·simp at hs; subst hs; exact ⟨hx, hy⟩
 ·rcases List.mem_append.1 hs with hs | hs
  ·exact hl s hs
  ·simp at hs; subst hs; exact ⟨hx, hy⟩
theorem Qjh {α β : Type} {l : List α} {f : α -> β} {i : Nat} (h : i + 1 < l.length) : (l.map f)[((i : Int) + 1).toNat]? = some (f l[i + 1]) := by
 rw [show ((i : Int) + 1).toNat = i + 1 by omega, List.getElem?_map, List.getElem?_eq_getElem h]; rfl
def QbE (f : Cu -> Cu -> Bool) : List Cu -> List (Cu × Cu) -> List (Cu × Cu)
 | x :: y :: r, out => QbE f (y :: r) (if f x y = true then QbG out x y else out)
 | _, out => out
def Qiu (l : List (Cu × Cu)) : List (Cu × Cu) := if l.all Qda = true then QbE (mIn l) (YP l) [] else []
theorem QfP {f : Cu -> Cu -> Bool} {c : List Cu} {out : List (Cu × Cu)} {i : Nat} (h : i + 1 < c.length) : QbE f (c.drop i) out = QbE f (c.drop (i + 1)) (if f c[i] c[i + 1] = true then QbG out c[i] c[i + 1] else out) := by
 rw [List.drop_eq_getElem_cons (show i < c.length by omega), List.drop_eq_getElem_cons h, QbE]
theorem QkI {f : Cu -> Cu -> Bool} {c : List Cu} {out : List (Cu × Cu)} {i : Nat} (h : c.length <= i + 1) : QbE f (c.drop i) out = out := by
 have : (c.drop i).length <= 1 := by simp; omega
 match hd : c.drop i with
 | [] => rfl
 | [x] => rfl
 | x :: y :: r => rw [hd] at this; simp at this
def FillI (f : Cu -> Cu -> Bool) (c : List Cu) (i : Nat) (out : List (Cu × Cu)) : Prop :=
 out.length <= i /\ (∀ s ∈ out, Cu.sm s.1 /\ Cu.sm s.2) /\ QbE f c [] = QbE f (c.drop i) out
theorem FillI.zero {f : Cu -> Cu -> Bool} {c : List Cu} : FillI f c 0 [] := ⟨Nat.zero_le _, by simp, by simp⟩
theorem FillI.take {f : Cu -> Cu -> Bool} {c : List Cu} {i : Nat} {out : List (Cu × Cu)} (h : FillI f c i out) (hc : ∀ x ∈ c, Cu.sm x) (hi : i + 1 < c.length) (ht : f c[i] c[i + 1] = true) : FillI f c (i + 1) (QbG out c[i] c[i + 1]) := by
 obtain ⟨h1, h2, h3⟩ := h
 refine ⟨Nat.le_trans (QhC ..) (by omega), Qjn h2 (hc _ (List.getElem_mem _)) (hc _ (List.getElem_mem _)), ?_⟩
 rw [h3, QfP hi, if_pos ht]
theorem FillI.skip {f : Cu -> Cu -> Bool} {c : List Cu} {i : Nat} {out : List (Cu × Cu)} (h : FillI f c i out) (hi : i + 1 < c.length) (ht : f c[i] c[i + 1] = false) : FillI f c (i + 1) out := by
 obtain ⟨h1, h2, h3⟩ := h
 exact ⟨by omega, h2, by rw [h3, QfP hi, if_neg (by rw [ht]; simp)]⟩
theorem FillI.done {f : Cu -> Cu -> Bool} {c : List Cu} {i : Nat} {out : List (Cu × Cu)} (h : FillI f c i out) (hi : c.length <= i + 1) : QbE f c [] = out := by rw [h.2.2, QkI hi]
theorem Yw {l : List (Cu × Cu)} (hl : Sm l) : ∀ x ∈ YP l, Cu.sm x := Qjm hl.2
def Qmu (a b : List (Cu × Cu)) : List (Cu × Cu) := if Qft a = true /\ Qft b = true then Qiu (a ++ b) else []
def Qiv (a : List (Cu × Cu)) : List (Cu × Cu) := if Qft a = true then QbE (fun x y => !mIn a x y) (YP a) [] else []
theorem QmB {l : List (Cu × Cu)} : ∀ r ∈ l.map QdY, r.length = 14 := fun r hr => by obtain ⟨x, _, rfl⟩ := List.mem_map.1 hr; rfl
theorem Sm.app {a b : List (Cu × Cu)} (ha : Sm a) (hb : Sm b) (h : a.length + b.length <= 1000000) : Sm (a ++ b) := by
 refine ⟨by simp; omega, fun s hs => ?_⟩
 rcases List.mem_append.1 hs with hs | hs
 ·exact ha.2 s hs
 ·exact hb.2 s hs
theorem QoQ {H : List (Nat × Box)} {S : Nat -> Bool} {k n : Nat} {b : Box} (hS : S k = true) (hb : lk H k = some b) (hp : b.pr = true) (hn : n = b.rows.length) : (D.osl k n).fz H S = .sl b.rows := by
 simp only [D.fz, D.fzS, hS, hb, if_true, hp, hn, and_self]
abbrev Qh2 := List (Cu × Cu) × List (Cu × Cu)
def Qmv (a b : Qh2) : Qh2 := if Qfu a = true /\ Qfu b = true then (Qmu a.1 b.1, Qmu a.2 b.2) else ([], [])
def Qgv (a : Qh2) : Qh2 := if Qfu a = true then (Qiv a.1, Qiv a.2) else ([], [])
def mPl (v n : Int) : Int := if n < 1 then 0 else Qe2 v n
theorem Qe1 {v n : Int} : 0 <= mPl v n := by
 unfold mPl; split
 ·omega
 ·exact Ql2 (by omega)
theorem Qe0 {v n : Int} (h : 1 <= n) : mPl v n < n := by
 rw [mPl, if_neg (by omega)]; exact Ql1 (by omega)
def Qlp (l : List Int) (i : Int) : Int := if i < 0 \/ (l.length : Int) <= i then i.tmod 3 else l.getD i.toNat 0
theorem QkH {l : List Int} {i : Int} (h0 : 0 <= i) (h : i < l.length) : Qlp l i = l[i.toNat]'(by omega) := by
 rw [Qlp, if_neg (by omega), List.getD_eq_getElem?_getD, List.getElem?_eq_getElem (by omega)]; rfl
def I64 (x : Int) : Prop := -9223372036854775808 <= x /\ x <= 9223372036854775807
theorem QlR {l : List Int} {i : Int} (hl : ∀ x ∈ l, I64 x) (hi : I64 i) : I64 (Qlp l i) := by
 by_cases h : i < 0 \/ (l.length : Int) <= i
 ·rw [Qlp, if_pos h]
  have h1 := Int.tmod_lt_of_pos i (show (0 : Int) < 3 by omega)
  have h2 := Int.lt_tmod_of_pos i (show (0 : Int) < 3 by omega)
  exact ⟨by omega, by omega⟩
 ·rw [QkH (by omega) (by omega)]
  exact hl _ (List.getElem_mem _)
theorem Qlm (x : Int) : I64 (IntKind.i64.wrap x) := by
 unfold IntKind.wrap I64
 simp only [IntKind.bits, IntKind.signed, Bool.true_and]
 split
 ·rename_i h
  have := of_decide_eq_true h
  omega
 ·rename_i h
  have : ¬ (x % 2 ^ 64 >= 2 ^ (64 - 1)) := fun hh => h (decide_eq_true hh)
  omega
theorem QdE {α : Type} {k : Nat} {v : α} {l : List (Nat × α)} : lk ((k, v) :: l) k = some v := by rw [Qm, if_pos rfl]
theorem Qea {α : Type} {k : Nat} {v : α} {l : List (Nat × α)} : (lk ((k, v) :: l) k).isSome = true := by rw [QdE]; rfl
def gB (L : List Int) (I : Int) (et : Nat) : Box := ⟨[[dInts L, .int .i64 I]], 2, et, true⟩
def nxI (I : Int) : Int := IntKind.i64.wrap (I + 1)
def nx (L : List Int) (I n : Int) : Int := mPl (Qlp L (IntKind.i64.wrap (nxI I - 1))) n
def QhG (h m : Int) : Int := if Qcy .and .i64 h m = h then 2 else if Qcy .and .i64 h m = 0 then 0 else 1
theorem Qnm {i : Nat} (h : i <= 62) : 1 <= (2 : Int) ^ i /\ (2 : Int) ^ i <= 4611686018427387904 := by
 have h1 : (2 : Nat) ^ i <= 2 ^ 62 := Nat.pow_le_pow_right (by omega) h
 have h2 : 1 <= (2 : Nat) ^ i := Nat.one_le_two_pow
 have h3 : ((2 ^ i : Nat) : Int) = (2 : Int) ^ i := by simp
 rw [<- h3]
 have h4 : (2 : Nat) ^ 62 = 4611686018427387904 := by decide
 omega
structure Vr where
 a : Int
 b : Int
 c : Int
 p : List UInt8
 q : List UInt8
def dVr (v : Vr) : List D := [.int .i64 v.a, .int .i64 v.b, .int .i64 v.c, .str v.p, .str v.q]
def Vr.sm (v : Vr) : Prop := v.p.length <= 100 /\ v.q.length <= 100
def versions : List Vr := [⟨1, 0, 0, [], []⟩, ⟨1, 2, 0, [], []⟩, ⟨2, 0, 0, [97, 46, 49], []⟩, ⟨2, 0, 0, [], []⟩]
theorem QiN : ∀ v ∈ versions, v.sm := by
 intro v hv
 simp only [versions, List.mem_cons, List.not_mem_nil, or_false] at hv
 rcases hv with rfl | rfl | rfl | rfl <;> exact ⟨by decide, by decide⟩
theorem Qdg {i : Nat} : ((i : Int) - 1).toNat = i - 1 := by omega
end M25
namespace Go.Proofs
open Go Go.Abs M3 M25
set_option linter.unusedVariables false
set_option linter.unusedSimpArgs false
theorem X2 {a b c : Int} {p q : List UInt8} : Ok Tryz.prog 84 [.agg [.int .i64 a, .int .i64 b, .int .i64 c, .str p, .str q]] (.agg [.int .i64 a, .int .i64 b, .int .i64 c, .str p, .str []]) := by
 refine Ok.ofT ZY Tryz.func84 Qqy (Nat.le_of_ble_eq_true Z) ?_
 show TW _ _ tf84.body _ _
 refine Qe fun K hK => ZM Z Z Z (ZF Z (hK _ _ (Qb (kp2 Z Z) ?_)))
 refine Qe fun K hK => Qn Z Z (QX Z Z Z Z Z Z Z Z (hK _ _ (Qb (kp2 Z Z) ?_)))
 refine Qe fun K hK => QR (cs := [_, _, _, _, _]) Z Z Z Z (QX Z Z Z Z Z Z Z Z (hK _ _ (Qb (kp1 Z) ?_)))
 refine Qu (ZA (cs := [_, _, _, _, _]) Z Z Z Z ?_)
 exact rfl
theorem YV  : Ok Tryz.prog 86 [] (.agg [.int .i64 (-1), .int .i64 0, .int .i64 0, .int .i64 0, .str [], .str [], .bool false]) := by
 refine Ok.ofT ZY Tryz.func86 QqA (Nat.le_of_ble_eq_true Z) ?_
 show TW _ _ tf86.body _ _
 refine Qe fun K hK => ZF Z (hK _ _ (Qb (kp1 Z) ?_))
 refine Qe fun K hK => Q4 Z Z (QX Z Z Z Z Z Z Z Z (hK _ _ (Qb (kp1 Z) ?_)))
 refine Qu (ZA (cs := [_, _, _, _, _, _, _]) Z Z Z Z ?_)
 exact rfl
theorem Y7  : Ok Tryz.prog 88 [] (.agg [.int .i64 1, .int .i64 0, .int .i64 0, .int .i64 0, .str [], .str [], .bool false]) := by
 refine Ok.ofT ZY Tryz.func88 QqC (Nat.le_of_ble_eq_true Z) ?_
 show TW _ _ tf88.body _ _
 refine Qe fun K hK => ZF Z (hK _ _ (Qb (kp1 Z) ?_))
 refine Qe fun K hK => Q4 Z Z (QX Z Z Z Z Z Z Z Z (hK _ _ (Qb (kp1 Z) ?_)))
 refine Qu (ZA (cs := [_, _, _, _, _, _, _]) Z Z Z Z ?_)
 exact rfl
theorem YH {a b c : Int} {p q : List UInt8} : Ok Tryz.prog 62 [.agg [.int .i64 a, .int .i64 b, .int .i64 c, .str p, .str q]] (.agg [.int .i64 0, .int .i64 a, .int .i64 b, .int .i64 c, .str p, .str [], .bool false]) := by
 refine Ok.ofT ZY Tryz.func62 Qqe (Nat.le_of_ble_eq_true Z) ?_
 show TW _ _ tf62.body _ _
 refine Qe fun K hK => ZM Z Z Z (ZF Z (hK _ _ (Qb (kp2 Z Z) ?_)))
 refine Qe fun K hK => QR (cs := [_, _, _, _, _]) Z Z Z Z (QE (X2) Z Z (.inl Z) (Q4 Z Z (QX Z Z Z Z Z Z Z Z (hK _ _ (Qb (kp1 Z) ?_)))))
 refine Qu (ZA (cs := [_, _, _, _, _, _, _]) Z Z Z Z ?_)
 exact rfl
theorem Qbs {a b c : Int} {p q : List UInt8} : Ok Tryz.prog 63 [.agg [.int .i64 a, .int .i64 b, .int .i64 c, .str p, .str q]] (.agg [.int .i64 0, .int .i64 a, .int .i64 b, .int .i64 c, .str p, .str [], .bool true]) := by
 refine Ok.ofT ZY Tryz.func63 Qqf (Nat.le_of_ble_eq_true Z) ?_
 show TW _ _ tf63.body _ _
 refine Qe fun K hK => ZM Z Z Z (ZF Z (hK _ _ (Qb (kp2 Z Z) ?_)))
 refine Qe fun K hK => QR (cs := [_, _, _, _, _]) Z Z Z Z (QE (X2) Z Z (.inl Z) (Q4 Z Z (QX Z Z Z Z Z Z Z Z (hK _ _ (Qb (kp1 Z) ?_)))))
 refine Qu (ZA (cs := [_, _, _, _, _, _, _]) Z Z Z Z ?_)
 exact rfl
theorem XO {a b c : Int} {p q : List UInt8} : Ok Tryz.prog 85 [.agg [.int .i64 a, .int .i64 b, .int .i64 c, .str p, .str q]] (.bool (QfR a b c)) := by
 refine Ok.ofT ZY Tryz.func85 Qqz (Nat.le_of_ble_eq_true Z) ?_
 show TW _ _ tf85.body _ _
 refine Qe fun K hK => ZM Z Z Z (Qa Z (hK _ _ (Qb (kp1 Z) ?_)))
 refine Qe fun K hK => Qn Z Z (QI Z Z Z (YF Z Z (Qa Z ?_)))
 refine QA (g := 6) Z (fun h1 => ?_) (fun h1 => ?_)
 ·try rw [h1]
  try simp only [qB] at h1
  refine Qi Z (Qn Z Z (Qi Z (QI Z Z Z (Qi Z (YF Z Z (Qk Z Z (Qa Z ?_)))))))
  refine QA (g := 11) Z (fun h2 => ?_) (fun h2 => ?_)
  ·try rw [h2]
   try simp only [qB] at h2
   refine Qi Z (Qn Z Z (Qi Z (QI Z Z Z (Qi Z (YF Z Z (Qk Z Z (Qa Z (hK _ _ (Qb (kp1 Z) ?_)))))))))
   refine Qu (Qp Z ?_)
   (repeat clear hK K); simp_all [QfR]
  ·try rw [h2]
   try simp only [qB] at h2
   refine Qz Z (Qz Z (Qz Z (Qk Z Z (Qa Z (hK _ _ (Qb (kp1 Z) ?_))))))
   refine Qu (Qp Z ?_)
   (repeat clear hK K); simp_all [QfR]
 ·try rw [h1]
  try simp only [qB] at h1
  refine Qz Z (Qz Z (Qz Z (Qk Z Z (Qa Z (Qz Z (Qz Z (Qz Z (Qk Z Z (Qa Z (hK _ _ (Qb (kp1 Z) ?_)))))))))))
  refine Qu (Qp Z ?_)
  (repeat clear hK K); simp_all [QfR]
end Go.Proofs
namespace Go.Proofs
open Go Go.Abs M3 M25
set_option linter.unusedVariables false
set_option linter.unusedSimpArgs false
theorem Qct {a b c : Int} {p q : List UInt8} (hp : p.length <= 1000000) (hq : q.length <= 1000000) {part : Int} : Ok Tryz.prog 107 [.agg [.int .i64 a, .int .i64 b, .int .i64 c, .str p, .str q], .int .i64 part] (dOV (XY a b c p q part)) := by
 refine Ok.ofT ZY Tryz.func107 Qo3 (Nat.le_of_ble_eq_true Z) ?_
 show TW _ _ tf107.body _ _
 refine Qe fun K hK => ZM Z Z Z (ZF Z (Qa Z (hK _ _ (Qb (kp3 Z Z Z) ?_))))
 refine QF ?_ -- 0
 refine Qe fun K hK => QR (cs := [_, _, _, _, _]) Z Z Z Z (QE (Zw (by omega) (by omega)) Z Z (.inr Z) (Ye Z (Qa Z ?_)))
 refine QA (g := 10) Z (fun h1 => ?_) (fun h1 => ?_)
 ·try rw [h1]
  try simp only [qB] at h1
  refine Qz Z (Qz Z (Qk Z Z (Qa Z (Qz Z (Qz Z (Qk Z Z (hK _ _ (Qb (kp4 Z Z Z Z) ?_))))))))
  refine Zy Z (Qe fun K hK => Q4 Z Z (QX Z Z Z Z Z Z Z Z (Qa Z (hK _ _ (Qb (kp2 Z Z) ?_)))))
  refine Qu (Qj (Post.eq (Xw (ds := [.int .i64 _, .int .i64 _, .int .i64 _, .str _, .str _]) (d' := .bool _) (cs := [_, _, _, _, _]) Z Z Z Z Z ⟨rfl, rfl⟩) ?_))
  (repeat clear hK K); first | (simp [XY, dOV, h1]; done) | (simp_all [XY, dOV]; done)
 ·try rw [h1]
  try simp only [qB] at h1
  refine Qi Z (Qa Z (Qi Z (Z7 Z Z (Qk Z Z (Qa Z ?_)))))
  refine QA (g := 14) Z (fun h2 => ?_) (fun h2 => ?_)
  ·try rw [h2]
   try simp only [qB] at h2
   refine Qz Z (Qz Z (Qk Z Z (hK _ _ (Qb (kp4 Z Z Z Z) ?_))))
   refine Zy Z (Qe fun K hK => Q4 Z Z (QX Z Z Z Z Z Z Z Z (Qa Z (hK _ _ (Qb (kp2 Z Z) ?_)))))
   refine Qu (Qj (Post.eq (Xw (ds := [.int .i64 _, .int .i64 _, .int .i64 _, .str _, .str _]) (d' := .bool _) (cs := [_, _, _, _, _]) Z Z Z Z Z ⟨rfl, rfl⟩) ?_))
   (repeat clear hK K); first | (simp [XY, dOV, h1, h2]; done) | (simp_all [XY, dOV]; done)
  ·try rw [h2]
   try simp only [qB] at h2
   refine Qi Z (Qa Z (Qi Z (QbR Z Z (Qk Z Z (hK _ _ (Qb (kp4 Z Z Z Z) ?_))))))
   refine Qx Z (fun h3 => ?_) (fun h3 => ?_)
   ·try rw [h3]
    try simp only [qB] at h3
    refine Qe fun K hK => Q4 Z Z (QX Z Z Z Z Z Z Z Z (Qa Z (hK _ _ (Qb (kp2 Z Z) ?_))))
    refine Qu (Qj (Post.eq (Xw (ds := [.int .i64 _, .int .i64 _, .int .i64 _, .str _, .str _]) (d' := .bool _) (cs := [_, _, _, _, _]) Z Z Z Z Z ⟨rfl, rfl⟩) ?_))
    (repeat clear hK K); first | (simp [XY, dOV, h1, h2, h3]; done) | (simp_all [XY, dOV]; done)
   ·try rw [h3]
    try simp only [qB] at h3
    refine Qv (Qd (kp3 Z Z Z) (Qe fun K hK => ZF Z (hK _ _ (Qb (kp4 Z Z Z Z) ?_))))
    refine QF ?_ -- 1
    refine Qe fun K hK => Qa Z (hK _ _ (Qb (kp4 Z Z Z Z) ?_))
    refine QC (Qe fun K hK => YF Z Z (Qa Z (hK _ _ (Qb (kp5 Z Z Z Z Z) ?_))))
    refine Qx Z (fun h4 => ?_) (fun h4 => ?_)
    ·try rw [h4]
     try simp only [qB] at h4
     refine QO fun K hK => Qn Z Z (QI Z Z Z (Q7 Z Z (Qr (by have := QbZ (by simpa using h1); omega) (by have := QbZ (by simpa using h1); omega)) (Q4 Z Z (QX Z Z Z Z Z Z Z Z (hK _ ?_)))))
     refine Qg (Qd (kp2 Z Z) ?_)
     refine QF ?_ -- 2
     refine Qe fun K hK => QR (cs := [_, _, _, _, _]) Z Z Z Z (QE (Zw (by simp) (by simp)) Z Z (.inr Z) (Ye Z (hK _ _ (Qb (kp3 Z Z Z) ?_))))
     refine Qx Z (fun h5 => ?_) (fun h5 => ?_)
     ·try rw [h5]
      try simp only [qB] at h5
      refine Qe fun K hK => Q4 Z Z (QX Z Z Z Z Z Z Z Z (Qa Z (hK _ _ (Qb (kp2 Z Z) ?_))))
      refine Qu (Qj (Post.eq (Xw (ds := [.int .i64 _, .int .i64 _, .int .i64 _, .str _, .str _]) (d' := .bool _) (cs := [_, _, _, _, _]) Z Z Z Z Z ⟨rfl, rfl⟩) ?_))
      (repeat clear hK K); first | (simp [XY, dOV, h1, h2, h3, h4, h5]; done) | (simp_all [XY, dOV]; done)
     ·try rw [h5]
      try simp only [qB] at h5
      refine Qv (Qd (kp2 Z Z) (Qe fun K hK => QR (cs := [_, _, _, _, _]) Z Z Z Z (QX Z Z Z Z Z Z Z Z (Qa Z (hK _ _ (Qb (kp2 Z Z) ?_))))))
      refine Qu (Post.eq (Xw (ds := [.int .i64 _, .int .i64 _, .int .i64 _, .str _, .str _]) (d' := .bool _) (cs := [_, _, _, _, _]) Z Z Z Z Z ⟨rfl, rfl⟩) ?_)
      (repeat clear hK K); first | (simp [XY, dOV, h1, h2, h3, h4, h5]; done) | (simp_all [XY, dOV]; done)
    ·try rw [h4]
     try simp only [qB] at h4
     refine Qe fun K hK => YF Z Z (Qa Z (hK _ _ (Qb (kp4 Z Z Z Z) ?_)))
     refine Qx Z (fun h6 => ?_) (fun h6 => ?_)
     ·try rw [h6]
      try simp only [qB] at h6
      refine QO fun K hK => Qn Z Z (QI Z Z Z (Qn Z Z (QI Z Z Z (Q7 Z Z (Qr (by have := QbZ (by simpa using h1); omega) (by have := QbZ (by simpa using h1); omega)) (Q4 Z Z (QX Z Z Z Z Z Z Z Z (hK _ ?_)))))))
      refine Qg (Qd (kp2 Z Z) ?_)
      refine QF ?_ -- 2
      refine Qe fun K hK => QR (cs := [_, _, _, _, _]) Z Z Z Z (QE (Zw (by simp) (by simp)) Z Z (.inr Z) (Ye Z (hK _ _ (Qb (kp3 Z Z Z) ?_))))
      refine Qx Z (fun h7 => ?_) (fun h7 => ?_)
      ·try rw [h7]
       try simp only [qB] at h7
       refine Qe fun K hK => Q4 Z Z (QX Z Z Z Z Z Z Z Z (Qa Z (hK _ _ (Qb (kp2 Z Z) ?_))))
       refine Qu (Qj (Post.eq (Xw (ds := [.int .i64 _, .int .i64 _, .int .i64 _, .str _, .str _]) (d' := .bool _) (cs := [_, _, _, _, _]) Z Z Z Z Z ⟨rfl, rfl⟩) ?_))
       (repeat clear hK K); first | (simp [XY, dOV, h1, h2, h3, h4, h6, h7]; done) | (simp_all [XY, dOV]; done)
      ·try rw [h7]
       try simp only [qB] at h7
       refine Qv (Qd (kp2 Z Z) (Qe fun K hK => QR (cs := [_, _, _, _, _]) Z Z Z Z (QX Z Z Z Z Z Z Z Z (Qa Z (hK _ _ (Qb (kp2 Z Z) ?_))))))
       refine Qu (Post.eq (Xw (ds := [.int .i64 _, .int .i64 _, .int .i64 _, .str _, .str _]) (d' := .bool _) (cs := [_, _, _, _, _]) Z Z Z Z Z ⟨rfl, rfl⟩) ?_)
       (repeat clear hK K); first | (simp [XY, dOV, h1, h2, h3, h4, h6, h7]; done) | (simp_all [XY, dOV]; done)
     ·try rw [h6]
      try simp only [qB] at h6
      refine QO fun K hK => Qn Z Z (QI Z Z Z (Qn Z Z (QI Z Z Z (Qn Z Z (QI Z Z Z (Q7 Z Z (Qr (by have := QbZ (by simpa using h1); omega) (by have := QbZ (by simpa using h1); omega)) (Q4 Z Z (QX Z Z Z Z Z Z Z Z (hK _ ?_)))))))))
      refine Qg (Qd (kp2 Z Z) ?_)
      refine QF ?_ -- 2
      refine Qe fun K hK => QR (cs := [_, _, _, _, _]) Z Z Z Z (QE (Zw (by simp) (by simp)) Z Z (.inr Z) (Ye Z (hK _ _ (Qb (kp3 Z Z Z) ?_))))
      refine Qx Z (fun h8 => ?_) (fun h8 => ?_)
      ·try rw [h8]
       try simp only [qB] at h8
       refine Qe fun K hK => Q4 Z Z (QX Z Z Z Z Z Z Z Z (Qa Z (hK _ _ (Qb (kp2 Z Z) ?_))))
       refine Qu (Qj (Post.eq (Xw (ds := [.int .i64 _, .int .i64 _, .int .i64 _, .str _, .str _]) (d' := .bool _) (cs := [_, _, _, _, _]) Z Z Z Z Z ⟨rfl, rfl⟩) ?_))
       (repeat clear hK K); first | (simp [XY, dOV, h1, h2, h3, h4, h6, h8]; done) | (simp_all [XY, dOV]; done)
      ·try rw [h8]
       try simp only [qB] at h8
       refine Qv (Qd (kp2 Z Z) (Qe fun K hK => QR (cs := [_, _, _, _, _]) Z Z Z Z (QX Z Z Z Z Z Z Z Z (Qa Z (hK _ _ (Qb (kp2 Z Z) ?_))))))
       refine Qu (Post.eq (Xw (ds := [.int .i64 _, .int .i64 _, .int .i64 _, .str _, .str _]) (d' := .bool _) (cs := [_, _, _, _, _]) Z Z Z Z Z ⟨rfl, rfl⟩) ?_)
       (repeat clear hK K); first | (simp [XY, dOV, h1, h2, h3, h4, h6, h8]; done) | (simp_all [XY, dOV]; done)
theorem Qcu {a b c : Int} {p q : List UInt8} (hp : p.length <= 1000000) (hq : q.length <= 1000000) : Ok Tryz.prog 87 [.agg [.int .i64 a, .int .i64 b, .int .i64 c, .str p, .str q]] (dOV (QhD a b c p q)) := by
 refine Ok.ofT ZY Tryz.func87 QqB (Nat.le_of_ble_eq_true Z) ?_
 show TW _ _ tf87.body _ _
 refine Qe fun K hK => ZM Z Z Z (ZF Z (Qa Z (hK _ _ (Qb (kp2 Z Z) ?_))))
 refine QF ?_ -- 0
 refine Qe fun K hK => QR (cs := [_, _, _, _, _]) Z Z Z Z (QE (Zw (by omega) (by omega)) Z Z (.inr Z) (Ye Z (hK _ _ (Qb (kp3 Z Z Z) ?_))))
 refine Qx Z (fun h1 => ?_) (fun h1 => ?_)
 ·try rw [h1]
  try simp only [qB] at h1
  refine Qe fun K hK => Q4 Z Z (QX Z Z Z Z Z Z Z Z (Qa Z (hK _ _ (Qb (kp2 Z Z) ?_))))
  refine Qu (Qj (Post.eq (Xw (ds := [.int .i64 _, .int .i64 _, .int .i64 _, .str _, .str _]) (d' := .bool _) (cs := [_, _, _, _, _]) Z Z Z Z Z ⟨rfl, rfl⟩) ?_))
  simp [QhD, dOV, h1]
 ·try rw [h1]
  try simp only [qB] at h1
  refine Qv (Qd (kp2 Z Z) ?_)
  refine QF ?_ -- 1
  refine Qe fun K hK => Qn Z Z (QI Z Z Z (Qg1 Z Z (hK _ _ (Qb (kp3 Z Z Z) ?_))))
  refine Qx Z (fun h2 => ?_) (fun h2 => ?_)
  ·try rw [h2]
   try simp only [qB] at h2
   refine Qe fun K hK => Qn Z Z (QI Z Z Z (Qn Z Z (QI Z Z Z (Qn Z Z (QI Z Z Z (Q4 Z Z (QX Z Z Z Z Z Z Z Z (Qa Z (hK _ _ (Qb (kp2 Z Z) ?_))))))))))
   refine Qu (Qj (Post.eq (Xw (ds := [.int .i64 _, .int .i64 _, .int .i64 _, .str _, .str _]) (d' := .bool _) (cs := [_, _, _, _, _]) Z Z Z Z Z ⟨rfl, rfl⟩) ?_))
   simp [QhD, dOV, h1, h2]
  ·try rw [h2]
   try simp only [qB] at h2
   refine Qv (Qd (kp2 Z Z) ?_)
   refine QF ?_ -- 2
   refine Qe fun K hK => Qa Z (hK _ _ (Qb (kp3 Z Z Z) ?_))
   refine QC ?_
   refine ZB (ι := Nat) (fun m => ⟨[(1, .ref 1 0 0), (2, .ref 2 0 0), (4, .int .i64 ((m : Int) - 1))], [(1, ⟨[[.int .i64 a, .int .i64 b, .int .i64 c, .str p, .str q]], 5, 58, true⟩), (2, ⟨[[.int .i64 0, .int .i64 0, .int .i64 0, .str [], .str []]], 5, 58, true⟩)]⟩) (fun m => m <= 3 /\ Xz a b c p q 3 = Xz a b c p q m) (fun m => m) 3 ?_ ?_ ?_
   ·exact Za (l := [1, 2, 4]) (lH := [1, 2]) (kp3 rfl rfl rfl) (Qf rfl (Qf rfl Qq)) rfl rfl rfl
   ·exact ⟨by omega, rfl⟩
   intro m hI
   obtain ⟨hI1, hI2⟩ := hI
   try dsimp only
   refine QF ?_ -- 3
   refine Qe fun K hK => Qa Z (QiT Z Z (hK _ _ (Qb (kp4 Z Z Z Z) ?_)))
   refine Qx Z (fun h3 => ?_) (fun h3 => ?_)
   ·try rw [h3]
    try simp only [qB] at h3
    rcases Nat.eq_zero_or_pos m with hm | hm <;> first | omega | skip
    refine Qv (Qd (kp3 Z Z Z) ?_)
    refine QF ?_ -- 4
    refine QC (Qe fun K hK => QR (cs := [_, _, _, _, _]) Z Z Z Z (Qa Z (QE (Qct (by omega) (by omega)) Z Z (.inl Z) (Qa Z (Zj Z Z (Zj Z Z (ZF Z (QX Z Z Z Z Z Z Z Z (Qa Z (hK _ _ (Qb (kp5 Z Z Z Z Z) ?_)))))))))))
    refine Qe fun K hK => Qa Z (hK _ _ (Qb (kp5 Z Z Z Z Z) ?_))
    refine Qx Z (fun h4 => ?_) (fun h4 => ?_)
    ·try rw [h4]
     try simp only [qB] at h4
     refine Qe fun K hK => QR (cs := [_, _, _, _, _]) Z Z Z Z (QX Z Z Z Z Z Z Z Z (Qa Z (hK _ _ (Qb (kp2 Z Z) ?_))))
     refine Qu (Qs (Qj (Q3 (Qs (Qj (Post.eq (Xw (ds := [.int .i64 _, .int .i64 _, .int .i64 _, .str _, .str _]) (d' := .bool _) (cs := [_, _, _, _, _]) Z Z Z Z Z ⟨rfl, rfl⟩) ?_))))))
     subst h2
     simp [QhD, dOV, h1, hI2, Qg9 hm h4, h4]
    ·try rw [h4]
     try simp only [qB] at h4
     refine Qv (Qg (Qd (kp3 Z Z Z) (QO fun K hK => Qa Z (Qbn Z Z (by first | exact Qr (by omega) (by omega) | rfl) (Qa Z (hK _ ?_))))))
     refine Qh (m - 1) ?_ ?_ ?_
     ·refine Za (l := [1, 2, 4]) (lH := [1, 2]) (kp3 Z Z Z) (Qf Z (Qf Z Qq)) ?_ Z rfl; simp only [List.cons.injEq, Prod.mk.injEq, D.int.injEq, and_true, true_and]; omega
     ·exact ⟨by omega, by rw [hI2]; exact Qib hm h4⟩
     ·show m - 1 < m; omega
   ·try rw [h3]
    try simp only [qB] at h3
    rcases Nat.eq_zero_or_pos m with hm | hm <;> first | omega | skip
    refine Zf (QH (Qt (QB (Qd (kp1 Z) (Qe fun K hK => Q4 Z Z (QX Z Z Z Z Z Z Z Z (Qa Z (hK _ _ (Qb (kp2 Z Z) ?_)))))))))
    refine Qu (Post.eq (Xw (ds := [.int .i64 _, .int .i64 _, .int .i64 _, .str _, .str _]) (d' := .bool _) (cs := [_, _, _, _, _]) Z Z Z Z Z ⟨rfl, rfl⟩) ?_)
    subst h2
    subst hm
    have hb : Xz a b c [] q 3 = none := hI2
    simp [QhD, dOV, h1, hb]
end Go.Proofs
namespace Go.Proofs
open Go Go.Abs M3 M25
set_option linter.unusedVariables false
set_option linter.unusedSimpArgs false
theorem XP {e a b c : Int} {p q : List UInt8} {f : Bool} : Ok Tryz.prog 118 [.agg [.int .i64 e, .int .i64 a, .int .i64 b, .int .i64 c, .str p, .str q, .bool f]] (.bool (QfS e a b c p q f)) := by
 refine Ok.ofT ZY Tryz.func118 Qpc (Nat.le_of_ble_eq_true Z) ?_
 show TW _ _ tf118.body _ _
 refine Qe fun K hK => ZM Z Z Z (Qa Z (hK _ _ (Qb (kp1 Z) ?_)))
 refine Qe fun K hK => Qn Z Z (QI Z Z Z (Xo Z Z (Qa Z ?_)))
 refine QA (g := 6) Z (fun h1 => ?_) (fun h1 => ?_)
 ·try rw [h1]
  try simp only [qB] at h1
  refine Qz Z (Qz Z (Qz Z (Qz Z (QZ Z (QZ Z (QZ Z (QZ Z (Qz Z (Qz Z (QZ Z (QZ Z ?_)))))))))))
  refine QZ Z (QZ Z (Qz Z (Qk Z Z (Qa Z (hK _ _ (Qb (kp1 Z) ?_))))))
  refine Qu (Qp Z ?_)
  (repeat clear hK K); simp_all [QfS]
 ·try rw [h1]
  try simp only [qB] at h1
  refine Qi Z (Qn Z Z (Qi Z (QI Z Z Z (Qi Z (Ye Z (Qi Z (Qa Z ?_)))))))
  refine QA (g := 10) Z (fun h2 => ?_) (fun h2 => ?_)
  ·try rw [h2]
   try simp only [qB] at h2
   refine Qi Z (Qn Z Z (Qi Z (Qn Z Z (Qi Z (QI Z Z Z (Qi Z (Qbd Z Z (Qi Z (Qk Z Z (Qi Z (Qa Z ?_)))))))))))
   refine QA (g := 16) Z (fun h3 => ?_) (fun h3 => ?_)
   ·try rw [h3]
    try simp only [qB] at h3
    refine Qi Z (Qn Z Z (Qi Z (QR (cs := [_, _, _, _, _]) Z Z Z Z (Qi Z (QE (XO) Z Z (.inr Z) (Qi Z (Ye Z (Qi Z (Qk Z Z (Qk Z Z (Qa Z ?_)))))))))))
    refine hK _ _ (Qb (kp1 Z) ?_)
    refine Qu (Qp Z ?_)
    (repeat clear hK K); simp_all [QfS]
   ·try rw [h3]
    try simp only [qB] at h3
    refine Qz Z (Qz Z (Qz Z (Qz Z (Qi Z (Qk Z Z (Qk Z Z (Qa Z (hK _ _ (Qb (kp1 Z) ?_)))))))))
    refine Qu (Qp Z ?_)
    (repeat clear hK K); simp_all [QfS]
  ·try rw [h2]
   try simp only [qB] at h2
   refine Qz Z (Qz Z (Qz Z (Qz Z (Qi Z (Qk Z Z (Qi Z (Qa Z (Qz Z (Qz Z (Qz Z (Qz Z ?_)))))))))))
   refine Qi Z (Qk Z Z (Qk Z Z (Qa Z (hK _ _ (Qb (kp1 Z) ?_)))))
   refine Qu (Qp Z ?_)
   (repeat clear hK K); simp_all [QfS]
theorem Qcd {a b c : Int} {p q : List UInt8} : Ok Tryz.prog 64 [.agg [.int .i64 a, .int .i64 b, .int .i64 c, .str p, .str q]] (.agg (dCu (QeZ a b c))) := by
 refine Ok.ofT ZY Tryz.func64 Qqg (Nat.le_of_ble_eq_true Z) ?_
 show TW _ _ tf64.body _ _
 refine Qe fun K hK => ZM Z Z Z (ZF Z (hK _ _ (Qb (kp2 Z Z) ?_)))
 refine QF ?_ -- 0
 refine Qe fun K hK => QR (cs := [_, _, _, _, _]) Z Z Z Z (QE (XO) Z Z (.inr Z) (hK _ _ (Qb (kp3 Z Z Z) ?_)))
 refine Qx Z (fun h1 => ?_) (fun h1 => ?_)
 ·try rw [h1]
  try simp only [qB] at h1
  refine Qe fun K hK => QE (YV) Z Z (.inl Z) (QX Z Z Z Z Z Z Z Z (hK _ _ (Qb (kp1 Z) ?_)))
  refine Qu (Qj (Post.eq (ZA (ds := [.int .i64 _, .int .i64 _, .int .i64 _, .int .i64 _, .str _, .str _, .bool _]) (cs := [_, _, _, _, _, _, _]) Z Z Z Z Z) ?_))
  simp [QeZ, dCu, Qck, h1]
 ·try rw [h1]
  try simp only [qB] at h1
  refine Qv (Qd (kp2 Z Z) (Qe fun K hK => Qn Z Z (QI Z Z Z (Qn Z Z (QI Z Z Z (Qn Z Z (QI Z Z Z (Q4 Z Z (QE (YH) Z Z (.inl Z) (QX Z Z Z Z Z Z Z Z ?_))))))))))
  refine hK _ _ (Qb (kp1 Z) ?_)
  refine Qu (Post.eq (ZA (ds := [.int .i64 _, .int .i64 _, .int .i64 _, .int .i64 _, .str _, .str _, .bool _]) (cs := [_, _, _, _, _, _, _]) Z Z Z Z Z) ?_)
  simp [QeZ, dCu, Qck, h1]
theorem Qbt {a b c : Int} {p q : List UInt8} : Ok Tryz.prog 65 [.agg [.int .i64 a, .int .i64 b, .int .i64 c, .str p, .str q]] (.agg (dCu (Qc8 a b c))) := by
 refine Ok.ofT ZY Tryz.func65 Qqh (Nat.le_of_ble_eq_true Z) ?_
 show TW _ _ tf65.body _ _
 refine Qe fun K hK => ZM Z Z Z (ZF Z (hK _ _ (Qb (kp2 Z Z) ?_)))
 refine Qe fun K hK => Qn Z Z (QI Z Z Z (Qn Z Z (QI Z Z Z (Qn Z Z (QI Z Z Z (Q4 Z Z (QE (Qcu (by simp) (by simp)) Z Z (.inl Z) (Qa Z (Zj Z Z (Zj Z Z ?_))))))))))
 refine ZF Z (QX Z Z Z Z Z Z Z Z (Qa Z (hK _ _ (Qb (kp3 Z Z Z) ?_))))
 refine QF ?_ -- 0
 refine Qe fun K hK => Qa Z (Ye Z (hK _ _ (Qb (kp3 Z Z Z) ?_)))
 refine Qx Z (fun h1 => ?_) (fun h1 => ?_)
 ·try rw [h1]
  try simp only [qB] at h1
  refine Qe fun K hK => QE (Y7) Z Z (.inl Z) (QX Z Z Z Z Z Z Z Z (hK _ _ (Qb (kp1 Z) ?_)))
  refine Qu (Qj (Post.eq (ZA (ds := [.int .i64 _, .int .i64 _, .int .i64 _, .int .i64 _, .str _, .str _, .bool _]) (cs := [_, _, _, _, _, _, _]) Z Z Z Z Z) ?_))
  cases hn : QhD a b c [] [] <;> simp [Qc8, dCu, Qfq, hn] at *
 ·try rw [h1]
  try simp only [qB] at h1
  refine Qv (Qd (kp2 Z Z) (Qe fun K hK => QR (cs := [_, _, _, _, _]) Z Z Z Z (QE (YH) Z Z (.inl Z) (QX Z Z Z Z Z Z Z Z (hK _ _ (Qb (kp1 Z) ?_))))))
  refine Qu (Post.eq (ZA (ds := [.int .i64 _, .int .i64 _, .int .i64 _, .int .i64 _, .str _, .str _, .bool _]) (cs := [_, _, _, _, _, _, _]) Z Z Z Z Z) ?_)
  cases hn : QhD a b c [] [] <;> simp [Qc8, dCu, Qfq, hn] at *
theorem XQ  : Ok Tryz.prog 110 [] (ZP [(Qck, Qfq)]) := by
 refine Ok.ofT ZY Tryz.func110 Qo6 (Nat.le_of_ble_eq_true Z) ?_
 show TW _ _ tf110.body _ _
 refine Qe fun K hK => Qa Z (hK _ _ (Qb (QT) ?_))
 refine Qe fun K hK => QE (YV) Z Z (.inl Z) (QE (Y7) Z Z (.inl Z) (Q4 Z Z (QM Z Z (Qa Z (hK _ _ (Qb (kp1 Z) ?_))))))
 refine Qu (ZR Z ?_)
 rfl
theorem Z3  : Ok Tryz.prog 61 [] (QgT ([], [])) := by
 refine Ok.ofT ZY Tryz.func61 Qqd (Nat.le_of_ble_eq_true Z) ?_
 show TW _ _ tf61.body _ _
 refine Qe fun K hK => ZF Z (hK _ _ (Qb (kp1 Z) ?_))
 refine Qe fun K hK => Q4 Z Z (QX Z Z Z Z Z Z Z Z (hK _ _ (Qb (kp1 Z) ?_)))
 refine Qu (Post.eq (ZA (ds := [.sl _, .sl _]) (cs := [_, _]) Z Z Z Z Z) ?_)
 rfl
theorem QcR  : Ok Tryz.prog 90 [] (QgT ([(Qck, Qfq)], [(Qck, Qfq)])) := by
 refine Ok.ofT ZY Tryz.func90 QqE (Nat.le_of_ble_eq_true Z) ?_
 show TW _ _ tf90.body _ _
 refine Qe fun K hK => ZF Z (hK _ _ (Qb (kp1 Z) ?_))
 refine Qe fun K hK => QE (XQ) Z Z (.inl Z) (QE (XQ) Z Z (.inl Z) (Q4 Z Z (QX Z Z Z Z Z Z Z Z (hK _ _ (Qb (kp1 Z) ?_)))))
 refine Qu (Post.eq (ZA (ds := [.sl _, .sl _]) (cs := [_, _]) Z Z Z Z Z) ?_)
 rfl
theorem XN {a b c : Int} {p q : List UInt8} (hp : p.length <= 1000000) (hq : q.length <= 1000000) : Ok Tryz.prog 33 [.agg [.int .i64 a, .int .i64 b, .int .i64 c, .str p, .str q]] (QgT (Xa a b c p q)) := by
 refine Ok.ofT ZY Tryz.func33 QpR (Nat.le_of_ble_eq_true Z) ?_
 show TW _ _ tf33.body _ _
 refine Qe fun K hK => ZM Z Z Z (ZF Z (hK _ _ (Qb (kp2 Z Z) ?_)))
 refine QF ?_ -- 0
 refine Qe fun K hK => QR (cs := [_, _, _, _, _]) Z Z Z Z (QE (Zw (by omega) (by omega)) Z Z (.inr Z) (Ye Z (hK _ _ (Qb (kp3 Z Z Z) ?_))))
 refine Qx Z (fun h1 => ?_) (fun h1 => ?_)
 ·try rw [h1]
  try simp only [qB] at h1
  refine Qe fun K hK => QE (Z3) Z Z (.inl Z) (QX Z Z Z Z Z Z Z Z (hK _ _ (Qb (kp1 Z) ?_)))
  refine Qu (Qj (Post.eq (ZA (ds := [.sl _, .sl _]) (cs := [_, _]) Z Z Z Z Z) ?_))
  simp [Xa, QgT, ZP, QdY, dCu, h1]
 ·try rw [h1]
  try simp only [qB] at h1
  refine Qv (Qd (kp2 Z Z) ?_)
  refine QF ?_ -- 1
  refine Qe fun K hK => Qn Z Z (QI Z Z Z (Qg1 Z Z (hK _ _ (Qb (kp3 Z Z Z) ?_))))
  refine Qx Z (fun h2 => ?_) (fun h2 => ?_)
  ·try rw [h2]
   try simp only [qB] at h2
   refine Qe fun K hK => Q2 (ds0 := [6, 3, 2, 1, 0]) (cs := [_, _, _, _, _]) Z Z Z Z Z Z (Zi (ds0 := [3, 2, 1, 0]) (YH) Z Z (.inl Z) Z Z (Q2 (ds0 := [4, 3, 2, 1, 0]) (cs := [_, _, _, _, _]) Z Z Z Z Z Z (Zi (ds0 := [3, 2, 1, 0]) (Qbs) Z Z (.inl Z) Z Z (Q4 Z Z (QM Z Z (Q4 Z Z (Xc (ds0 := []) Z Z Z Z Z Z Z Z Z Z (hK _ _ (Qb (kp1 Z) ?_)))))))))
   refine Qu (Qj (Post.eq (ZA (ds := [.sl _, .sl _]) (cs := [_, _]) Z Z Z Z Z) ?_))
   simp [Xa, QgT, ZP, QdY, dCu, h1, h2]
  ·try rw [h2]
   try simp only [qB] at h2
   refine Qv (Qd (kp2 Z Z) (Qe fun K hK => Q2 (ds0 := [6, 3, 2, 1, 0]) (cs := [_, _, _, _, _]) Z Z Z Z Z Z (Zi (ds0 := [3, 2, 1, 0]) (Qcd) Z Z (.inl Z) Z Z (Q2 (ds0 := [4, 3, 2, 1, 0]) (cs := [_, _, _, _, _]) Z Z Z Z Z Z (Zi (ds0 := [3, 2, 1, 0]) (Qbt) Z Z (.inl Z) Z Z (Q4 Z Z (QM Z Z (Q4 Z Z (Xc (ds0 := []) Z Z Z Z Z Z Z Z Z Z (hK _ _ (Qb (kp1 Z) ?_)))))))))))
   refine Qu (Post.eq (ZA (ds := [.sl _, .sl _]) (cs := [_, _]) Z Z Z Z Z) ?_)
   subst h2
   simp [Xa, QgT, ZP, QdY, dCu, h1]
end Go.Proofs
namespace Go.Proofs
open Go Go.Abs M3 M25
set_option linter.unusedVariables false
set_option linter.unusedSimpArgs false
theorem Z8 {l : List (Cu × Cu)} (hl : Sm l) : Ok Tryz.prog 117 [ZP l] (.bool (Qft l)) := by
 refine Ok.ofT ZY Tryz.func117 Qpb (Nat.le_of_ble_eq_true Z) ?_
 show TW _ _ tf117.body _ _
 have hn := hl.1
 refine Qe fun K hK => Qa Z (hK _ _ (Qb (kp1 Z) ?_))
 refine QF ?_ -- 0
 refine Qe fun K hK => Qa Z (hK _ _ (Qb (kp2 Z Z) ?_))
 refine QC ?_
 refine ZB (ι := Nat) (fun i => ⟨[(0, ZP l), (3, .int .i64 i)], []⟩) (fun i => i <= l.length /\ (List.range i).all (QnF l) = true) (fun i => l.length - i) 0 ?_ ?_ ?_
 ·exact QP (kp2 rfl rfl)
 ·exact ⟨Nat.zero_le _, rfl⟩
 intro i hI
 try dsimp only
 refine QF ?_ -- 1
 refine Qe fun K hK => Qa Z (Qa Z (QQ Z Z (Z7 Z Z (hK _ _ (Qb (kp3 Z Z Z) ?_)))))
 refine Qx Z (fun h1 => ?_) (fun h1 => ?_)
 ·try rw [h1]
  try simp only [qA] at h1
  refine Qv (Qd (kp2 Z Z) ?_)
  refine QF ?_ -- 2
  refine QC (Qe fun K hK => Qa Z (Qa Z (QK Z Z Z (by omega) (Q1 (by omega)) Z (Q2 (ds0 := [20, 19, 18, 17, 16, 15, 14, 13, 12, 11, 10, 9, 8, 7, 6, 5, 4, 3, 2, 1, 0]) (cs := [_, _, _, _, _, _, _, _, _, _, _, _, _, _]) Z Z Z Z Z Z (Zi (ds0 := [19, 18, 17, 16, 15, 14, 13, 12, 11, 10, 9, 8, 7, 6, 5, 4, 3, 2, 1, 0]) (Xs (hl.at (i := i) (by omega)).1.1 (hl.at (i := i) (by omega)).1.2 (hl.at (i := i) (by omega)).2.1 (hl.at (i := i) (by omega)).2.2) Z Z (.inr Z) Z Z (Ye Z (Qa Z ?_)))))))
  refine QA (g := 16) Z (fun h2 => ?_) (fun h2 => ?_)
  ·try rw [h2]
   try simp only [qA] at h2
   refine Qz Z (Qz Z (Qz Z (QZ Z (QZ Z (QZ Z (QZ Z (QZ Z (QZ Z (QZ Z (QZ Z (QZ Z ?_)))))))))))
   refine QZ Z (QZ Z (QZ Z (QZ Z (Qz Z (Qk Z Z (hK _ _ (Qb (kp3 Z Z Z) ?_)))))))
   refine Zy Z (Qe fun K hK => Qa Z (hK _ _ (Qb (kp1 Z) ?_)))
   refine Qu (Qs (Qj (Q3 (Qs (Qj (Qp Z ?_))))))
   first
    | exact (QgC hI.2 (by omega)).symm
    | exact (Qa5 (i := i) (by omega) (QfU (by omega) (.inl h2))).symm
    | (simp only [Qdg] at *; exact (Qa5 (i := i) (by omega) (QfU (by omega) (.inr ⟨by omega, h4⟩))).symm)
  ·try rw [h2]
   try simp only [qA] at h2
   refine Qi Z (Qa Z (Qi Z (QbR Z Z (Qi Z (Qa Z ?_)))))
   refine QA (g := 19) Z (fun h3 => ?_) (fun h3 => ?_)
   ·try rw [h3]
    try simp only [qA] at h3
    refine Qi Z (Qa Z (Qi Z (Qa Z (Qi Z (Qbn Z Z (by first | exact Qr (by omega) (by omega) | rfl) (Qi Z (QK Z Z Z (by omega) (Y1 (by omega) (by omega)) Z (Qi Z (Yz Z Z (Qi Z (Q2 (ds0 := [3, 2, 1, 0]) (cs := [_, _, _, _, _, _, _]) Z Z Z Z Z Z ?_)))))))))))
    refine Qi Z (Qa Z (Qi Z (Qa Z (Qi Z (QK Z Z Z (by omega) (Q1 (by omega)) Z (Qi Z (Yz Z Z (Qi Z (Q2 (ds0 := [3, 2, 1, 0]) (cs := [_, _, _, _, _, _, _]) Z Z Z Z Z Z (Qi Z (Zi (ds0 := [2, 1, 0]) (Zu (hl.at (i := ((i : Int) - 1).toNat) (by omega)).2.1 (hl.at (i := ((i : Int) - 1).toNat) (by omega)).2.2 (hl.at (i := i) (by omega)).1.1 (hl.at (i := i) (by omega)).1.2) Z Z (.inr Z) Z Z ?_)))))))))))
    refine Qi Z (QiT Z Z (Qi Z (Qk Z Z (Qk Z Z (hK _ _ (Qb (kp3 Z Z Z) ?_))))))
    refine Qx Z (fun h4 => ?_) (fun h4 => ?_)
    ·try rw [h4]
     try simp only [qA] at h4
     refine Qe fun K hK => Qa Z (hK _ _ (Qb (kp1 Z) ?_))
     refine Qu (Qs (Qj (Q3 (Qs (Qj (Qp Z ?_))))))
     first
      | exact (QgC hI.2 (by omega)).symm
      | exact (Qa5 (i := i) (by omega) (QfU (by omega) (.inl h2))).symm
      | (simp only [Qdg] at *; exact (Qa5 (i := i) (by omega) (QfU (by omega) (.inr ⟨by omega, h4⟩))).symm)
    ·try rw [h4]
     try simp only [qA] at h4
     refine Qv (Qg (Qd (kp2 Z Z) (QO fun K hK => Qa Z (Q7 Z Z (by first | exact Qr (by omega) (by omega) | rfl) (Qa Z (hK _ ?_))))))
     refine Qh (i + 1) ?_ ?_ ?_
     ·exact QP (kp2 rfl rfl)
     ·exact ⟨by omega, QgD hI.2 (Qmy (by omega) h2 (by first | exact .inl (by omega) | (simp only [Qdg] at *; exact .inr (Int.not_le.1 h4))))⟩
     ·first | omega | (simp only; omega) | (dsimp only; omega)
   ·try rw [h3]
    try simp only [qA] at h3
    refine Qz Z (Qz Z (Qz Z (Qz Z (Qz Z (Qz Z (Qz Z (Qz Z (Qz Z (Qz Z (Qz Z (Qz Z ?_)))))))))))
    refine Qz Z (Qi Z (Qk Z Z (Qk Z Z (hK _ _ (Qb (kp3 Z Z Z) ?_)))))
    refine Zp Z (Qv (Qg (Qd (kp2 Z Z) (QO fun K hK => Qa Z (Q7 Z Z (by first | exact Qr (by omega) (by omega) | rfl) (Qa Z (hK _ ?_)))))))
    refine Qh (i + 1) ?_ ?_ ?_
    ·exact QP (kp2 rfl rfl)
    ·exact ⟨by omega, QgD hI.2 (Qmy (by omega) h2 (by first | exact .inl (by omega) | (simp only [Qdg] at *; exact .inr (Int.not_le.1 h4))))⟩
    ·first | omega | (simp only; omega) | (dsimp only; omega)
 ·try rw [h1]
  try simp only [qA] at h1
  refine Zf (QH (Qt (QB (Qd (QT) (Qe fun K hK => Qa Z (hK _ _ (Qb (kp1 Z) ?_)))))))
  refine Qu (Qp Z ?_)
  first
   | exact (QgC hI.2 (by omega)).symm
   | exact (Qa5 (i := i) (by omega) (QfU (by omega) (.inl h2))).symm
   | (simp only [Qdg] at *; exact (Qa5 (i := i) (by omega) (QfU (by omega) (.inr ⟨by omega, h4⟩))).symm)
theorem QaG {l : List (Cu × Cu)} (hl : Sm l) {x y : Cu} (hx : Cu.sm x) (hy : Cu.sm y) : Ok Tryz.prog 121 [ZP l, .agg (dCu x), .agg (dCu y)] (.bool (mIn l x y)) := by
 refine Ok.ofT ZY Tryz.func121 Qpf (Nat.le_of_ble_eq_true Z) ?_
 show TW _ _ tf121.body _ _
 have hn := hl.1
 refine Qe fun K hK => ZM Z Z Z (ZM Z Z Z (Qa Z (hK _ _ (Qb (kp3 Z Z Z) ?_))))
 refine QF ?_ -- 0
 refine Qe fun K hK => Qa Z (hK _ _ (Qb (kp4 Z Z Z Z) ?_))
 refine QC ?_
 refine ZB (ι := Nat) (fun i => ⟨[(0, ZP l), (4, .ref 4 0 0), (5, .ref 5 0 0), (7, .int .i64 i)], [(4, ⟨[dCu x], 7, 102, true⟩), (5, ⟨[dCu y], 7, 102, true⟩)]⟩) (fun i => i <= l.length /\ (l.take i).any (inC x y) = false) (fun i => l.length - i) 0 ?_ ?_ ?_
 ·exact Za (l := [0, 4, 5, 7]) (lH := [4, 5]) (kp4 rfl rfl rfl rfl) (Qf rfl (Qf rfl Qq)) rfl rfl rfl
 ·exact ⟨Nat.zero_le _, by simp⟩
 intro i hI
 try dsimp only
 refine QF ?_ -- 1
 refine Qe fun K hK => Qa Z (Qa Z (QQ Z Z (Z7 Z Z (hK _ _ (Qb (kp5 Z Z Z Z Z) ?_)))))
 refine Qx Z (fun h1 => ?_) (fun h1 => ?_)
 ·try rw [h1]
  try simp only [qA] at h1
  refine Qv (Qd (kp4 Z Z Z Z) ?_)
  refine QF ?_ -- 2
  refine QC (Qe fun K hK => Qa Z (Qa Z (QK Z Z Z (by omega) (Q1 (by omega)) Z (Yz Z Z (Q2 (ds0 := [11, 10, 9, 8, 7, 6, 5, 4, 3, 2, 1, 0]) (cs := [_, _, _, _, _, _, _]) Z Z Z Z Z Z (Q2 (ds0 := [11, 10, 9, 8, 7, 6, 5, 4, 3, 2, 1, 0]) (cs := [_, _, _, _, _, _, _]) Z Z Z Z Z Z (Zi (ds0 := [10, 9, 8, 7, 6, 5, 4, 3, 2, 1, 0]) (Zu (hl.at (i := i) (by omega)).1.1 (hl.at (i := i) (by omega)).1.2 hx.1 hx.2) Z Z (.inr Z) Z Z (Qj0 Z Z (Qa Z ?_)))))))))
  refine QA (g := 22) Z (fun h2 => ?_) (fun h2 => ?_)
  ·try rw [h2]
   try simp only [qA] at h2
   refine Qi Z (Q2 (ds0 := [2, 1, 0]) (cs := [_, _, _, _, _, _, _]) Z Z Z Z Z Z (Qi Z (Qa Z (Qi Z (Qa Z (Qi Z (QK Z Z Z (by omega) (Q1 (by omega)) Z (Qi Z (Yz Z Z (Qi Z (Q2 (ds0 := [2, 1, 0]) (cs := [_, _, _, _, _, _, _]) Z Z Z Z Z Z ?_)))))))))))
   refine Qi Z (Zi (ds0 := [1, 0]) (Zu hy.1 hy.2 (hl.at (i := i) (by omega)).2.1 (hl.at (i := i) (by omega)).2.2) Z Z (.inr Z) Z Z (Qi Z (Qj0 Z Z (Qk Z Z (hK _ _ (Qb (kp5 Z Z Z Z Z) ?_))))))
   refine Qx Z (fun h3 => ?_) (fun h3 => ?_)
   ·try rw [h3]
    try simp only [qA] at h3
    refine Qe fun K hK => Qa Z (hK _ _ (Qb (kp1 Z) ?_))
    refine Qu (Qs (Qj (Q3 (Qs (Qj (Qp Z ?_))))))
    first
     | exact (Qmk (i := i) (by omega) hI.2).symm
     | exact (Qh8 (i := i) (by omega) (Qn9 h2 h3)).symm
   ·try rw [h3]
    try simp only [qA] at h3
    refine Qv (Qg (Qd (kp4 Z Z Z Z) (QO fun K hK => Qa Z (Q7 Z Z (by first | exact Qr (by omega) (by omega) | rfl) (Qa Z (hK _ ?_))))))
    refine Qh (i + 1) ?_ ?_ ?_
    ·exact Za (l := [0, 4, 5, 7]) (lH := [4, 5]) (kp4 rfl rfl rfl rfl) (Qf rfl (Qf rfl Qq)) rfl rfl rfl
    ·exact ⟨by omega, QfB (by omega) hI.2 (Qn8 (by first | exact .inl h2 | exact .inr h3))⟩
    ·first | omega | (simp only; omega) | (dsimp only; omega)
  ·try rw [h2]
   try simp only [qA] at h2
   refine Qz Z (Qz Z (Qz Z (Qz Z (Qz Z (Qz Z (Qz Z (Qz Z (Qk Z Z (hK _ _ (Qb (kp5 Z Z Z Z Z) ?_))))))))))
   refine Zp Z (Qv (Qg (Qd (kp4 Z Z Z Z) (QO fun K hK => Qa Z (Q7 Z Z (by first | exact Qr (by omega) (by omega) | rfl) (Qa Z (hK _ ?_)))))))
   refine Qh (i + 1) ?_ ?_ ?_
   ·exact Za (l := [0, 4, 5, 7]) (lH := [4, 5]) (kp4 rfl rfl rfl rfl) (Qf rfl (Qf rfl Qq)) rfl rfl rfl
   ·exact ⟨by omega, QfB (by omega) hI.2 (Qn8 (by first | exact .inl h2 | exact .inr h3))⟩
   ·first | omega | (simp only; omega) | (dsimp only; omega)
 ·try rw [h1]
  try simp only [qA] at h1
  refine Zf (QH (Qt (QB (Qd (QT) (Qe fun K hK => Qa Z (hK _ _ (Qb (kp1 Z) ?_)))))))
  refine Qu (Qp Z ?_)
  first
   | exact (Qmk (i := i) (by omega) hI.2).symm
   | exact (Qh8 (i := i) (by omega) (Qn9 h2 h3)).symm
end Go.Proofs
namespace Go.Proofs
open Go Go.Abs M3 M25
set_option linter.unusedVariables false
set_option linter.unusedSimpArgs false
theorem Xf {s : List (Cu × Cu) × List (Cu × Cu)} (h1s : Sm s.1) (h2s : Sm s.2) : Ok Tryz.prog 108 [QgT s] (.bool (Qfu s)) := by
 refine Ok.ofT ZY Tryz.func108 Qo4 (Nat.le_of_ble_eq_true Z) ?_
 show TW _ _ tf108.body _ _
 have hn := h1s.1
 refine Qe fun K hK => ZM Z Z Z (Qa Z (hK _ _ (Qb (kp1 Z) ?_)))
 refine QF ?_ -- 0
 refine Qe fun K hK => Qn Z Z (QI Z Z Z (QE (Z8 h1s) Z Z (.inr Z) (Ye Z (Qa Z ?_))))
 refine QA (g := 8) Z (fun h1 => ?_) (fun h1 => ?_)
 ·try rw [h1]
  try simp only [qA] at h1
  refine Qz Z (Qz Z (Qz Z (Qz Z (Qk Z Z (hK _ _ (Qb (kp2 Z Z) ?_))))))
  refine Zy Z (Qe fun K hK => Qa Z (hK _ _ (Qb (kp1 Z) ?_)))
  refine Qu (Qj (Qp Z ?_))
  first
   | exact (Qdd (i := i) h1 h2 (by omega) hI.2).symm
   | exact (Qaz (i := i) (by omega) (.inl h4)).symm
   | exact (Qaz (i := i) (by omega) (.inr h5)).symm
   | exact (QaA (.inl h1)).symm
   | exact (QaA (.inr h2)).symm
 ·try rw [h1]
  try simp only [qA] at h1
  refine Qi Z (Qn Z Z (Qi Z (QI Z Z Z (Qi Z (QE (Z8 h2s) Z Z (.inr Z) (Qi Z (Ye Z (Qk Z Z (hK _ _ (Qb (kp2 Z Z) ?_))))))))))
  refine Qx Z (fun h2 => ?_) (fun h2 => ?_)
  ·try rw [h2]
   try simp only [qA] at h2
   refine Qe fun K hK => Qa Z (hK _ _ (Qb (kp1 Z) ?_))
   refine Qu (Qj (Qp Z ?_))
   first
    | exact (Qdd (i := i) h1 h2 (by omega) hI.2).symm
    | exact (Qaz (i := i) (by omega) (.inl h4)).symm
    | exact (Qaz (i := i) (by omega) (.inr h5)).symm
    | exact (QaA (.inl h1)).symm
    | exact (QaA (.inr h2)).symm
  ·try rw [h2]
   try simp only [qA] at h2
   refine Qv (Qd (kp1 Z) ?_)
   refine QF ?_ -- 1
   refine Qe fun K hK => Qa Z (hK _ _ (Qb (kp2 Z Z) ?_))
   refine QC ?_
   refine ZB (ι := Nat) (fun i => ⟨[(1, .ref 1 0 0), (3, .int .i64 i)], [(1, ⟨[[ZP s.1, ZP s.2]], 2, 78, true⟩)]⟩) (fun i => i <= s.1.length /\ (s.1.take i).all (fun x => Qbc x.1 && Qbc x.2) = true) (fun i => s.1.length - i) 0 ?_ ?_ ?_
   ·exact Za (l := [1, 3]) (lH := [1]) (kp2 rfl rfl) (Qf rfl Qq) rfl rfl rfl
   ·exact ⟨Nat.zero_le _, by simp⟩
   intro i hI
   try dsimp only
   refine QF ?_ -- 2
   refine Qe fun K hK => Qa Z (Qn Z Z (QI Z Z Z (QQ Z Z (Z7 Z Z (hK _ _ (Qb (kp3 Z Z Z) ?_))))))
   refine Qx Z (fun h3 => ?_) (fun h3 => ?_)
   ·try rw [h3]
    try simp only [qA] at h3
    refine Qv (Qd (kp2 Z Z) ?_)
    refine QF ?_ -- 3
    refine QC (Qe fun K hK => Qn Z Z (QI Z Z Z (Qa Z (QK Z Z Z (by omega) (Q1 (by omega)) Z (Yz Z Z (QR (cs := [_, _, _, _, _, _, _]) Z Z Z Z (QE (XP) Z Z (.inr Z) (Ye Z (Qa Z ?_)))))))))
    refine QA (g := 29) Z (fun h4 => ?_) (fun h4 => ?_)
    ·try rw [h4]
     try simp only [qA] at h4
     refine Qz Z (Qz Z (Qz Z (Qz Z (Qz Z (Qz Z (Qz Z (Qz Z (Qk Z Z (hK _ _ (Qb (kp3 Z Z Z) ?_))))))))))
     refine Zy Z (Qe fun K hK => Qa Z (hK _ _ (Qb (kp1 Z) ?_)))
     refine Qu (Qs (Qj (Q3 (Qs (Qj (Qp Z ?_))))))
     first
      | exact (Qdd (i := i) h1 h2 (by omega) hI.2).symm
      | exact (Qaz (i := i) (by omega) (.inl h4)).symm
      | exact (Qaz (i := i) (by omega) (.inr h5)).symm
      | exact (QaA (.inl h1)).symm
      | exact (QaA (.inr h2)).symm
    ·try rw [h4]
     try simp only [qA] at h4
     refine Qi Z (Qn Z Z (Qi Z (QI Z Z Z (Qi Z (Qa Z (Qi Z (QK Z Z Z (by omega) (Q1 (by omega)) Z (Qi Z (Yz Z Z (Qi Z (QR (cs := [_, _, _, _, _, _, _]) Z Z Z Z ?_)))))))))))
     refine Qi Z (QE (XP) Z Z (.inr Z) (Qi Z (Ye Z (Qk Z Z (hK _ _ (Qb (kp3 Z Z Z) ?_))))))
     refine Qx Z (fun h5 => ?_) (fun h5 => ?_)
     ·try rw [h5]
      try simp only [qA] at h5
      refine Qe fun K hK => Qa Z (hK _ _ (Qb (kp1 Z) ?_))
      refine Qu (Qs (Qj (Q3 (Qs (Qj (Qp Z ?_))))))
      first
       | exact (Qdd (i := i) h1 h2 (by omega) hI.2).symm
       | exact (Qaz (i := i) (by omega) (.inl h4)).symm
       | exact (Qaz (i := i) (by omega) (.inr h5)).symm
       | exact (QaA (.inl h1)).symm
       | exact (QaA (.inr h2)).symm
     ·try rw [h5]
      try simp only [qA] at h5
      refine Qv (Qg (Qd (kp2 Z Z) (QO fun K hK => Qa Z (Q7 Z Z (by first | exact Qr (by omega) (by omega) | rfl) (Qa Z (hK _ ?_))))))
      refine Qh (i + 1) ?_ ?_ ?_
      ·exact Za (l := [1, 3]) (lH := [1]) (kp2 rfl rfl) (Qf rfl Qq) rfl rfl rfl
      ·exact ⟨by omega, Zg (by omega) hI.2 (by rw [show Qbc s.1[i].1 = true from h4, show Qbc s.1[i].2 = true from h5]; rfl)⟩
      ·first | omega | (simp only; omega) | (dsimp only; omega)
   ·try rw [h3]
    try simp only [qA] at h3
    refine Zf (QH (Qt (QB (Qd (QT) (Qe fun K hK => Qa Z (hK _ _ (Qb (kp1 Z) ?_)))))))
    refine Qu (Qp Z ?_)
    first
     | exact (Qdd (i := i) h1 h2 (by omega) hI.2).symm
     | exact (Qaz (i := i) (by omega) (.inl h4)).symm
     | exact (Qaz (i := i) (by omega) (.inr h5)).symm
     | exact (QaA (.inl h1)).symm
     | exact (QaA (.inr h2)).symm
end Go.Proofs
namespace Go.Proofs
open Go Go.Abs M3 M25
set_option linter.unusedVariables false
set_option linter.unusedSimpArgs false
theorem Qal {l : List Cu} {c : Cu} (hl : l.length <= 3000000) (hs : ∀ x ∈ l, Cu.sm x) (hc : Cu.sm c) : Ok Tryz.prog 126 [Qgd l, .agg (dCu c)] (Qgd (QbH l c)) := by
 refine Ok.ofT ZY Tryz.func126 Qpk (Nat.le_of_ble_eq_true Z) ?_
 show TW _ _ tf126.body _ _
 refine Qe fun K hK => ZM Z Z Z (Qa Z (hK _ _ (Qb (kp2 Z Z) ?_)))
 refine Qe fun K hK => Qa Z (hK _ _ (Qb (kp3 Z Z Z) ?_))
 refine QF ?_ -- 0
 refine QC ?_
 refine ZB (ι := Nat) (fun k => ⟨[(0, Qgd l), (3, .ref 3 0 0), (5, .int .i64 k)], [(3, ⟨[dCu c], 7, 102, true⟩)]⟩) (fun k => k <= l.length /\ QbH l c = l.take k ++ QbH (l.drop k) c) (fun k => l.length - k) 0 ?_ ?_ ?_
 ·exact Za (l := [0, 3, 5]) (lH := [3]) (kp3 rfl rfl rfl) (Qf rfl Qq) rfl rfl rfl
 ·exact ⟨Nat.zero_le _, by simp⟩
 intro k hI
 try dsimp only
 refine QF ?_ -- 1
 refine Qe fun K hK => Qa Z (Qa Z (QQ Z Z (Z7 Z Z (Qa Z ?_))))
 refine QA (g := 10) Z (fun h1 => ?_) (fun h1 => ?_)
 ·try rw [h1]
  try simp only [qA] at h1
  refine Qi Z (Qa Z (Qi Z (Qa Z (Qi Z (QK Z Z Z (by omega) (Q1 (by omega)) Z (Qi Z (Q2 (ds0 := [2, 1, 0]) (cs := [_, _, _, _, _, _, _]) Z Z Z Z Z Z (Qi Z (Q2 (ds0 := [2, 1, 0]) (cs := [_, _, _, _, _, _, _]) Z Z Z Z Z Z (Qi Z (Zi (ds0 := [1, 0]) (Zu (hs _ (List.getElem_mem (by omega))).1 (hs _ (List.getElem_mem (by omega))).2 hc.1 hc.2) Z Z (.inr Z) Z Z ?_)))))))))))
  refine Qi Z (Z7 Z Z (Qk Z Z (hK _ _ (Qb (kp4 Z Z Z Z) ?_))))
  refine Qx Z (fun h2 => ?_) (fun h2 => ?_)
  ·try rw [h2]
   try simp only [qA] at h2
   refine Qv (Qd (kp3 Z Z Z) (QC (QO fun K hK => Qa Z (Q7 Z Z (by first | exact Qr (by omega) (by omega) | rfl) (Qa Z (hK _ ?_))))))
   refine Qg ?_
   refine Qh (k + 1) ?_ ?_ ?_
   ·exact Za (l := [0, 3, 5]) (lH := [3]) (kp3 rfl rfl rfl) (Qf rfl Qq) rfl rfl rfl
   ·exact ⟨by omega, QkK (by omega) h2 hI.2⟩
   ·first | omega | (simp only; omega) | (dsimp only; omega)
  ·try rw [h2]
   try simp only [qA] at h2
   refine Zf (QH (Qt (QB (Qd (kp3 Z Z Z) ?_))))
   refine QF ?_ -- 2
   refine Qe fun K hK => Qa Z (Qa Z (QQ Z Z (Z7 Z Z (Qa Z ?_))))
   refine QA (g := 25) Z (fun h3 => ?_) (fun h3 => ?_)
   ·try rw [h3]
    try simp only [qA] at h3
    refine Qi Z (Qa Z (Qi Z (Qa Z (Qi Z (QK Z Z Z (by omega) (Q1 (by omega)) Z (Qi Z (Q2 (ds0 := [2, 1, 0]) (cs := [_, _, _, _, _, _, _]) Z Z Z Z Z Z (Qi Z (Q2 (ds0 := [2, 1, 0]) (cs := [_, _, _, _, _, _, _]) Z Z Z Z Z Z (Qi Z (Zi (ds0 := [1, 0]) (Zu (hs _ (List.getElem_mem (by omega))).1 (hs _ (List.getElem_mem (by omega))).2 hc.1 hc.2) Z Z (.inr Z) Z Z ?_)))))))))))
    refine Qi Z (YF Z Z (Qk Z Z (hK _ _ (Qb (kp4 Z Z Z Z) ?_))))
    refine Qx Z (fun h4 => ?_) (fun h4 => ?_)
    ·try rw [h4]
     try simp only [qA] at h4
     refine Qe fun K hK => Qa Z (Qa Z (hK _ _ (Qb (kp1 Z) ?_)))
     refine Qu (Qj (ZR Z ?_))
     rw [QkJ (k := k) (by omega) (by assumption) hI.2]; rfl
    ·try rw [h4]
     try simp only [qA] at h4
     refine Qv (Qd (kp3 Z Z Z) (Qe fun K hK => Qa Z (Qa Z (Qdt Z Z Z Z (by omega) (by omega) (by simp; omega) QhQ Z (Qh5 (ds0 := [5, 1, 0]) Z Z (fun _ h => ⟨Ql7, h⟩) Z (.inl Z) (by simp) (by simp; omega) (by simp; omega) Z Z (Q2 (ds0 := [6, 5, 1, 0]) (cs := [_, _, _, _, _, _, _]) Z Z Z Z Z Z (QM Z Z (Qem (ds0 := [1, 0]) Z Z (by simp [D.ids, D.sid]) ⟨_, rfl, rfl, rfl, rfl, rfl⟩ Z Z (by simp) Z Z (by simp; omega) (by simp; omega) Z Z (Qa Z (Qa Z ?_))))))))))
     refine Qdt Z Z Z Z (by omega) (by simp; omega) (by simp) QhQ Z (Qem (ds0 := [0]) Z Z (by simp [D.ids, D.sid]) ⟨rfl, Ql7, rfl⟩ Z Z (by simp) Z Z (by simp; omega) (by simp; omega) Z Z (Qa Z (hK _ _ (Qb (kp1 Z) ?_))))
     refine Qu (ZR Z ?_)
     rw [Qjp (k := k) (by first | exact .inl (by omega) | exact .inr ⟨by omega, by assumption, by assumption⟩) hI.2]; simp [Qad, D.fz, D.fzS, Qdr, lk, D.can, D.canS, Qgd, D.sid, (show ∀ a b : Nat, a + 1 + b = a + (b + 1) from fun a b => by omega), List.take_of_length_le (show (l.map dCu).length <= l.length by simp)] <;> rfl
   ·try rw [h3]
    try simp only [qA] at h3
    exact absurd h1 h3
 ·try rw [h1]
  try simp only [qA] at h1
  refine Qz Z (Qz Z (Qz Z (Qz Z (Qz Z (Qz Z (Qz Z (Qk Z Z (hK _ _ (Qb (kp4 Z Z Z Z) ?_)))))))))
  refine Zp Z (Zf (QH (Qt (QB (Qd (kp3 Z Z Z) ?_)))))
  refine QF ?_ -- 2
  refine Qe fun K hK => Qa Z (Qa Z (QQ Z Z (Z7 Z Z (Qa Z ?_))))
  refine QA (g := 25) Z (fun h5 => ?_) (fun h5 => ?_)
  ·try rw [h5]
   try simp only [qA] at h5
   exact absurd h5 h1
  ·try rw [h5]
   try simp only [qA] at h5
   refine Qz Z (Qz Z (Qz Z (Qz Z (Qz Z (Qz Z (Qz Z (Qk Z Z (hK _ _ (Qb (kp4 Z Z Z Z) ?_)))))))))
   refine Zp Z (Qv (Qd (kp3 Z Z Z) (Qe fun K hK => Qa Z (Qa Z (Qdt Z Z Z Z (by omega) (by omega) (by simp; omega) QhQ Z (Qh5 (ds0 := [5, 1, 0]) Z Z (fun _ h => ⟨Ql7, h⟩) Z (.inl Z) (by simp) (by simp; omega) (by simp; omega) Z Z (Q2 (ds0 := [6, 5, 1, 0]) (cs := [_, _, _, _, _, _, _]) Z Z Z Z Z Z (QM Z Z (Qem (ds0 := [1, 0]) Z Z (by simp [D.ids, D.sid]) ⟨_, rfl, rfl, rfl, rfl, rfl⟩ Z Z (by simp) Z Z (by simp; omega) (by simp; omega) Z Z (Qa Z ?_))))))))))
   refine Qa Z (Qdt Z Z Z Z (by omega) (by simp; omega) (by simp) QhQ Z (Qem (ds0 := [0]) Z Z (by simp [D.ids, D.sid]) ⟨rfl, Ql7, rfl⟩ Z Z (by simp) Z Z (by simp; omega) (by simp; omega) Z Z (Qa Z (hK _ _ (Qb (kp1 Z) ?_)))))
   refine Qu (ZR Z ?_)
   rw [Qjp (k := k) (by first | exact .inl (by omega) | exact .inr ⟨by omega, by assumption, by assumption⟩) hI.2]; simp [Qad, D.fz, D.fzS, Qdr, lk, D.can, D.canS, Qgd, D.sid, (show ∀ a b : Nat, a + 1 + b = a + (b + 1) from fun a b => by omega), List.take_of_length_le (show (l.map dCu).length <= l.length by simp)] <;> rfl
theorem X4 {l : List (Cu × Cu)} (hl : Sm l) : Ok Tryz.prog 120 [ZP l] (Qgd (YP l)) := by
 refine Ok.ofT ZY Tryz.func120 Qpe (Nat.le_of_ble_eq_true Z) ?_
 show TW _ _ tf120.body _ _
 have hn := hl.1
 refine Qe fun K hK => Qa Z (hK _ _ (Qb (kp1 Z) ?_))
 refine Qe fun K hK => QE (YV) Z Z (.inl Z) (QE (Y7) Z Z (.inl Z) (QM Z Z (Qa Z (hK _ _ (Qb (kp2 Z Z) ?_)))))
 refine QF ?_ -- 0
 refine Qe fun K hK => Qa Z (hK _ _ (Qb (kp3 Z Z Z) ?_))
 refine QC ?_
 refine ZB (ι := Nat) (fun i => ⟨[(0, ZP l), (3, Qgd (YP (l.take i))), (4, .int .i64 i)], []⟩) (fun i => i <= l.length) (fun i => l.length - i) 0 ?_ ?_ ?_
 ·exact le_trans (QkE 7 _ (by decide)) (Za (l := [0, 3, 4]) (lH := []) (kp3 rfl rfl rfl) Qq rfl rfl rfl)
 ·exact Nat.zero_le _
 intro i hI
 try dsimp only
 refine QF ?_ -- 1
 refine Qe fun K hK => Qa Z (Qa Z (QQ Z Z (Z7 Z Z (hK _ _ (Qb (kp4 Z Z Z Z) ?_)))))
 refine Qx Z (fun h1 => ?_) (fun h1 => ?_)
 ·try rw [h1]
  try simp only [qA] at h1
  refine Qv (Qd (kp3 Z Z Z) ?_)
  refine QF ?_ -- 2
  refine QC (QO fun K hK => Qa Z (Qa Z (Qa Z (QK Z Z Z (by omega) (Q1 (by omega)) Z (Yz Z Z (Q2 (ds0 := [7, 1, 0]) (cs := [_, _, _, _, _, _, _]) Z Z Z Z Z Z (Zi (ds0 := [1, 0]) (Qal (Nat.le_trans (Qeb hl i).1 (by omega)) (Qeb hl i).2 (hl.2 _ (List.getElem_mem (by omega))).1) Z Z (.inl Z) Z Z (Qa Z (Qa Z (QK Z Z Z (by omega) (Q1 (by omega)) Z ?_))))))))))
  refine Yz Z Z (Q2 (ds0 := [1, 0]) (cs := [_, _, _, _, _, _, _]) Z Z Z Z Z Z (Zi (ds0 := [0]) (Qal (Nat.le_trans (Qec _ _) (by have := (Qeb hl i).1; omega)) (Qgw (Qeb hl i).2 (hl.2 _ (List.getElem_mem (by omega))).1) (hl.2 _ (List.getElem_mem (by omega))).2) Z Z (.inl Z) Z Z (Qa Z (hK _ ?_))))
  refine Qg (Qd (kp3 Z Z Z) (QO fun K hK => Qa Z (Q7 Z Z (by first | exact Qr (by omega) (by omega) | rfl) (Qa Z (hK _ ?_)))))
  refine Qh (i + 1) ?_ ?_ ?_
  ·exact Za (l := [0, 3, 4]) (lH := []) (kp3 rfl rfl rfl) Qq (by rw [QlS (by omega)]; rfl) rfl rfl
  ·omega
  ·first | omega | (simp only; omega) | (dsimp only; omega)
 ·try rw [h1]
  try simp only [qA] at h1
  refine Zf (QH (Qt (QB (Qd (kp1 Z) (Qe fun K hK => Qa Z (Qa Z (hK _ _ (Qb (kp1 Z) ?_))))))))
  refine Qu (ZR Z ?_)
  rw [List.take_of_length_le (show l.length <= i by omega)]; rfl
end Go.Proofs
namespace Go.Proofs
open Go Go.Abs M3 M25
set_option linter.unusedVariables false
set_option linter.unusedSimpArgs false
theorem X5 {l : List (Cu × Cu)} {x y : Cu} (hn : l.length <= 3000000) (hl : ∀ s ∈ l, Cu.sm s.1 /\ Cu.sm s.2) (hx : Cu.sm x) (hy : Cu.sm y) : OkH Tryz.prog 122 [.osl 500000 l.length, .agg (dCu x), .agg (dCu y)] [(500000, ⟨l.map QdY, 14, 105, true⟩)] (.osl 500000 (QbG l x y).length) [(500000, ⟨(QbG l x y).map QdY, 14, 105, true⟩)] := by
 refine OkH.mv ZY Tryz.func122 Qpg (Nat.le_of_ble_eq_true Z) Z ?_
 show TW _ _ tf122.body _ _
 refine Qe fun K hK => ZM Z Z Z (ZM Z Z Z (Qa Z (hK _ _ (Qb (kp3 Z Z Z) ?_))))
 refine QF ?_ -- 0
 refine Qe fun K hK => Qa Z (QQ Z Z (Qbn Z Z (by first | exact Qr (by omega) (by omega) | rfl) (Qa Z (hK _ _ (Qb (kp4 Z Z Z Z) ?_)))))
 refine Qe fun K hK => Qa Z (QiT Z Z (Qa Z ?_))
 refine QA (g := 13) Z (fun h1 => ?_) (fun h1 => ?_)
 ·try rw [h1]
  try simp only [qA] at h1
  refine Qi Z (Qa Z (Qi Z (Qa Z (Qi Z (Qbm (ds0 := [5, 4, 2, 1, 0]) Z Z Z (by simp) (by omega) (by omega) Z Z Z (Qi Z (Qn Z Z (Qi Z (Q2 (ds0 := [2, 1, 0]) (cs := [_, _, _, _, _, _, _]) Z (Yg Z (Y1 (by omega) (by omega))) Z Z Z Z (Qi Z (Q2 (ds0 := [2, 1, 0]) (cs := [_, _, _, _, _, _, _]) Z Z Z Z Z Z ?_)))))))))))
  refine Qi Z (Zi (ds0 := [1, 0]) (Zu (hl _ (List.getElem_mem (by omega))).2.1 (hl _ (List.getElem_mem (by omega))).2.2 hx.1 hx.2) Z Z (.inr Z) Z Z (Qi Z (YF Z Z (Qk Z Z (hK _ _ (Qb (kp5 Z Z Z Z Z) ?_))))))
  refine Qx Z (fun h2 => ?_) (fun h2 => ?_)
  ·try rw [h2]
   try simp only [qA] at h2
   refine Qe fun K hK => Qa Z (Qa Z (QR (cs := [_, _, _, _, _, _, _]) Z Z Z Z (Xy Z Z Z (by simp) (by omega) (by omega) Z (Qn Z Z (QX Z Z (Y1 (by omega) (by omega)) Z Z Z Z Z (hK _ _ (Qb (kp1 Z) ?_)))))))
   refine Qe fun K hK => Qa Z (Qa Z (hK _ _ (Qb (kp1 Z) ?_)))
   refine Qu (Qj ?_)
   refine X9 Z ?_ (QiH ?_)
   ·rw [QhB (i := ((l.length : Int) - 1).toNat) (by omega) h2]; simp [Qlo, D.fz, D.fzS, Qfy, D.can, D.canS]
   ·rw [QhB (i := ((l.length : Int) - 1).toNat) (by omega) h2]; simp [lk, List.map_set, QdY, dCu, setRow, D.sid]
  ·try rw [h2]
   try simp only [qA] at h2
   refine Qv (Qd (kp3 Z Z Z) (Qe fun K hK => Qa Z (QR (cs := [_, _, _, _, _, _, _]) Z Z Z Z (QR (cs := [_, _, _, _, _, _, _]) Z Z Z Z (Q4 Z Z (QM Z Z (Xp Z Z (fun _ h => Xt Z Z Z h) Z (by simp) Z Z Z (by simp; omega) (by simp; omega) (Qa Z (hK _ _ (Qb (kp1 Z) ?_))))))))))
   refine Qu ?_
   refine X9 Z ?_ (QiH ?_)
   ·rw [Qc9 (.inr ⟨((l.length : Int) - 1).toNat, by omega, h2⟩)]; simp [Qlo, D.fz, D.fzS, Qfy, D.can, D.canS]
   ·rw [Qc9 (.inr ⟨((l.length : Int) - 1).toNat, by omega, h2⟩)]; simp [lk, QdY, dCu, D.sid]
 ·try rw [h1]
  try simp only [qA] at h1
  refine Qz Z (Qz Z (Qz Z (Qz Z (Qz Z (Qz Z (Qz Z (Qz Z (Qk Z Z (hK _ _ (Qb (kp5 Z Z Z Z Z) ?_))))))))))
  refine Zp Z (Qv (Qd (kp3 Z Z Z) (Qe fun K hK => Qa Z (QR (cs := [_, _, _, _, _, _, _]) Z Z Z Z (QR (cs := [_, _, _, _, _, _, _]) Z Z Z Z (Q4 Z Z (QM Z Z (Xp Z Z (fun _ h => Xt Z Z Z h) Z (by simp) Z Z Z (by simp; omega) (by simp; omega) (Qa Z (hK _ _ (Qb (kp1 Z) ?_)))))))))))
  refine Qu ?_
  have h0 : l = [] := List.eq_nil_of_length_eq_zero (by omega)
  refine X9 Z ?_ (QiH ?_)
  ·rw [Qc9 (.inl h0)]; simp [Qlo, D.fz, D.fzS, Qfy, D.can, D.canS]
  ·rw [Qc9 (.inl h0)]; simp [lk, QdY, dCu, D.sid]
end Go.Proofs
namespace Go.Proofs
open Go Go.Abs M3 M25
set_option linter.unusedVariables false
set_option linter.unusedSimpArgs false
theorem Qcw {l : List (Cu × Cu)} (hl : Sm l) : Ok Tryz.prog 119 [ZP l] (.tup [ZP (Qiu l), .bool (l.all Qda)]) := by
  refine Ok.ofT ZY Tryz.func119 Qpd (Nat.le_of_ble_eq_true Z) ?_
  show TW _ _ tf119.body _ _
  have hn := hl.1
  have hc1 := QbD l
  refine Qe fun K hK => Qa Z (Qa Z (hK _ _ (Qb (kp1 Z) ?_)))
  refine QF ?_ -- 0
  refine Qe fun K hK => Qa Z (hK _ _ (Qb (kp2 Z Z) ?_))
  refine QC ?_
  refine ZB (ι := Nat) (fun i => ⟨[(0, ZP l), (4, .int .i64 i)], []⟩) (fun i => i <= l.length /\ (l.take i).all Qda = true) (fun i => l.length - i) 0 ?_ ?_ ?_
  · exact QP (kp2 rfl rfl)
  · exact ⟨Nat.zero_le _, by simp⟩
  intro i hI
  try dsimp only
  refine QF ?_ -- 1
  refine Qe fun K hK => Qa Z (Qa Z (QQ Z Z (Z7 Z Z (hK _ _ (Qb (kp3 Z Z Z) ?_)))))
  refine Qx Z (fun h1 => ?_) (fun h1 => ?_)
  · try rw [h1]
    try simp only [qA] at h1
    refine Qv (Qd (kp2 Z Z) ?_)
    refine QF ?_ -- 2
    refine QC (Qe fun K hK => Qa Z (Qa Z (QK Z Z Z (by omega) (Q1 (by omega)) Z (QR (cs := [_, _, _, _, _, _, _, _, _, _, _, _, _, _]) Z Z Z Z (QE (Xs (hl.at (i := i) (by omega)).1.1 (hl.at (i := i) (by omega)).1.2 (hl.at (i := i) (by omega)).2.1 (hl.at (i := i) (by omega)).2.2) Z Z (.inr Z) (Ye Z (hK _ _ (Qb (kp3 Z Z Z) ?_))))))))
    refine Qx Z (fun h2 => ?_) (fun h2 => ?_)
    · try rw [h2]
      try simp only [qA] at h2
      refine Qe fun K hK => Qa Z (Qa Z (hK _ _ (Qb (kp2 Z Z) ?_)))
      refine Qu (Qs (Qj (Q3 (Qs (Qj ?_)))))
      first
        | exact ZS rfl rfl ⟨by rw [Qiu, if_neg (by rw [Yf (i := i) (by omega) (by assumption)]; simp)]; rfl, by rw [Yf (i := i) (by omega) (by assumption)]; rfl⟩
        | (have ha : l.all Qda = true := Y6 (by omega) hI.2
           exact ZS rfl rfl ⟨by rw [Qiu, if_pos ha, hI2.done (by omega)]; simp [Qad, D.fz, D.fzS, Qdr, lk, D.can, D.canS, ZP], by rw [ha]; rfl⟩)
    · try rw [h2]
      try simp only [qA] at h2
      refine Qv (Qg (Qd (kp2 Z Z) (QO fun K hK => Qa Z (Q7 Z Z (by first | exact Qr (by omega) (by omega) | rfl) (Qa Z (hK _ ?_))))))
      refine Qh (i + 1) ?_ ?_ ?_
      · exact QP (kp2 rfl rfl)
      · exact ⟨by omega, Zg (by omega) hI.2 (by assumption)⟩
      · first | omega | (simp only; omega) | (dsimp only; omega)
  · try rw [h1]
    try simp only [qA] at h1
    refine Zf (QH (Qt (QB (Qd (kp1 Z) (Qe fun K hK => Qa Z (hK _ _ (Qb (kp2 Z Z) ?_)))))))
    refine Qe fun K hK => Qa Z (QE (X4 hl) Z Z (.inl Z) (Qa Z (hK _ _ (Qb (kp3 Z Z Z) ?_))))
    refine QF ?_ -- 3
    refine Qe fun K hK => Qa Z (hK _ _ (Qb (kp4 Z Z Z Z) ?_))
    refine QC ?_
    refine ZB (ι := Nat × List (Cu × Cu)) (fun ⟨i, out⟩ => ⟨[(0, ZP l), (5, .osl 5 out.length), (6, Qgd (YP l)), (7, .int .i64 i)], [(5, ⟨out.map QdY, 14, 105, true⟩)]⟩) (fun ⟨i, out⟩ => i <= (YP l).length /\ FillI (mIn l) (YP l) i out) (fun ⟨i, out⟩ => (YP l).length - i) (0, []) ?_ ?_ ?_
    · exact le_trans (Yh 5 5 14 105 rfl rfl) (Za (l := [0, 5, 6, 7]) (lH := [5]) (kp4 rfl rfl rfl rfl) (Qf rfl Qq) rfl rfl rfl)
    · exact ⟨Nat.zero_le _, FillI.zero⟩
    intro ⟨i, out⟩ hI
    obtain ⟨hI1, hI2⟩ := hI
    have hI3 := hI2.1
    try dsimp only
    refine QF ?_ -- 4
    refine Qe fun K hK => Qa Z (Q7 Z Z (by first | exact Qr (by omega) (by omega) | rfl) (Qa Z (QQ Z Z (Z7 Z Z (hK _ _ (Qb (kp5 Z Z Z Z Z) ?_))))))
    refine Qx Z (fun h3 => ?_) (fun h3 => ?_)
    · try rw [h3]
      try simp only [qA] at h3
      refine Qv (Qd (kp4 Z Z Z Z) ?_)
      refine QF ?_ -- 5
      refine QC (Qe fun K hK => Qa Z (Qa Z (Qa Z (QK Z Z Z (by omega) (Q1 (by omega)) Z (Q2 (ds0 := [0]) (cs := [_, _, _, _, _, _, _]) Z Z Z Z Z Z (Qa Z (Qa Z (Q7 Z Z (by first | exact Qr (by omega) (by omega) | rfl) (QK Z Z Z (by omega) (Qjh (by omega)) Z (Q2 (ds0 := [0]) (cs := [_, _, _, _, _, _, _]) Z Z Z Z Z Z ?_))))))))))
      refine Zi (ds0 := []) (QaG hl (Yw hl _ (List.getElem_mem (by omega))) (Yw hl _ (List.getElem_mem (by omega)))) Z Z (.inr Z) Z Z (hK _ _ (Qb (kp5 Z Z Z Z Z) ?_))
      refine Qx Z (fun h4 => ?_) (fun h4 => ?_)
      · try rw [h4]
        try simp only [qA] at h4
        refine QO fun K hK => Qa rfl (Qa rfl (Qa rfl (QK rfl rfl rfl (by omega) (Q1 (by omega)) rfl (Q2 (ds0 := [1, 0]) (cs := [_, _, _, _, _, _, _]) rfl rfl rfl rfl rfl rfl (Qa rfl (Qa rfl (Q7 rfl rfl (by first | exact Qr (by omega) (by omega) | rfl) (QK rfl rfl rfl (by omega) (Qjh (by omega)) rfl (Q2 (ds0 := [1, 0]) (cs := [_, _, _, _, _, _, _]) rfl rfl rfl rfl rfl rfl (QiS (ds0 := [0]) (Qmn (k := 5) rfl rfl rfl (by decide) rfl (by decide) (by simp [D.ids, D.sid, dCu]) ⟨.osl 5 out.length, by simp, by simp [D.ids, D.sid]⟩ rfl rfl (X5 (by omega) hI2.2.1 (Yw hl _ (List.getElem_mem (by omega))) (Yw hl _ (List.getElem_mem (by omega))))) (fun _ h => by cases h) rfl rfl ?_))))))))))
        refine Qa Z (hK _ ?_)
        refine Qg (Qd (kp4 Z Z Z Z) (QO fun K hK => Qa Z (Q7 Z Z (by first | exact Qr (by omega) (by omega) | rfl) (Qa Z (hK _ ?_)))))
        refine Qh (i + 1, QbG out (YP l)[i] (YP l)[i + 1]) ?_ ?_ ?_
        · exact le_trans (QkC (l := [0, 6, 7]) (t := 50) (u := 5) 5 (kp3 rfl rfl rfl) rfl rfl rfl rfl) (Za (l := [0, 5, 6, 7]) (lH := [5]) (kp4 rfl rfl rfl rfl) (Qf rfl Qq) rfl rfl rfl)
        · exact ⟨by omega, hI2.take (Yw hl) (by omega) (by assumption)⟩
        · show (YP l).length - (i + 1) < (YP l).length - i; omega
      · try rw [h4]
        try simp only [qA] at h4
        refine Qv (Qg (Qd (kp4 Z Z Z Z) (QO fun K hK => Qa Z (Q7 Z Z (by first | exact Qr (by omega) (by omega) | rfl) (Qa Z (hK _ ?_))))))
        refine Qh (i + 1, out) ?_ ?_ ?_
        · exact Za (l := [0, 5, 6, 7]) (lH := [5]) (kp4 rfl rfl rfl rfl) (Qf rfl Qq) rfl rfl rfl
        · exact ⟨by omega, hI2.skip (by omega) (by assumption)⟩
        · show (YP l).length - (i + 1) < (YP l).length - i; omega
    · try rw [h3]
      try simp only [qA] at h3
      refine Zf (QH (Qt (QB (Qd (kp1 Z) (Qe fun K hK => Qa Z (Qa Z (Qa Z (hK _ _ (Qb (kp2 Z Z) ?_)))))))))
      refine Qu ?_
      first
        | exact ZS rfl rfl ⟨by rw [Qiu, if_neg (by rw [Yf (i := i) (by omega) (by assumption)]; simp)]; rfl, by rw [Yf (i := i) (by omega) (by assumption)]; rfl⟩
        | (have ha : l.all Qda = true := Y6 (by omega) hI.2
           exact ZS rfl rfl ⟨by rw [Qiu, if_pos ha, hI2.done (by omega)]; simp [Qad, D.fz, D.fzS, Qdr, lk, D.can, D.canS, ZP], by rw [ha]; rfl⟩)
end Go.Proofs
namespace Go.Proofs
open Go Go.Abs M3 M25
set_option linter.unusedVariables false
set_option linter.unusedSimpArgs false
theorem QaF {a b : List (Cu × Cu)} (ha : Sm a) (hb : Sm b) (hab : a.length + b.length <= 1000000) : Ok Tryz.prog 109 [ZP a, ZP b] (ZP (Qmu a b)) := by
 refine Ok.ofT ZY Tryz.func109 Qo5 (Nat.le_of_ble_eq_true Z) ?_
 show TW _ _ tf109.body _ _
 refine Qe fun K hK => Qa Z (hK _ _ (Qb (kp2 Z Z) ?_))
 refine QF ?_ -- 0
 refine Qe fun K hK => Qa Z (QE (Z8 ha) Z Z (.inr Z) (Ye Z (Qa Z ?_)))
 refine QA (g := 10) Z (fun h1 => ?_) (fun h1 => ?_)
 ·try rw [h1]
  try simp only [qB] at h1
  refine Qz Z (Qz Z (Qz Z (Qk Z Z (hK _ _ (Qb (kp3 Z Z Z) ?_)))))
  refine Zy Z (Qe fun K hK => Qa Z (hK _ _ (Qb (kp1 Z) ?_)))
  refine Qu (Qj (ZR Z ?_))
  rw [Qmu, if_neg (by simp [h1])]; rfl
 ·try rw [h1]
  try simp only [qB] at h1
  refine Qi Z (Qa Z (Qi Z (QE (Z8 hb) Z Z (.inr Z) (Qi Z (Ye Z (Qk Z Z (hK _ _ (Qb (kp3 Z Z Z) ?_))))))))
  refine Qx Z (fun h2 => ?_) (fun h2 => ?_)
  ·try rw [h2]
   try simp only [qB] at h2
   refine Qe fun K hK => Qa Z (hK _ _ (Qb (kp1 Z) ?_))
   refine Qu (Qj (ZR Z ?_))
   rw [Qmu, if_neg (by simp [h1, h2])]; rfl
  ·try rw [h2]
   try simp only [qB] at h2
   refine Qv (Qd (kp2 Z Z) (Qe fun K hK => Qa Z (QnP Z Z (fun _ h => QmG QmB h) Z (.inl Z) (by simp) (by simp; omega) (by simp; omega) (Qa Z (Xp Z Z (fun _ h => QmG QmB h) Z (by simp) Z Z Z (by simp; omega) (by simp; omega) ?_)))))
   apply Qf2 [17] (by simp)
   ·simp [St.freezeL, St.freeze, rem, D.fz, D.fzS, Box.fz, lk, D.scrub]; exact ⟨rfl, rfl⟩
   ·exact Qcw (ha.app hb hab)
   ·rfl
   ·simp [Qad, D.fz, D.fzS, Qdr, D.can, D.canS, ZP]
   ·exact .inl rfl
   refine Qa Z (Zj Z Z (Zj Z Z (Qa Z (Qa Z (hK _ _ (Qb (kp1 Z) ?_))))))
   refine Qe fun K hK => Qa Z (Qa Z (hK _ _ (Qb (kp1 Z) ?_)))
   refine Qu (ZR Z ?_)
   rw [Qmu, if_pos ⟨h1, h2⟩]; rfl
theorem Qak {a : List (Cu × Cu)} (ha : Sm a) : Ok Tryz.prog 111 [ZP a] (ZP (Qiv a)) := by
 refine Ok.ofT ZY Tryz.func111 Qo7 (Nat.le_of_ble_eq_true Z) ?_
 show TW _ _ tf111.body _ _
 have hn := ha.1
 have hc1 := QbD a
 refine Qe fun K hK => Qa Z (hK _ _ (Qb (kp1 Z) ?_))
 refine QF ?_ -- 0
 refine Qe fun K hK => Qa Z (QE (Z8 ha) Z Z (.inr Z) (Ye Z (hK _ _ (Qb (kp2 Z Z) ?_))))
 refine Qx Z (fun h1 => ?_) (fun h1 => ?_)
 ·try rw [h1]
  try simp only [qA] at h1
  refine Qe fun K hK => Qa Z (hK _ _ (Qb (kp1 Z) ?_))
  refine Qu (Qj (ZR Z ?_))
  rw [Qiv, if_neg (by simp [h1])]; rfl
 ·try rw [h1]
  try simp only [qA] at h1
  refine Qv (Qd (kp1 Z) (Qe fun K hK => Qa Z (hK _ _ (Qb (kp2 Z Z) ?_))))
  refine Qe fun K hK => Qa Z (QE (X4 ha) Z Z (.inl Z) (Qa Z (hK _ _ (Qb (kp3 Z Z Z) ?_))))
  refine QF ?_ -- 1
  refine Qe fun K hK => Qa Z (hK _ _ (Qb (kp4 Z Z Z Z) ?_))
  refine QC ?_
  refine ZB (ι := Nat × List (Cu × Cu)) (fun ⟨i, out⟩ => ⟨[(0, ZP a), (3, .osl 3 out.length), (4, Qgd (YP a)), (5, .int .i64 i)], [(3, ⟨out.map QdY, 14, 105, true⟩)]⟩) (fun ⟨i, out⟩ => i <= (YP a).length /\ FillI (fun x y => !mIn a x y) (YP a) i out) (fun ⟨i, out⟩ => (YP a).length - i) (0, []) ?_ ?_ ?_
  ·exact le_trans (Yh 3 3 14 105 rfl rfl) (Za (l := [0, 3, 4, 5]) (lH := [3]) (kp4 rfl rfl rfl rfl) (Qf rfl Qq) rfl rfl rfl)
  ·exact ⟨Nat.zero_le _, FillI.zero⟩
  intro ⟨i, out⟩ hI
  obtain ⟨hI1, hI2⟩ := hI
  have hI3 := hI2.1
  try dsimp only
  refine QF ?_ -- 2
  refine Qe fun K hK => Qa Z (Q7 Z Z (by first | exact Qr (by omega) (by omega) | rfl) (Qa Z (QQ Z Z (Z7 Z Z (hK _ _ (Qb (kp5 Z Z Z Z Z) ?_))))))
  refine Qx Z (fun h2 => ?_) (fun h2 => ?_)
  ·try rw [h2]
   try simp only [qA] at h2
   refine Qv (Qd (kp4 Z Z Z Z) ?_)
   refine QF ?_ -- 3
   refine QC (Qe fun K hK => Qa Z (Qa Z (Qa Z (QK Z Z Z (by omega) (Q1 (by omega)) Z (Q2 (ds0 := [1, 0]) (cs := [_, _, _, _, _, _, _]) Z Z Z Z Z Z (Qa Z (Qa Z (Q7 Z Z (by first | exact Qr (by omega) (by omega) | rfl) (QK Z Z Z (by omega) (Qjh (by omega)) Z (Q2 (ds0 := [1, 0]) (cs := [_, _, _, _, _, _, _]) Z Z Z Z Z Z ?_))))))))))
   refine Zi (ds0 := [0]) (QaG ha (Yw ha _ (List.getElem_mem (by omega))) (Yw ha _ (List.getElem_mem (by omega)))) Z Z (.inr Z) Z Z (Ye Z (hK _ _ (Qb (kp5 Z Z Z Z Z) ?_)))
   refine Qx Z (fun h3 => ?_) (fun h3 => ?_)
   ·try rw [h3]
    try simp only [qA] at h3
    refine QO fun K hK => Qa rfl (Qa rfl (Qa rfl (QK rfl rfl rfl (by omega) (Q1 (by omega)) rfl (Q2 (ds0 := [1, 0]) (cs := [_, _, _, _, _, _, _]) rfl rfl rfl rfl rfl rfl (Qa rfl (Qa rfl (Q7 rfl rfl (by first | exact Qr (by omega) (by omega) | rfl) (QK rfl rfl rfl (by omega) (Qjh (by omega)) rfl (Q2 (ds0 := [1, 0]) (cs := [_, _, _, _, _, _, _]) rfl rfl rfl rfl rfl rfl (QiS (ds0 := [0]) (Qmn (k := 3) rfl rfl rfl (by decide) rfl (by decide) (by simp [D.ids, D.sid, dCu]) ⟨.osl 3 out.length, by simp, by simp [D.ids, D.sid]⟩ rfl rfl (X5 (by omega) hI2.2.1 (Yw ha _ (List.getElem_mem (by omega))) (Yw ha _ (List.getElem_mem (by omega))))) (fun _ h => by cases h) rfl rfl ?_))))))))))
    refine Qa Z (hK _ ?_)
    refine Qg (Qd (kp4 Z Z Z Z) (QO fun K hK => Qa Z (Q7 Z Z (by first | exact Qr (by omega) (by omega) | rfl) (Qa Z (hK _ ?_)))))
    refine Qh (i + 1, QbG out (YP a)[i] (YP a)[i + 1]) ?_ ?_ ?_
    ·exact le_trans (QkC (l := [0, 4, 5]) (t := 40) (u := 3) 3 (kp3 rfl rfl rfl) rfl rfl rfl rfl) (Za (l := [0, 3, 4, 5]) (lH := [3]) (kp4 rfl rfl rfl rfl) (Qf rfl Qq) rfl rfl rfl)
    ·exact ⟨by omega, hI2.take (Yw ha) (by omega) (by simp; assumption)⟩
    ·show (YP a).length - (i + 1) < (YP a).length - i; omega
   ·try rw [h3]
    try simp only [qA] at h3
    refine Qv (Qg (Qd (kp4 Z Z Z Z) (QO fun K hK => Qa Z (Q7 Z Z (by first | exact Qr (by omega) (by omega) | rfl) (Qa Z (hK _ ?_))))))
    refine Qh (i + 1, out) ?_ ?_ ?_
    ·exact Za (l := [0, 3, 4, 5]) (lH := [3]) (kp4 rfl rfl rfl rfl) (Qf rfl Qq) rfl rfl rfl
    ·exact ⟨by omega, hI2.skip (by omega) (by simp; assumption)⟩
    ·show (YP a).length - (i + 1) < (YP a).length - i; omega
  ·try rw [h2]
   try simp only [qA] at h2
   refine Zf (QH (Qt (QB (Qd (kp1 Z) (Qe fun K hK => Qa Z (Qa Z (hK _ _ (Qb (kp1 Z) ?_))))))))
   refine Qu (ZR Z ?_)
   rw [Qiv, if_pos h1, hI2.done (by omega)]; simp [Qad, D.fz, D.fzS, Qdr, lk, D.can, D.canS, ZP]
end Go.Proofs
namespace Go.Proofs
open Go Go.Abs M3 M25
set_option linter.unusedVariables false
set_option linter.unusedSimpArgs false
theorem Qdv {a b : Qh2} (h1a : Sm a.1) (h2a : Sm a.2) (h1b : Sm b.1) (h2b : Sm b.2) (hl1 : a.1.length + b.1.length <= 1000000) (hl2 : a.2.length + b.2.length <= 1000000) : Ok Tryz.prog 89 [QgT a, QgT b] (QgT (Qmv a b)) := by
 refine Ok.ofT ZY Tryz.func89 QqD (Nat.le_of_ble_eq_true Z) ?_
 show TW _ _ tf89.body _ _
 refine Qe fun K hK => ZM Z Z Z (ZM Z Z Z (ZF Z (hK _ _ (Qb (kp3 Z Z Z) ?_))))
 refine QF ?_ -- 0
 refine Qe fun K hK => QR (cs := [_, _]) Z Z Z Z (QE (Xf h1a h2a) Z Z (.inr Z) (Ye Z (Qa Z ?_)))
 refine QA (g := 8) Z (fun h1 => ?_) (fun h1 => ?_)
 ·try rw [h1]
  try simp only [qB] at h1
  refine Qz Z (Qz Z (Qz Z (Qk Z Z (hK _ _ (Qb (kp4 Z Z Z Z) ?_)))))
  refine Zy Z (Qe fun K hK => QE (Z3) Z Z (.inl Z) (QX Z Z Z Z Z Z Z Z (hK _ _ (Qb (kp1 Z) ?_))))
  refine Qu (Qj (Post.eq (ZA (ds := [.sl _, .sl _]) (cs := [_, _]) Z Z Z Z Z) ?_))
  rw [Qmv, if_neg (by simp [h1])]; rfl
 ·try rw [h1]
  try simp only [qB] at h1
  refine Qi Z (QR (cs := [_, _]) Z Z Z Z (Qi Z (QE (Xf h1b h2b) Z Z (.inr Z) (Qi Z (Ye Z (Qk Z Z (hK _ _ (Qb (kp4 Z Z Z Z) ?_))))))))
  refine Qx Z (fun h2 => ?_) (fun h2 => ?_)
  ·try rw [h2]
   try simp only [qB] at h2
   refine Qe fun K hK => QE (Z3) Z Z (.inl Z) (QX Z Z Z Z Z Z Z Z (hK _ _ (Qb (kp1 Z) ?_)))
   refine Qu (Qj (Post.eq (ZA (ds := [.sl _, .sl _]) (cs := [_, _]) Z Z Z Z Z) ?_))
   rw [Qmv, if_neg (by simp [h1, h2])]; rfl
  ·try rw [h2]
   try simp only [qB] at h2
   refine Qv (Qd (kp3 Z Z Z) (Qe fun K hK => Qn Z Z (Zl (ds0 := [7, 1, 0]) Z Z Z Z Z (Qn Z Z (Zl (ds0 := [7, 1, 0]) Z Z Z Z Z (Zi (ds0 := [1, 0]) (QaF h1a h1b hl1) Z Z (.inl Z) Z Z (Qn Z Z (Zl (ds0 := [2, 1, 0]) Z Z Z Z Z (Qn Z Z (Zl (ds0 := [2, 1, 0]) Z Z Z Z Z ?_))))))))))
   refine Zi (ds0 := [1, 0]) (QaF h2a h2b hl2) Z Z (.inl Z) Z Z (Q4 Z Z (Xc (ds0 := []) Z Z Z Z Z Z Z Z Z Z (hK _ _ (Qb (kp1 Z) ?_))))
   refine Qu (Post.eq (ZA (ds := [.sl _, .sl _]) (cs := [_, _]) Z Z Z Z Z) ?_)
   rw [Qmv, if_pos ⟨h1, h2⟩]; rfl
theorem QcS {a : Qh2} (h1a : Sm a.1) (h2a : Sm a.2) : Ok Tryz.prog 91 [QgT a] (QgT (Qgv a)) := by
 refine Ok.ofT ZY Tryz.func91 QqF (Nat.le_of_ble_eq_true Z) ?_
 show TW _ _ tf91.body _ _
 refine Qe fun K hK => ZM Z Z Z (ZF Z (hK _ _ (Qb (kp2 Z Z) ?_)))
 refine QF ?_ -- 0
 refine Qe fun K hK => QR (cs := [_, _]) Z Z Z Z (QE (Xf h1a h2a) Z Z (.inr Z) (Ye Z (hK _ _ (Qb (kp3 Z Z Z) ?_))))
 refine Qx Z (fun h1 => ?_) (fun h1 => ?_)
 ·try rw [h1]
  try simp only [qB] at h1
  refine Qe fun K hK => QE (Z3) Z Z (.inl Z) (QX Z Z Z Z Z Z Z Z (hK _ _ (Qb (kp1 Z) ?_)))
  refine Qu (Qj (Post.eq (ZA (ds := [.sl _, .sl _]) (cs := [_, _]) Z Z Z Z Z) ?_))
  rw [Qgv, if_neg (by simp [h1])]; rfl
 ·try rw [h1]
  try simp only [qB] at h1
  refine Qv (Qd (kp2 Z Z) (Qe fun K hK => Qn Z Z (Zl (ds0 := [5, 1, 0]) Z Z Z Z Z (Zi (ds0 := [1, 0]) (Qak h1a) Z Z (.inl Z) Z Z (Qn Z Z (Zl (ds0 := [2, 1, 0]) Z Z Z Z Z (Zi (ds0 := [1, 0]) (Qak h2a) Z Z (.inl Z) Z Z (Q4 Z Z (Xc (ds0 := []) Z Z Z Z Z Z Z Z Z Z (hK _ _ (Qb (kp1 Z) ?_)))))))))))
  refine Qu (Post.eq (ZA (ds := [.sl _, .sl _]) (cs := [_, _]) Z Z Z Z Z) ?_)
  rw [Qgv, if_pos h1]; rfl
end Go.Proofs
namespace Go.Proofs
open Go Go.Abs M3 M25
set_option linter.unusedVariables false
set_option linter.unusedSimpArgs false
theorem Yc {v n : Int} (hn : n <= 9223372036854775807) (hv : I64 v) : Ok Tryz.prog 10 [.int .i64 v, .int .i64 n] (.int .i64 (mPl v n)) := by
 refine Ok.ofT ZY Tryz.func10 QpA (Nat.le_of_ble_eq_true Z) ?_
 show TW _ _ tf10.body _ _
 refine Qe fun K hK => Qa Z (hK _ _ (Qb (kp2 Z Z) ?_))
 refine QF ?_ -- 0
 refine Qe fun K hK => Qa Z (Z7 Z Z (hK _ _ (Qb (kp3 Z Z Z) ?_)))
 refine Qx Z (fun h1 => ?_) (fun h1 => ?_)
 ·try rw [h1]
  try simp only [qB] at h1
  refine Qe fun K hK => Qa Z (hK _ _ (Qb (kp1 Z) ?_))
  refine Qu (Qj (Qw Z ?_))
  rw [mPl, if_pos h1]
 ·try rw [h1]
  try simp only [qB] at h1
  refine Qv (Qd (kp2 Z Z) (Qe fun K hK => Qa Z (Qa Z (QmO Z Z (by omega) (Qa Z (hK _ _ (Qb (kp2 Z Z) ?_)))))))
  refine QF ?_ -- 1
  refine Qe fun K hK => Qa Z (Z7 Z Z (hK _ _ (Qb (kp3 Z Z Z) ?_)))
  refine Qx Z (fun h2 => ?_) (fun h2 => ?_)
  ·try rw [h2]
   try simp only [qB] at h2
   refine Qe fun K hK => Qa Z (Qa Z (Q7 Z Z (Qr (by have := Int.lt_tmod_of_pos v (show 0 < n by omega); omega) (by have := Int.tmod_lt_of_pos v (show 0 < n by omega); omega)) (Qa Z (hK _ _ (Qb (kp1 Z) ?_)))))
   refine Qu (Qj (Qw Z ?_))
   rw [mPl, if_neg h1, Qe2, if_pos h2]
  ·try rw [h2]
   try simp only [qB] at h2
   refine Qv (Qd (kp1 Z) (Qe fun K hK => Qa Z (Qa Z (hK _ _ (Qb (kp1 Z) ?_)))))
   refine Qu (Qw Z ?_)
   rw [mPl, if_neg h1, Qe2, if_neg h2]
theorem Qdu {l : List Int} {i : Int} : Ok Tryz.prog 26 [dInts l, .int .i64 i] (.int .i64 (Qlp l i)) := by
 refine Ok.ofT ZY Tryz.func26 QpM (Nat.le_of_ble_eq_true Z) ?_
 show TW _ _ tf26.body _ _
 refine Qe fun K hK => Qa Z (hK _ _ (Qb (kp2 Z Z) ?_))
 refine QF ?_ -- 0
 refine Qe fun K hK => Qa Z (Z7 Z Z (Qa Z ?_))
 refine QA (g := 7) Z (fun h1 => ?_) (fun h1 => ?_)
 ·try rw [h1]
  try simp only [qA] at h1
  refine Qz Z (Qz Z (Qz Z (Qz Z (Qk Z Z (hK _ _ (Qb (kp3 Z Z Z) ?_))))))
  refine Zy Z (Qe fun K hK => Qa Z (QmO Z Z (by omega) (Qa Z (hK _ _ (Qb (kp1 Z) ?_)))))
  refine Qu (Qj (Qw Z ?_))
  rw [Qlp, if_pos (by omega)]
 ·try rw [h1]
  try simp only [qA] at h1
  refine Qi Z (Qa Z (Qi Z (Qa Z (Qi Z (QQ Z Z (Qi Z (QiT Z Z (Qk Z Z (hK _ _ (Qb (kp3 Z Z Z) ?_))))))))))
  refine Qx Z (fun h2 => ?_) (fun h2 => ?_)
  ·try rw [h2]
   try simp only [qA] at h2
   refine Qe fun K hK => Qa Z (QmO Z Z (by omega) (Qa Z (hK _ _ (Qb (kp1 Z) ?_))))
   refine Qu (Qj (Qw Z ?_))
   rw [Qlp, if_pos (by omega)]
  ·try rw [h2]
   try simp only [qA] at h2
   refine Qv (Qd (kp2 Z Z) (Qe fun K hK => Qa Z (Qa Z (QK Z Z Z (by omega) (Y1 (by omega) (by omega)) Z (QI Z Z Z (Qa Z (hK _ _ (Qb (kp1 Z) ?_))))))))
   refine Qu (Qw Z ?_)
   exact (QkH (by omega) (by omega)).symm
theorem XE {k : Nat} {L : List Int} {I n : Int} (hk : 1000000 <= k) (hL : ∀ x ∈ L, I64 x) (hn : n <= 9223372036854775807) (et : Nat) : OkH Tryz.prog 34 [.ref k 0 0, .int .i64 n] [(k, gB L I et)] (.int .i64 (nx L I n)) ((k, gB L (nxI I) et) :: [(k, gB L I et)]) := by
 refine OkH.lent hk ZY Tryz.func34 QpS (Nat.le_of_ble_eq_true Z) Z ?_
 show TW _ _ tf34.body _ _
 refine Qe fun K hK => Qa Z (hK _ _ (Qb (kp2 Z Z) ?_))
 refine Qe fun K hK => Qa Z (Z6 Z Z (Qn Z Qea (QI Z (Yg QdE Z) Z (Q7 Z Z Z (Z6 Z Z (Qn Z Qea (QX Z QdE Z Z Z Z Z Z (hK _ _ (Qb (kp2 Z Z) ?_)))))))))
 refine Qe fun K hK => Qa Z (Z6 Z Z (Qn Z Qea (Zl (ds0 := [3, 1, 0]) Z (Yg QdE Z) Z Z Z (Qa Z (Z6 Z Z (Qn Z Qea (Zl (ds0 := [4, 3, 1, 0]) Z (Yg QdE Z) Z Z Z (Qbn Z Z Z (Zi (ds0 := [1, 0]) (Qdu) Z Z (.inr Z) Z Z (Qa Z ?_))))))))))
 refine Zi (ds0 := [0]) (Yc hn (QlR hL (Qlm _))) Z Z (.inr Z) Z Z (Qa Z (hK _ _ (Qb (kp1 Z) ?_)))
 refine Qu ?_
 exact X9 rfl rfl (Qnu QdE)
end Go.Proofs
namespace Go.Proofs
open Go Go.Abs M3 M25
set_option linter.unusedVariables false
set_option linter.unusedSimpArgs false
end Go.Proofs
namespace Go.Proofs
open Go Go.Abs M3 M25
set_option linter.unusedVariables false
set_option linter.unusedSimpArgs false
theorem Yo  : Ok Tryz.prog 29 [] (.sl (versions.map dVr)) := by
 refine Ok.ofT ZY Tryz.func29 QpN (Nat.le_of_ble_eq_true Z) ?_
 show TW _ _ tf29.body _ _
 refine Qe fun K hK => Qa Z (hK _ _ (Qb (QT) ?_))
 refine Qe fun K hK => Q4 Z Z (Q4 Z Z (Q4 Z Z (Q4 Z Z (QM Z Z (Qa Z (hK _ _ (Qb (kp1 Z) ?_)))))))
 refine Qu (ZR Z ?_)
 rfl
end Go.Proofs
namespace M25
open Go Go.Abs M3
structure WantT where
 u : Int
 s : Qh2
structure CandT where
 v : Vr
 sh : Int
 ns : List (List WantT)
 bs : List WantT
structure YS where
 n : List UInt8
 f : List UInt8
 cs : List CandT
abbrev ZC := List YS
def Qfl (x : WantT) : List D := [.int .i64 x.u, ZP x.s.1, ZP x.s.2]
def Zb (l : List WantT) : D := .sl (l.map Qfl)
def QV (l : List (List WantT)) : D := .sl (l.map fun r => [Zb r])
def QoO (c : CandT) : List D := [.int .i64 c.v.a, .int .i64 c.v.b, .int .i64 c.v.c, .str c.v.p, .str c.v.q, .int .i64 c.sh, QV c.ns, Zb c.bs]
def Qi2 (l : List CandT) : D := .sl (l.map QoO)
def YW (u : YS) : List D := [.str u.n, .str u.f, Qi2 u.cs]
def QdS (w : ZC) : D := .agg [.sl (w.map YW)]
structure Qfi where
 u : Int
 m : Int
 deriving DecidableEq
structure Qbe where
 u : Int
 m : Int
 l : Int
 c : Int
 deriving DecidableEq
structure RowT where
 k : Int
 u : Int
 a : Int
 b : Int
 t : List Qfi
abbrev bor (a b : Int) : Int := Qcy .or .i64 a b
abbrev Qpv (a b : Int) : Int := Qcy .andNot .i64 a b
def uAt (w : ZC) (u : Int) : Option YS := if u < 0 then none else w[u.toNat]?
def Qod (w : ZC) (u : Int) : Int := match uAt w u with
 | none => 0
 | some x => 2 ^ (min x.cs.length 16 + 1) - 1
def QcH (v : Vr) : Prop := v.p.length <= 1000000 /\ v.q.length <= 1000000
structure WSm (w : ZC) : Prop where
 len : w.length <= 48
 cs : ∀ u ∈ w, u.cs.length <= 16
 vs : ∀ u ∈ w, ∀ c ∈ u.cs, QcH c.v
 ns : ∀ u ∈ w, ∀ c ∈ u.cs, c.ns.length <= 1000 /\ c.bs.length <= 1000
 nl : ∀ u ∈ w, ∀ c ∈ u.cs, ∀ r ∈ c.ns, r.length <= 1000
 nw : ∀ u ∈ w, ∀ c ∈ u.cs, ∀ r ∈ c.ns, ∀ x ∈ r, Sm x.s.1 /\ Sm x.s.2
 bw : ∀ u ∈ w, ∀ c ∈ u.cs, ∀ x ∈ c.bs, Sm x.s.1 /\ Sm x.s.2
def inW (w : ZC) (u : Int) : Bool := decide (0 <= u) && decide (u < w.length)
/-! ### Trails -/
def Qfs (w : ZC) (l : List Qbe) (u : Int) : Int := l.foldl (fun a s => if s.u = u /\ inW w u = true then s.m else a) (Qod w u)
def Qoe (l : List Qbe) : Int := match l.getLast? with
 | none => 0
 | some s => s.l
def QlT (l : List Qbe) (u : Int) : Bool := l.any fun s => decide (s.u = u) && decide (s.c = -1)
def QoS (w : ZC) (l : List Qbe) (inc : List Qfi) : Bool := inc.all fun t => decide (QhG (Qfs w l t.u) t.m = 2)
def Qgz (have_ : Int -> Int) : List Qfi -> Int -> Int
 | [], at_ => at_
 | t :: r, at_ => if QhG (have_ t.u) t.m = 0 then -1 else if QhG (have_ t.u) t.m = 1 then (if 0 <= at_ then -1 else Qgz have_ r t.u) else Qgz have_ r at_
def Qof (w : ZC) (l : List Qbe) (inc : List Qfi) : Int := Qgz (Qfs w l) inc (-1)
def QjB (w : ZC) (l : List Qbe) : Nat -> List (List Qfi) -> Int × Int
 | _, [] => (-1, -1)
 | i, x :: r => if QoS w l x = true then (i, -1) else if 0 <= Qof w l x then (i, Qof w l x) else QjB w l (i + 1) r
def QoR (w : ZC) (db : List (List Qfi)) (l : List Qbe) : Int × Int := QjB w l 0 db
end M25
namespace M25
open Go Go.Abs M3
section
variable {fr : List (Nat × D)} {H : List (Nat × Box)} {t u : Nat}
theorem Qlw {k n : Nat} {b : Box} {d : D} (hb : lk H k = some b) (hp : b.pr = true) (hn : n = b.rows.length) (hd : .sl b.rows = d) : Qad ⟨fr, H⟩ (.osl k n) = d := by
 unfold Qad; rw [QoQ (S := Qdr) rfl hb hp hn]; exact hd
theorem Qaq {e : YE} {k n : Nat} {b : Box} {d : D} (h : lk fr t = some (.osl k n)) (hb : lk H k = some b) (hp : b.pr = true) (hn : n = b.rows.length) (hd : .sl b.rows = d) (he : e = .ret \/ e = .normal := by first | exact .inl rfl | exact .inr rfl) : Post [.tmp t] d e ⟨fr, H⟩ :=
 ZR h (Qlw hb hp hn hd) he
end
theorem QhZ {α : Type} {a b : List α} {i : Nat} (ha : i < a.length) (hb : i < b.length) (h : a.take i = b.take i) (he : a[i] = b[i]) : a.take (i + 1) = b.take (i + 1) := by
 rw [List.take_succ_eq_append_getElem ha, List.take_succ_eq_append_getElem hb, h, he]
theorem Qk8 {α : Type} [DecidableEq α] {a b : List α} {i : Nat} (ha : i < a.length) (hb : i < b.length) (he : ¬ a[i] = b[i]) : decide (a = b) = false := decide_eq_false fun e => he (by subst e; rfl)
theorem QgQ {e : Int} (h1 : 0 <= e) (h2 : e <= 18446744073709551615) : IntKind.u64.wrap e = e := by
 unfold IntKind.wrap
 simp only [IntKind.bits, IntKind.signed, Bool.false_and, Bool.false_eq_true, if_false]
 omega
end M25
namespace Go.Proofs
open Go Go.Abs M3 M25
set_option linter.unusedVariables false
set_option linter.unusedSimpArgs false
end Go.Proofs
namespace M25
open Go Go.Abs M3
end M25
namespace M25
open Go Go.Abs M3
/-! ### Bits of numbers -/
def tb (x : Int) (i : Nat) : Bool := (BitVec.ofInt 64 x).getLsbD i
def Lo (x : Int) : Prop := 0 <= x /\ x < 131072
end M25
namespace M25
open Go Go.Abs M3
/-! ### Trails: the loops' laws -/
def QnN (w : ZC) (l : List Qbe) : Prop := ∀ s ∈ l, Lo s.m
end M25
namespace M25
open Go Go.Abs M3
theorem Qln {v : Int} (h : (v + 1).toNat <= 61) : IntKind.i64.wrap ((1 : Int) * 2 ^ min (v + 1).toNat IntKind.i64.bits) = 2 ^ (v + 1).toNat := by
 rw [show min (v + 1).toNat IntKind.i64.bits = (v + 1).toNat from by simp only [IntKind.bits]; omega, Int.one_mul]
 have := Qnm (i := (v + 1).toNat) (by omega)
 exact Qr (by omega) (by omega)
end M25
namespace Go.Proofs
open Go Go.Abs M3 M25
set_option linter.unusedVariables false
set_option linter.unusedSimpArgs false
end Go.Proofs
namespace M25
open Go Go.Abs M3
/-! ### prop: what is left of each unit, scans -/
structure QnM (w : ZC) (db : List (List Qfi)) (l : List Qbe) (a : Nat) (k : Nat) : Prop where
  ha : a < db.length
  hk : k < db[a].length
  eq : QoR w db l = ((a : Int), db[a][k].u)
  one : QhG (Qfs w l db[a][k].u) db[a][k].m = 1
  two : ∀ j, ∀ hj : j < db[a].length, j ≠ k -> QhG (Qfs w l db[a][j].u) db[a][j].m = 2
def Qpw (w : ZC) (l : List Qbe) (t : Qfi) (c : Int) : Qbe := ⟨t.u, Qpv (Qfs w l t.u) t.m, Qoe l, c⟩
end M25
namespace M25
open Go Go.Abs M3
/-! ### Sets that are made: moderate sizes -/
theorem QlJ (l : List (Cu × Cu)) (x y : Cu) : (QbG l x y).length <= l.length + 1 := QhC l x y
theorem Qgh (f : Cu -> Cu -> Bool) : ∀ (c : List Cu) (out : List (Cu × Cu)), (∀ x ∈ c, Cu.sm x) -> (∀ s ∈ out, Cu.sm s.1 /\ Cu.sm s.2) -> (QbE f c out).length <= out.length + c.length /\ ∀ s ∈ QbE f c out, Cu.sm s.1 /\ Cu.sm s.2
 | [], out, _, h => ⟨by simp [QbE], by simpa [QbE] using h⟩
 | [x], out, _, h => ⟨by simp [QbE], by simpa [QbE] using h⟩
 | x :: y :: r, out, hc, h => by
  rw [QbE]
  have hxy := QlJ out x y
  split
  ·obtain ⟨h1, h2⟩ := Qgh f (y :: r) (QbG out x y) (fun z hz => hc z (by simp at hz ⊢; exact .inr hz)) (Qjn h (hc x (by simp)) (hc y (by simp)))
   exact ⟨by simp only [List.length_cons] at h1 ⊢; omega, h2⟩
  ·obtain ⟨h1, h2⟩ := Qgh f (y :: r) out (fun z hz => hc z (by simp at hz ⊢; exact .inr hz)) h
   exact ⟨by simp only [List.length_cons] at h1 ⊢; omega, h2⟩
def SmN (n : Nat) (l : List (Cu × Cu)) : Prop := l.length <= n /\ ∀ s ∈ l, Cu.sm s.1 /\ Cu.sm s.2
theorem SmN.sm {n : Nat} {l : List (Cu × Cu)} (h : SmN n l) (hn : n <= 1000000) : Sm l := ⟨Nat.le_trans h.1 hn, h.2⟩
theorem SmN.up {n m : Nat} {l : List (Cu × Cu)} (h : SmN n l) (hn : n <= m) : SmN m l := ⟨Nat.le_trans h.1 hn, h.2⟩
theorem SmN.nil (n : Nat) : SmN n [] := ⟨Nat.zero_le _, by simp⟩
theorem Qmz {a b : List (Cu × Cu)} {n m : Nat} (ha : SmN n a) (hb : SmN m b) (h : n + m <= 1000000) : SmN (2 + 2 * (n + m)) (Qmu a b) := by
 unfold Qmu
 split
 ·have hab : Sm (a ++ b) := (ha.sm (by omega)).app (hb.sm (by omega)) (by have := ha.1; have := hb.1; omega)
  unfold Qiu
  split
  ·obtain ⟨h1, h2⟩ := Qgh (mIn (a ++ b)) (YP (a ++ b)) [] (Yw hab) (by simp)
   have := QbD (a ++ b)
   have := ha.1
   have := hb.1
   exact ⟨by simp only [List.length_nil, List.length_append] at *; omega, h2⟩
  ·exact SmN.nil _
 ·exact SmN.nil _
theorem QkN {a : List (Cu × Cu)} {n : Nat} (ha : SmN n a) (h : n <= 1000000) : SmN (2 + 2 * n) (Qiv a) := by
 unfold Qiv
 split
 ·obtain ⟨h1, h2⟩ := Qgh (fun x y => !mIn a x y) (YP a) [] (Yw (ha.sm h)) (by simp)
  have := QbD a
  have := ha.1
  exact ⟨by simp only [List.length_nil] at *; omega, h2⟩
 ·exact SmN.nil _
def QjJ (n : Nat) (s : Qh2) : Prop := SmN n s.1 /\ SmN n s.2
theorem Qoh {a b : Qh2} {n m : Nat} (ha : QjJ n a) (hb : QjJ m b) (h : n + m <= 1000000) : QjJ (2 + 2 * (n + m)) (Qmv a b) := by
 unfold Qmv
 split
 ·exact ⟨Qmz ha.1 hb.1 h, Qmz ha.2 hb.2 h⟩
 ·exact ⟨SmN.nil _, SmN.nil _⟩
theorem QkO {a : Qh2} {n : Nat} (ha : QjJ n a) (h : n <= 1000000) : QjJ (2 + 2 * n) (Qgv a) := by
 unfold Qgv
 split
 ·exact ⟨QkN ha.1 h, QkN ha.2 h⟩
 ·exact ⟨SmN.nil _, SmN.nil _⟩
theorem Qb3 (e a b c : Int) (f : Bool) : Cu.sm ⟨e, a, b, c, [], [], f⟩ := ⟨Nat.zero_le _, Nat.zero_le _⟩
theorem QbW {a b c : Int} {p q : List UInt8} (hp : p.length <= 1000000) : QjJ 1 (Xa a b c p q) := by
 unfold Xa
 split
 ·exact ⟨SmN.nil _, SmN.nil _⟩
 ·split
  ·refine ⟨SmN.nil _, ⟨Nat.le_refl _, fun s hs => ?_⟩⟩
   simp only [List.mem_singleton] at hs; subst hs
   exact ⟨⟨hp, Nat.zero_le _⟩, ⟨hp, Nat.zero_le _⟩⟩
  ·refine ⟨⟨Nat.le_refl _, fun s hs => ?_⟩, SmN.nil _⟩
   simp only [List.mem_singleton] at hs; subst hs
   constructor
   ·unfold QeZ; split
    ·exact Qb3 ..
    ·exact Qb3 ..
   ·unfold Qc8; split
    ·exact Qb3 ..
    ·exact Qb3 ..
def Qka : Qh2 := ([(Qck, Qfq)], [(Qck, Qfq)])
theorem Qmj : QjJ 1 Qka := by
 have h : SmN 1 [(Qck, Qfq)] := ⟨Nat.le_refl _, fun s hs => by simp only [List.mem_singleton] at hs; subst hs; exact ⟨Qb3 .., Qb3 ..⟩⟩
 exact ⟨h, h⟩
def bnd (i : Nat) : Nat := 4 * 2 ^ i
theorem Qmm {i : Nat} (h : i <= 16) : bnd i <= 262144 := by
 have : 2 ^ i <= 2 ^ 16 := Nat.pow_le_pow_right (by omega) h
 have e : (2 : Nat) ^ 16 = 65536 := by decide
 unfold bnd; omega
theorem Qom {s : Qh2} {i : Nat} (h : QjJ (bnd i - 4) s) {a b c : Int} {p q : List UInt8} (hp : p.length <= 1000000) (hi : i <= 16) : QjJ (bnd (i + 1) - 4) (Qmv s (Xa a b c p q)) := by
 have h1 := Qmm hi
 have h4 : 4 <= bnd i := by unfold bnd; have := Nat.one_le_two_pow (n := i); omega
 have := Qoh h (QbW (a := a) (b := b) (c := c) (q := q) hp) (by omega)
 have e : bnd (i + 1) = 2 * bnd i := by unfold bnd; rw [Nat.pow_succ]; omega
 exact ⟨this.1.up (by omega), this.2.up (by omega)⟩
theorem Ql9 {s : Qh2} {i : Nat} (h : QjJ (bnd i - 4) s) : QjJ (bnd (i + 1) - 4) s := by
 have e : bnd (i + 1) = 2 * bnd i := by unfold bnd; rw [Nat.pow_succ]; omega
 exact ⟨h.1.up (by omega), h.2.up (by omega)⟩
def SetOk (s : Qh2) : Prop := QjJ 600000 s
theorem SetOk.sm {s : Qh2} (h : SetOk s) : Sm s.1 /\ Sm s.2 := ⟨h.1.sm (by omega), h.2.sm (by omega)⟩
structure CR where
 v : Vr
 x : D
 y : D
 z : D
def dCR (r : CR) : List D := [.int .i64 r.v.a, .int .i64 r.v.b, .int .i64 r.v.c, .str r.v.p, .str r.v.q, r.x, r.y, r.z]
def CR.ren (r : CR) : CR := ⟨r.v, r.x.renS upN, r.y.renS upN, r.z.renS upN⟩
theorem Qkf (l : List CR) : (l.map dCR).map (fun r => r.map (D.renS upN)) = (l.map CR.ren).map dCR := by
 rw [List.map_map, List.map_map]; rfl
structure UR where
 n : List UInt8
 f : List UInt8
 k : Nat
 cs : List CR
def dUR (u : UR) : List D := [.str u.n, .str u.f, .osl u.k u.cs.length]
def UR.ren (u : UR) : UR := ⟨u.n, u.f, upN u.k, u.cs.map CR.ren⟩
theorem Qm8 (l : List UR) : (l.map dUR).map (fun r => r.map (D.renS upN)) = (l.map UR.ren).map dUR := by
 rw [List.map_map, List.map_map]
 refine List.map_congr_left fun u _ => ?_
 simp [dUR, UR.ren, D.renS]
structure Fam (H : List (Nat × Box)) (kg ku eu ec : Nat) (us : List UR) : Prop where
 ne : ku ≠ kg
 u : ∃ pr, lk H ku = some ⟨us.map dUR, 3, eu, pr⟩
 c : ∀ y ∈ us, y.k ≠ kg /\ ∃ pr, lk H y.k = some ⟨y.cs.map dCR, 8, ec, pr⟩
 v : ∀ y ∈ us, y.cs.length <= 16 /\ ∀ z ∈ y.cs, QcH z.v
theorem Fam.up {H : List (Nat × Box)} {kg ku eu ec : Nat} {us : List UR} (h : Fam H kg ku eu ec us) : Fam (upH H) (upN kg) (upN ku) eu ec (us.map UR.ren) := by
 obtain ⟨h1, ⟨pu, h2⟩, h3, h4⟩ := h
 refine ⟨fun e => h1 (QiM e), ⟨pu, ?_⟩, fun y hy => ?_, fun y hy => ?_⟩
 ·rw [Qao, h2, Option.map_some, Box.ren, Qm8]
 ·obtain ⟨u, hu, rfl⟩ := List.mem_map.1 hy
  obtain ⟨q1, pr, q2⟩ := h3 u hu
  refine ⟨fun e => q1 (QiM e), pr, ?_⟩
  show lk (upH H) (upN u.k) = _
  rw [Qao, q2, Option.map_some, Box.ren, Qkf]; rfl
 ·obtain ⟨u, hu, rfl⟩ := List.mem_map.1 hy
  obtain ⟨q1, q2⟩ := h4 u hu
  refine ⟨by simpa [UR.ren] using q1, fun z hz => ?_⟩
  obtain ⟨z0, hz0, rfl⟩ := List.mem_map.1 hz
  exact q2 z0 hz0
theorem Fam.cons {H : List (Nat × Box)} {kg ku eu ec : Nat} {us : List UR} (h : Fam H kg ku eu ec us) {b : Box} : Fam ((kg, b) :: H) kg ku eu ec us := by
 obtain ⟨h1, ⟨pu, h2⟩, h3, h4⟩ := h
 exact ⟨h1, ⟨pu, Ql (Ne.symm h1) h2⟩, fun y hy => let ⟨q1, pr, q2⟩ := h3 y hy; ⟨q1, pr, Ql (Ne.symm q1) q2⟩, h4⟩
def WantIn (n : Nat) (x : WantT) : Prop := 1 <= x.u /\ x.u < n /\ SetOk x.s
def Qg3 (n : Nat) (r : List WantT) : Prop := r.length <= 2 /\ ∀ x ∈ r, WantIn n x
def Qel (n : Nat) (m : Int) (ns : List (List WantT)) : Prop := (ns.length : Int) <= m /\ ∀ r ∈ ns, Qg3 n r
theorem Qnn {n : Nat} {x : WantT} (h : WantIn n x) : Qg3 n [x] := ⟨by simp, by intro y hy; simp only [List.mem_singleton] at hy; subst hy; exact h⟩
theorem Qno {n : Nat} {x y : WantT} (h : WantIn n x) (h' : WantIn n y) : Qg3 n [x, y] := ⟨by simp, by
 intro z hz
 simp only [List.mem_cons, List.not_mem_nil, or_false] at hz
 rcases hz with rfl | rfl
 ·exact h
 ·exact h'⟩
theorem Qk4 {n : Nat} {ns : List (List WantT)} {r : List WantT} (h : ∀ r ∈ ns, Qg3 n r) (hr : Qg3 n r) : ∀ x ∈ ns ++ [r], Qg3 n x := fun x hx => by
 rcases List.mem_append.1 hx with hx | hx
 ·exact h x hx
 ·simp only [List.mem_singleton] at hx; subst hx; exact hr
end M25
namespace M25
open Go Go.Abs M3
/-! ### The boxes of a world under way -/
def fbx (ec : Nat) (us : List UR) : List (Nat × Box) := us.map fun u => (u.k, ⟨u.cs.map dCR, 8, ec, true⟩)
def Z4 (us : List UR) : Prop := ∀ j, ∀ h : j < us.length, us[j].k = 500001 + j
theorem Qhw {us : List UR} {u : UR} (h : Z4 us) (hu : u.k = 500001 + us.length) : Z4 (us ++ [u]) := fun j hj => by
 rw [List.length_append, List.length_singleton] at hj
 by_cases e : j < us.length
 ·rw [List.getElem_append_left e]; exact h j e
 ·have : j = us.length := by omega
  subst this
  rw [List.getElem_append_right (Nat.le_refl _)]; simpa using hu
theorem QeJ (ec : Nat) (us : List UR) : Qlt (fbx ec us) := fun p hp => by
 obtain ⟨u, _, rfl⟩ := List.mem_map.1 hp; rfl
theorem QfN {ec : Nat} : ∀ {us : List UR} {k : Nat} {b : Box}, lk (fbx ec us) k = some b -> ∃ u ∈ us, k = u.k /\ b = ⟨u.cs.map dCR, 8, ec, true⟩
 | [], _, _, h => by cases h
 | u :: us, k, b, h => by
  simp only [fbx, List.map_cons] at h
  rw [Qm] at h
  split at h
  ·rename_i e; cases h; exact ⟨u, by simp, e.symm, rfl⟩
  ·obtain ⟨v, hv, q⟩ := QfN (us := us) h
   exact ⟨v, by simp [hv], q⟩
theorem QaY {us : List UR} (h : Z4 us) {u : UR} (hu : u ∈ us) : 500001 <= u.k /\ u.k < 500001 + us.length := by
 obtain ⟨j, hj, rfl⟩ := List.getElem_of_mem hu
 have := h j hj
 omega
theorem Qgf {ec : Nat} {us : List UR} (h : Z4 us) : Qpo 500001 (fbx ec us) := fun k b hk => by
 obtain ⟨u, hu, rfl, _⟩ := QfN hk
 exact (QaY h hu).1
theorem YN {ec : Nat} {us : List UR} (h : Z4 us) {k : Nat} (hk : k < 500001 \/ 500001 + us.length <= k) : lk (fbx ec us) k = none := by
 cases hh : lk (fbx ec us) k with
 | none => rfl
 | some b =>
  obtain ⟨u, hu, rfl, _⟩ := QfN hh
  have := QaY h hu
  omega
theorem Qkl {ec : Nat} : ∀ {us : List UR} {n : Nat}, (∀ j, ∀ h : j < us.length, us[j].k = n + j) -> ∀ j, ∀ h : j < us.length, lk (fbx ec us) (n + j) = some ⟨us[j].cs.map dCR, 8, ec, true⟩
 | [], _, _, j, hj => by simp at hj
 | u :: us, n, hk, 0, _ => by
  have := hk 0 (by simp)
  simp only [List.getElem_cons_zero, Nat.add_zero] at this
  simp only [fbx, List.map_cons, Nat.add_zero]
  rw [Qm, if_pos this]; rfl
 | u :: us, n, hk, j + 1, hj => by
  have h0 := hk 0 (by simp)
  simp only [List.getElem_cons_zero, Nat.add_zero] at h0
  simp only [fbx, List.map_cons]
  rw [Qm, if_neg (by omega)]
  have := Qkl (ec := ec) (us := us) (n := n + 1) (fun i hi => by
   have := hk (i + 1) (by simpa using hi)
   simp only [List.getElem_cons_succ] at this
   omega) j (by simpa using hj)
  rw [show n + 1 + j = n + (j + 1) by omega] at this
  simp only [List.getElem_cons_succ]
  exact this
theorem Qkk {ec : Nat} {us : List UR} (h : Z4 us) {j : Nat} (hj : j < us.length) : lk (fbx ec us) (500001 + j) = some ⟨us[j].cs.map dCR, 8, ec, true⟩ := Qkl h j hj
theorem Qi8 (ec : Nat) (us : List UR) (u : UR) : fbx ec (us ++ [u]) = fbx ec us ++ [(u.k, ⟨u.cs.map dCR, 8, ec, true⟩)] := by simp [fbx]
theorem QlC {ec : Nat} {us : List UR} (h : Z4 us) {kg : Nat} {x y : Box} {u : UR} (hu : u.k = 500001 + us.length) (hkg : u.k ≠ kg) (k : Nat) :
  lk ((u.k, ⟨u.cs.map dCR, 8, ec, true⟩) :: (500000, x) :: (kg, y) :: fbx ec us) k = lk ((500000, x) :: (kg, y) :: fbx ec (us ++ [u])) k := by
 rw [Qi8]
 by_cases e : u.k = k
 ·subst e
  rw [Qy, Qm, if_neg (by omega), Qm, if_neg (Ne.symm hkg), YO (YN h (.inr (by omega))), Qy]
 ·rw [Qm, if_neg e, Qm, Qm, Qm, Qm]
  split
  ·rfl
  ·split
   ·rfl
   ·rw [ZV]
    cases h2 : lk (fbx ec us) k with
    | some v => rfl
    | none => rw [Qm, if_neg e]; rfl
def zr (v : Vr) (sh : Int) : CR := ⟨v, .int .i64 sh, .fsl [], .fsl []⟩
def QnK (u : UR) : Prop := u.cs.length <= 4 /\ ∀ z ∈ u.cs, ∃ v sh, z = zr v sh /\ QcH v
theorem Qmq {u : UR} : (dUR u).flatMap D.sid = [u.k] := by simp [dUR, D.sid]
theorem Qa8 {us : List UR} {e et : Nat} {k : Nat} (h : k ∈ (Box.ids ⟨us.map dUR, e, et, false⟩)) : ∃ u ∈ us, k = u.k := by
 simp only [Box.ids, Bool.false_eq_true, if_false, List.mem_flatMap, List.mem_map] at h
 obtain ⟨r, ⟨u, hu, rfl⟩, hk⟩ := h
 have : k ∈ (dUR u).flatMap D.sid := List.mem_flatMap.2 hk
 rw [Qmq] at this
 exact ⟨u, hu, by simpa using this⟩
theorem Qnx {us : List UR} (h : Z4 us) : ∀ r ∈ us.map dUR, ∀ d ∈ r, 500000 ∉ d.sid := fun r hr d hd hk => by
 obtain ⟨u, hu, rfl⟩ := List.mem_map.1 hr
 have : 500000 ∈ (dUR u).flatMap D.sid := List.mem_flatMap.2 ⟨d, hd, hk⟩
 rw [Qmq] at this
 have h2 := QaY h hu
 simp only [List.mem_singleton] at this
 omega
theorem Qf3 {B F : List (Nat × Box)} {j : Nat} (h : (lk F j).isSome = true) : (lk (B ++ F) j).isSome = true := by
 rw [ZV]; split
 ·rfl
 ·exact h
theorem QcZ {ec : Nat} {us : List UR} (h : Z4 us) {u : UR} (hu : u ∈ us) : (lk (fbx ec us) u.k).isSome = true := by
 obtain ⟨j, hj, rfl⟩ := List.getElem_of_mem hu
 rw [h j hj, Qkk h hj]; rfl
theorem Qgg {ec : Nat} {us : List UR} {u : UR} (h : Z4 us) (hu : u.k = 500001 + us.length) : lk (fbx ec (us ++ [u])) (500001 + us.length) = some ⟨u.cs.map dCR, 8, ec, true⟩ := by
 rw [Qi8, YO (YN h (.inr (Nat.le_refl _))), <- hu, Qy]
section
variable {l : List Nat} {fr fr1 fr' : List (Nat × D)} {B : List (Nat × Box)} {kg eg eu ec : Nat} {L : List Int} {J : Int} {us : List UR}
theorem Qpt (hf : Ze l fr = fr1) (ef : fr1 = fr') (hK : Z4 us) (hu : lk B 500000 = some ⟨us.map dUR, 3, eu, false⟩) (hg : lk B kg = some (gB L J eg)) (hB : ∀ p ∈ B, 500001 <= p.1 -> p.1 = kg) (hkg : kg ≠ 500000)
  (hfr : ∀ p ∈ fr', ∀ k ∈ p.2.ids, k = 500000 \/ k = kg \/ ∃ u ∈ us, k = u.k) : St.le ⟨fr, B ++ fbx ec us⟩ ⟨fr', [(500000, ⟨us.map dUR, 3, eu, false⟩), (kg, gB L J eg)] ++ fbx ec us⟩ := by
 have s0 : ∀ k, (k = 500000 \/ k = kg \/ ∃ u ∈ us, k = u.k) -> (lk ([(500000, (⟨us.map dUR, 3, eu, false⟩ : Box)), (kg, gB L J eg)] ++ fbx ec us) k).isSome = true := fun k hk => by
  rcases hk with rfl | rfl | ⟨u, hu, rfl⟩
  ·exact QY
  ·exact QW QY
  ·exact Qf3 (QcZ hK hu)
 refine Qir (N := 500001) hf ef (fun p hp => ?_) rfl (fun p hp j hj => s0 j ?_) (fun p hp h => ?_) (Qgf hK) (QeJ ec us) (fun p hp k hk => s0 k (hfr p hp k hk))
 ·simp only [List.mem_cons, List.not_mem_nil, or_false] at hp
  rcases hp with rfl | rfl
  ·exact hu
  ·exact hg
 ·simp only [List.mem_cons, List.not_mem_nil, or_false] at hp
  rcases hp with rfl | rfl
  ·exact .inr (.inr (Qa8 hj))
  ·simp [Box.ids, gB] at hj
 ·rw [hB p hp h]; exact QW QY
theorem QnI {cs : List CR} (hf : Ze l fr = fr1) (ef : fr1 = fr') (hK : Z4 us) (hc : lk B (500001 + us.length) = some ⟨cs.map dCR, 8, ec, true⟩) (hu : lk B 500000 = some ⟨us.map dUR, 3, eu, false⟩) (hg : lk B kg = some (gB L J eg)) (hB : ∀ p ∈ B, 500001 <= p.1 -> p.1 = kg \/ p.1 = 500001 + us.length)
  (hfr : ∀ p ∈ fr', ∀ k ∈ p.2.ids, k = 500000 \/ k = kg \/ k = 500001 + us.length \/ ∃ u ∈ us, k = u.k) : St.le ⟨fr, B ++ fbx ec us⟩ ⟨fr', [(500001 + us.length, ⟨cs.map dCR, 8, ec, true⟩), (500000, ⟨us.map dUR, 3, eu, false⟩), (kg, gB L J eg)] ++ fbx ec us⟩ := by
 have s0 : ∀ k, (k = 500000 \/ k = kg \/ k = 500001 + us.length \/ ∃ u ∈ us, k = u.k) -> (lk ([(500001 + us.length, (⟨cs.map dCR, 8, ec, true⟩ : Box)), (500000, (⟨us.map dUR, 3, eu, false⟩ : Box)), (kg, gB L J eg)] ++ fbx ec us) k).isSome = true := fun k hk => by
  rcases hk with rfl | rfl | rfl | ⟨u, hu, rfl⟩
  ·exact QW QY
  ·exact QW (QW QY)
  ·exact QY
  ·exact Qf3 (QcZ hK hu)
 refine Qir (N := 500001) hf ef (fun p hp => ?_) rfl (fun p hp j hj => s0 j ?_) (fun p hp h => ?_) (Qgf hK) (QeJ ec us) (fun p hp k hk => s0 k (hfr p hp k hk))
 ·simp only [List.mem_cons, List.not_mem_nil, or_false] at hp
  rcases hp with rfl | rfl | rfl
  ·exact hc
  ·exact hu
  ·exact hg
 ·simp only [List.mem_cons, List.not_mem_nil, or_false] at hp
  rcases hp with rfl | rfl | rfl
  ·simp [Box.ids] at hj
  ·exact .inr (.inr (.inr (Qa8 hj)))
  ·simp [Box.ids, gB] at hj
 ·rcases hB p hp h with e | e
  ·rw [e]; exact QW (QW QY)
  ·rw [e]; exact QY
theorem Qos {u : UR} (hf : Ze l fr = fr1) (ef : fr1 = fr') (hK : Z4 us) (huk : u.k = 500001 + us.length) (hc : lk B (500001 + us.length) = some ⟨u.cs.map dCR, 8, ec, true⟩) (hu : lk B 500000 = some ⟨(us ++ [u]).map dUR, 3, eu, false⟩) (hg : lk B kg = some (gB L J eg)) (hB : ∀ p ∈ B, 500001 <= p.1 -> p.1 = kg \/ p.1 = 500001 + us.length) (hkg : 1000000 <= kg) (hlen : us.length <= 100)
  (hfr : ∀ p ∈ fr', ∀ k ∈ p.2.ids, k = 500000 \/ k = kg \/ ∃ v ∈ us ++ [u], k = v.k) : St.le ⟨fr, B ++ fbx ec us⟩ ⟨fr', [(500000, ⟨(us ++ [u]).map dUR, 3, eu, false⟩), (kg, gB L J eg)] ++ fbx ec (us ++ [u])⟩ := by
 have hK1 := Qhw hK huk
 have mv := fun k => QlC (ec := ec) hK (kg := kg) (x := ⟨(us ++ [u]).map dUR, 3, eu, false⟩) (y := gB L J eg) huk (by omega) k
 have s0 : ∀ k, (k = 500000 \/ k = kg \/ ∃ v ∈ us ++ [u], k = v.k) -> (lk ([(u.k, (⟨u.cs.map dCR, 8, ec, true⟩ : Box)), (500000, (⟨(us ++ [u]).map dUR, 3, eu, false⟩ : Box)), (kg, gB L J eg)] ++ fbx ec us) k).isSome = true := fun k hk => by
  show (lk ((u.k, _) :: (500000, _) :: (kg, _) :: fbx ec us) k).isSome = true
  rw [mv]
  rcases hk with rfl | rfl | ⟨v, hv, rfl⟩
  ·exact QY
  ·exact QW QY
  ·exact QW (QW (QcZ hK1 hv))
 refine le_trans (Qir (N := 500001) (A' := [(u.k, ⟨u.cs.map dCR, 8, ec, true⟩), (500000, ⟨(us ++ [u]).map dUR, 3, eu, false⟩), (kg, gB L J eg)]) hf ef (fun p hp => ?_) rfl (fun p hp j hj => s0 j ?_) (fun p hp h => ?_) (Qgf hK) (QeJ ec us) (fun p hp k hk => s0 k (hfr p hp k hk))) (Qip ⟨fun _ => rfl, mv⟩)
 ·simp only [List.mem_cons, List.not_mem_nil, or_false] at hp
  rcases hp with rfl | rfl | rfl
  ·rw [huk]; exact hc
  ·exact hu
  ·exact hg
 ·simp only [List.mem_cons, List.not_mem_nil, or_false] at hp
  rcases hp with rfl | rfl | rfl
  ·simp [Box.ids] at hj
  ·exact .inr (.inr (Qa8 hj))
  ·simp [Box.ids, gB] at hj
 ·rcases hB p hp h with e | e
  ·rw [e]; exact QW (QW QY)
  ·rw [e, <- huk]; exact QY
end
def u0 (v : Vr) : UR := ⟨[], [], 500001, [zr v (-1)]⟩
def v0 : Vr := ⟨0, 0, 0, [], []⟩
theorem Qmd {kg a b : Nat} (h : 1000000 <= kg) (ha : a < 1000000) (hb : b < 1000000) : Qbj a b kg = kg := by
 unfold Qbj; rw [if_neg (by omega), if_neg (by omega)]
theorem QkF {l : List Nat} {fr fr1 fr' : List (Nat × D)} {kg eg eu ec : Nat} {L : List Int} {I : Int} (hkg : 1000000 <= kg) (hf : Ze l fr = fr1) (ef : fr1.map (fun p => (p.1, (p.2.ren (Qbj 18 500000)).ren (Qbj 16 500001))) = fr') :
  St.le ⟨fr, [(18, ⟨[[.str [], .str [], .osl 16 1]], 3, eu, false⟩), (16, ⟨[dCR (zr v0 (-1))], 8, ec, true⟩), (kg, gB L I eg)]⟩ ⟨fr', [(500000, ⟨[u0 v0].map dUR, 3, eu, false⟩), (kg, gB L I eg)] ++ fbx ec [u0 v0]⟩ := by
 subst hf ef
 have k1 := Qmd (a := 18) (b := 500000) hkg (by decide) (by decide)
 have k2 := Qmd (a := 16) (b := 500001) hkg (by decide) (by decide)
 refine le_trans (QbA l fr _) (le_trans (Qiq 18 500000 (by decide) (by decide) _) (le_trans (Qiq 16 500001 (by decide) (by decide) _) ?_))
 have hH : ∀ k, lk ([(500000, (⟨[u0 v0].map dUR, 3, eu, false⟩ : Box)), (kg, gB L I eg)] ++ fbx ec [u0 v0]) k = lk (QgU (Qbj 16 500001) (QgU (Qbj 18 500000) [(18, ⟨[[.str [], .str [], .osl 16 1]], 3, eu, false⟩), (16, ⟨[dCR (zr v0 (-1))], 8, ec, true⟩), (kg, gB L I eg)])) k := fun k => by
  have e : QgU (Qbj 16 500001) (QgU (Qbj 18 500000) [(18, (⟨[[.str [], .str [], .osl 16 1]], 3, eu, false⟩ : Box)), (16, ⟨[dCR (zr v0 (-1))], 8, ec, true⟩), (kg, gB L I eg)]) = [(500000, ⟨[u0 v0].map dUR, 3, eu, false⟩), (500001, ⟨[dCR (zr v0 (-1))], 8, ec, true⟩), (kg, gB L I eg)] := by
   simp only [QgU, List.map_cons, List.map_nil, k1, k2]; rfl
  rw [e]
  show lk ((500000, _) :: (kg, _) :: (500001, _) :: []) k = _
  rw [Qm, Qm, Qm, Qm, Qm, Qm]
  by_cases h1 : 500000 = k
  ·rw [if_pos h1, if_pos h1]
  ·rw [if_neg h1, if_neg h1]
   by_cases h2 : kg = k
   ·rw [if_pos h2, if_neg (by omega), if_pos h2]
   ·rw [if_neg h2, if_neg h2]; rfl
 refine QaZ (by simp only [St.ren, List.map_map]; rfl) fun k => (hH k).symm
def names5 : List (List UInt8) := [[97, 110, 116], [98, 101, 101], [99, 111, 119], [100, 111, 103], [101, 108, 107]]
theorem Zc : names5.length = 5 := rfl
theorem QbQ : versions.length = 4 := rfl
theorem Qlh {i : Nat} (h : i < versions.length) : QcH versions[i] := by
 have := QiN _ (List.getElem_mem h)
 exact ⟨Nat.le_trans this.1 (by omega), Nat.le_trans this.2 (by omega)⟩
structure UnitsIn (us : List UR) : Prop where
 keys : Z4 us
 fresh : ∀ u ∈ us, QnK u
 first : ∃ z rest, us = ⟨[], [], 500001, [z]⟩ :: rest
theorem UnitsIn.zero : UnitsIn [u0 v0] := by
 refine ⟨fun j hj => ?_, fun u hu => ?_, ⟨zr v0 (-1), [], rfl⟩⟩
 ·have : j = 0 := by simp at hj; exact hj
  subst this; rfl
 ·simp only [List.mem_singleton] at hu; subst hu
  refine ⟨by simp [u0], fun z hz => ?_⟩
  simp only [u0, List.mem_singleton] at hz; subst hz
  exact ⟨v0, -1, rfl, ⟨Nat.zero_le _, Nat.zero_le _⟩⟩
theorem UnitsIn.snoc {us : List UR} (h : UnitsIn us) {n f : List UInt8} {cs : List CR} (hc : cs.length <= 4) (hz : ∀ z ∈ cs, ∃ v sh, z = zr v sh /\ QcH v) : UnitsIn (us ++ [⟨n, f, 500001 + us.length, cs⟩]) := by
 obtain ⟨h1, h2, z, rest, h3⟩ := h
 refine ⟨Qhw h1 rfl, fun u hu => ?_, z, rest ++ [⟨n, f, 500001 + us.length, cs⟩], by rw [h3]; rfl⟩
 rcases List.mem_append.1 hu with hu | hu
 ·exact h2 u hu
 ·simp only [List.mem_singleton] at hu; subst hu; exact ⟨hc, hz⟩
def CsIn (n : Nat) (cs : List CR) : Prop := cs.length <= n /\ ∀ z ∈ cs, ∃ v sh, z = zr v sh /\ QcH v
theorem CsIn.nil (n : Nat) : CsIn n [] := ⟨Nat.zero_le _, by simp⟩
theorem CsIn.keep {n : Nat} {cs : List CR} (h : CsIn n cs) : CsIn (n + 1) cs := ⟨Nat.le_succ_of_le h.1, h.2⟩
theorem CsIn.snoc {n : Nat} {cs : List CR} (h : CsIn n cs) {v : Vr} (hv : QcH v) {sh : Int} : CsIn (n + 1) (cs ++ [zr v sh]) := by
 refine ⟨by simp; exact h.1, fun z hz => ?_⟩
 rcases List.mem_append.1 hz with hz | hz
 ·exact h.2 z hz
 ·simp only [List.mem_singleton] at hz; subst hz; exact ⟨v, sh, rfl, hv⟩
theorem CsIn.at {n : Nat} {cs : List CR} (h : CsIn n cs) {i : Nat} (hi : i < cs.length) : QcH cs[i].v := by
 obtain ⟨v, sh, e, hv⟩ := h.2 _ (List.getElem_mem hi)
 rw [e]; exact hv
theorem Qjl {α : Type} {k : Nat} {v v' : α} {l : List (Nat × α)} (h : v = v') : lk ((k, v) :: l) k = some v' := by rw [Qy, h]
theorem QhU {us : List UR} {e et : Nat} (h : Z4 us) : Box.scrub (500001 + us.length) ⟨us.map dUR, e, et, false⟩ = ⟨us.map dUR, e, et, false⟩ := QhT fun hk => by
 obtain ⟨u, hu, e⟩ := Qa8 hk
 have := QaY h hu
 omega
theorem QjF {us : List UR} (h : Z4 us) {n f : List UInt8} {k m : Nat} (hk : k ≠ 500000) : ∀ r ∈ us.map dUR ++ [[D.str n, D.str f, D.osl k m]], ∀ d ∈ r, 500000 ∉ d.sid := fun r hr d hd => by
 rcases List.mem_append.1 hr with hr | hr
 ·exact Qnx h r hr d hd
 ·simp only [List.mem_singleton] at hr; subst hr
  simp only [List.mem_cons, List.not_mem_nil, or_false] at hd
  rcases hd with rfl | rfl | rfl <;> simp [D.sid]
  exact Ne.symm hk
theorem Qnw {us : List UR} {u : UR} : (us ++ [u]).map dUR = us.map dUR ++ [dUR u] := by simp
theorem Qm7 {cs : List CR} {z : CR} : (cs ++ [z]).map dCR = cs.map dCR ++ [dCR z] := by simp
theorem QaO {us : List UR} (h : Z4 us) {kg eu ec : Nat} {g1 g2 g3 : Box} (hkg : 1000000 <= kg) (h1 : g1.pr = true) (h2 : g2.pr = true) (hlen : us.length <= 100) :
  (∀ k, 1000000 <= k -> (lk [(kg, g1)] k).isSome = true -> (lk (((500000, (⟨us.map dUR, 3, eu, false⟩ : Box)) :: fbx ec us) ++ [(kg, g2), (kg, g1)]) k).isSome = true) /\
  (∀ k b, lk (((500000, (⟨us.map dUR, 3, eu, false⟩ : Box)) :: fbx ec us) ++ [(kg, g2), (kg, g1)]) k = some b -> 500000 <= k /\ ∀ j ∈ b.ids, (lk (((500000, (⟨us.map dUR, 3, eu, false⟩ : Box)) :: fbx ec us) ++ [(kg, g2), (kg, g1)]) j).isSome = true) /\
  (∀ k b, lk (((500000, (⟨us.map dUR, 3, eu, false⟩ : Box)) :: fbx ec us) ++ [(kg, g2), (kg, g1)]) k = some b -> lk ((kg, g2) :: (500000, ⟨us.map dUR, 3, eu, false⟩) :: (kg, g3) :: fbx ec us) k = some b) := by
 have cs : ∀ k b, lk (((500000, (⟨us.map dUR, 3, eu, false⟩ : Box)) :: fbx ec us) ++ [(kg, g2), (kg, g1)]) k = some b -> (k = 500000 /\ b = ⟨us.map dUR, 3, eu, false⟩) \/ (∃ u ∈ us, k = u.k /\ b = ⟨u.cs.map dCR, 8, ec, true⟩) \/ (k = kg /\ b = g2) := fun k b hk => by
  rw [List.cons_append, Qm] at hk
  split at hk
  ·rename_i e; cases hk; exact .inl ⟨e.symm, rfl⟩
  ·rw [ZV] at hk
   cases hh : lk (fbx ec us) k with
   | some v =>
    rw [hh] at hk; cases hk
    exact .inr (.inl (QfN hh))
   | none =>
    rw [hh] at hk
    simp only at hk
    rw [Qm] at hk
    split at hk
    ·rename_i e; cases hk; exact .inr (.inr ⟨e.symm, rfl⟩)
    ·rename_i e
     rw [Qm, if_neg e] at hk; cases hk
 refine ⟨fun k _ hk => ?_, fun k b hk => ?_, fun k b hk => ?_⟩
 ·obtain ⟨b, hb⟩ := Option.isSome_iff_exists.1 hk
  obtain ⟨rfl, _⟩ := XS hb
  exact Qf3 QY
 ·rcases cs k b hk with ⟨rfl, rfl⟩ | ⟨u, hu, rfl, rfl⟩ | ⟨rfl, rfl⟩
  ·refine ⟨Nat.le_refl _, fun j hj => ?_⟩
   obtain ⟨u, hu, rfl⟩ := Qa8 hj
   rw [List.cons_append]
   refine QW ?_
   obtain ⟨b, hb⟩ := Option.isSome_iff_exists.1 (QcZ (ec := ec) h hu)
   rw [Yq hb]; rfl
  ·have := QaY h hu
   exact ⟨by omega, fun j hj => by simp [Box.ids] at hj⟩
  ·exact ⟨by omega, fun j hj => by rw [XZ h2] at hj; cases hj⟩
 ·rcases cs k b hk with ⟨rfl, rfl⟩ | ⟨u, hu, rfl, rfl⟩ | ⟨rfl, rfl⟩
  ·exact Ql (by omega) Qy
  ·have hm := QaY h hu
   obtain ⟨j, hj, rfl⟩ := List.getElem_of_mem hu
   refine Ql (by omega) (Ql (by omega) (Ql (by omega) ?_))
   rw [h j hj]; exact Qkk h hj
  ·exact Qy
end M25
namespace M25
open Go Go.Abs M3
/-! ### A world under way: one candidate after the other is filled -/
def PureC (z : CR) : Prop := z.x.sid = [] /\ z.y.sid = [] /\ z.z.sid = []
theorem PureC.all {z : CR} (h : PureC z) : ∀ d ∈ dCR z, d.sid = [] := fun d hd => by
 simp only [dCR, List.mem_cons, List.not_mem_nil, or_false] at hd
 rcases hd with rfl | rfl | rfl | rfl | rfl | rfl | rfl | rfl
 ·rfl
 ·rfl
 ·rfl
 ·rfl
 ·rfl
 ·exact h.1
 ·exact h.2.1
 ·exact h.2.2
def QdO (u : UR) (k : Nat) (z : CR) : UR := { u with cs := u.cs.set k z }
def Qb2 (us : List UR) (i k : Nat) (z : CR) : List UR := us.modify i fun u => QdO u k z
theorem Zt (us : List UR) (i k : Nat) (z : CR) : (Qb2 us i k z).length = us.length := List.length_modify ..
theorem QjD (us : List UR) (i k : Nat) (z : CR) : (Qb2 us i k z).map dUR = us.map dUR := by
 refine List.ext_getElem (by simp [Qb2]) fun j h1 h2 => ?_
 simp only [List.getElem_map, Qb2, List.getElem_modify]
 split <;> simp [dUR, QdO]
theorem QaB {us : List UR} {i k : Nat} {z : CR} {j : Nat} (h : j < us.length) : (Qb2 us i k z)[j]'(by rw [Zt]; exact h) = if i = j then QdO us[j] k z else us[j] := by
 simp only [Qb2, List.getElem_modify]
theorem Qdn {us : List UR} {i k : Nat} {z : CR} (h : Z4 us) : Z4 (Qb2 us i k z) := fun j hj => by
 rw [Zt] at hj
 rw [QaB hj]
 split
 ·exact h j hj
 ·exact h j hj
def wA (us : List UR) (eu ec eg : Nat) (L : List Int) (J : Int) (b4 : Box) : List (Nat × Box) := [(500000, ⟨us.map dUR, 3, eu, false⟩), (12, gB L J eg), (4, b4)] ++ fbx ec us
theorem Qa9 {us : List UR} {eu ec eg : Nat} {L : List Int} {J : Int} {b4 : Box} (h : Z4 us) {k : Nat} {b : Box} (hk : lk (wA us eu ec eg L J b4) k = some b) : (k = 500000 /\ b = ⟨us.map dUR, 3, eu, false⟩) \/ (k = 12 /\ b = gB L J eg) \/ (k = 4 /\ b = b4) \/ ∃ j, ∃ hj : j < us.length, k = 500001 + j /\ b = ⟨us[j].cs.map dCR, 8, ec, true⟩ := by
 unfold wA at hk
 rcases QeW hk with hk | ⟨_, hk⟩
 ·simp only [List.mem_cons, List.not_mem_nil, or_false, Prod.mk.injEq] at hk
  rcases hk with h | h | h
  ·exact .inl h
  ·exact .inr (.inl h)
  ·exact .inr (.inr (.inl h))
 ·obtain ⟨u, hu, e1, e2⟩ := QfN hk
  obtain ⟨j, hj, rfl⟩ := List.getElem_of_mem hu
  exact .inr (.inr (.inr ⟨j, hj, e1.trans (h j hj), e2⟩))
section
variable {us : List UR} {eu ec eg : Nat} {L : List Int} {J : Int} {b4 : Box}
theorem Qeh : lk (wA us eu ec eg L J b4) 500000 = some ⟨us.map dUR, 3, eu, false⟩ := rfl
theorem QdX : lk (wA us eu ec eg L J b4) 12 = some (gB L J eg) := rfl
theorem Qfh : lk (wA us eu ec eg L J b4) 4 = some b4 := rfl
theorem QcG (h : Z4 us) {j : Nat} (hj : j < us.length) : lk (wA us eu ec eg L J b4) (500001 + j) = some ⟨us[j].cs.map dCR, 8, ec, true⟩ := by
 show lk ((500000, _) :: (12, _) :: (4, _) :: fbx ec us) _ = _
 rw [Qm, if_neg (by omega), Qm, if_neg (by omega), Qm, if_neg (by omega)]
 exact Qkk h hj
theorem ZZ (h : Z4 us) {k : Nat} (h1 : k ≠ 500000) (h2 : k ≠ 12) (h3 : k ≠ 4) (h4 : k < 500001 \/ 500001 + us.length <= k) : lk (wA us eu ec eg L J b4) k = none := by
 show lk ((500000, _) :: (12, _) :: (4, _) :: fbx ec us) _ = _
 rw [Qm, if_neg (Ne.symm h1), Qm, if_neg (Ne.symm h2), Qm, if_neg (Ne.symm h3)]
 exact YN h h4
theorem QiO (h : Z4 us) {k : Nat} (hk : k = 500000 \/ k = 12 \/ k = 4 \/ ∃ u ∈ us, k = u.k) : (lk (wA us eu ec eg L J b4) k).isSome = true := by
 rcases hk with rfl | rfl | rfl | ⟨u, hu, rfl⟩
 ·rfl
 ·rfl
 ·rfl
 ·obtain ⟨j, hj, rfl⟩ := List.getElem_of_mem hu
  rw [h j hj, QcG h hj]; rfl
theorem Qac (h : Z4 us) (h4 : b4.pr = true) : Closed (wA us eu ec eg L J b4) := fun k b hk j hj => by
 rcases Qa9 h hk with ⟨rfl, rfl⟩ | ⟨rfl, rfl⟩ | ⟨rfl, rfl⟩ | ⟨i, hi, rfl, rfl⟩
 ·exact QiO h (.inr (.inr (.inr (Qa8 hj))))
 ·simp [Box.ids, gB] at hj
 ·rw [XZ h4] at hj; cases hj
 ·simp [Box.ids] at hj
theorem QdH {α : Type} : ∀ {l : List α} {k : Nat} {a x : α}, x ∈ l.set k a -> x = a \/ x ∈ l
 | [], k, a, x, h => by simp at h
 | b :: l, 0, a, x, h => by
  simp only [List.set_cons_zero, List.mem_cons] at h ⊢
  rcases h with h | h
  ·exact .inl h
  ·exact .inr (.inr h)
 | b :: l, k + 1, a, x, h => by
  simp only [List.set_cons_succ, List.mem_cons] at h ⊢
  rcases h with h | h
  ·exact .inr (.inl h)
  ·rcases QdH h with h | h
   ·exact .inl h
   ·exact .inr (.inr h)
theorem QeR {l : List Nat} {fr fr1 fr' : List (Nat × D)} {H : List (Nat × Box)} {i k : Nat} {row : List D} {p : Bool} (kk : Nat) (z' : CR) (hf : Ze l fr = fr1) (ef : fr1 = fr') (hK : Z4 us) (hi : i < us.length) (hk : k < us[i].cs.length)
  (hKi : lk H (500001 + i) = some ⟨(us[i].cs.map dCR).set k row, 8, ec, p⟩) (hp : p = true -> row.map (D.fzS H (· == kk)) = row) (hrow : (row.map (D.fzS H (· == kk))).map D.canS = dCR z') (hoth : ∀ z ∈ us[i].cs, PureC z) (hz : PureC z')
  (hF : ∀ j, ∀ hj : j < us.length, j ≠ i -> lk H (500001 + j) = some ⟨us[j].cs.map dCR, 8, ec, true⟩) (hu : lk H 500000 = some ⟨us.map dUR, 3, eu, false⟩) (hg : lk H 12 = some (gB L J eg)) (h4 : lk H 4 = some b4) (hb4 : b4.pr = true) (hkk : kk < 500000 /\ kk ≠ 12 /\ kk ≠ 4) (hsm : ∀ j, 1000000 <= j -> lk H j = none) (hlen : us.length <= 100)
  (hfr : ∀ p ∈ fr', ∀ j ∈ p.2.ids, j = 500000 \/ j = 12 \/ j = 4 \/ ∃ u ∈ us, j = u.k) : St.le ⟨fr, H⟩ ⟨fr', wA (Qb2 us i k z') eu ec eg L J b4⟩ := by
 subst hf ef
 have nokk : ∀ j, (j = 500000 \/ j = 12 \/ j = 4 \/ ∃ u ∈ us, j = u.k) -> j ≠ kk := fun j hj e => by
  subst e
  rcases hj with rfl | rfl | rfl | ⟨u, hu, rfl⟩
  ·omega
  ·exact hkk.2.1 rfl
  ·exact hkk.2.2 rfl
  ·have := (QaY hK hu).1; omega
 have eqkk : ∀ j, j ≠ kk -> (j == kk) = false := fun j hj => by simp [hj]
 have some1 : ∀ b j, (j = 500000 \/ j = 12 \/ j = 4 \/ ∃ u ∈ us, j = u.k) -> (lk ((500001 + i, b) :: wA us eu ec eg L J b4) j).isSome = true := fun b j hj => QW (QiO hK hj)
 have rowsz : ∀ r ∈ us[i].cs.map dCR, r.map (D.fzS H (· == kk)) = r := fun r hr => by
  obtain ⟨z, hzm, rfl⟩ := List.mem_map.1 hr
  exact YX fun d hd => QdC fun j hj => by rw [(hoth z hzm).all d hd] at hj; cases hj
 have mapz : ((us[i].cs.map dCR).set k row).map (fun r => r.map (D.fzS H (· == kk))) = (us[i].cs.map dCR).set k (row.map (D.fzS H (· == kk))) := by
  refine List.ext_getElem (by simp) fun j h1 h2 => ?_
  simp only [List.getElem_map, List.getElem_set]
  split
  ·rfl
  ·exact rowsz _ (List.mem_map_of_mem (List.getElem_mem _))
 refine le_trans (QbA l fr H) (le_trans (Qms kk (H' := (500001 + i, ⟨(us[i].cs.map dCR).set k (row.map (D.fzS H (· == kk))), 8, ec, p⟩) :: wA us eu ec eg L J b4) (by omega) (fr' := Ze l fr) (fun t d h => ⟨d, h, Qhp fun j hj => eqkk j (nokk j (hfr (t, d) (Yi h) j hj))⟩) (fun j b h => ?_) (fun t d h j hj => some1 _ j (hfr (t, d) (Yi h) j hj)) (fun j b h j2 hj2 => ?_) fun j hj hs => ?_) ?_)
 ·rw [Qm] at h
  split at h
  ·rename_i e; cases h; subst e
   refine ⟨by omega, _, hKi, ?_⟩
   cases p with
   | true => rw [hp rfl]; rfl
   | false => show Box.mk _ _ _ _ = _; rw [mapz]
  ·rename_i e
   rcases Qa9 hK h with ⟨rfl, rfl⟩ | ⟨rfl, rfl⟩ | ⟨rfl, rfl⟩ | ⟨i2, hi2, rfl, rfl⟩
   ·refine ⟨by omega, _, hu, XD (.inr fun j hj => eqkk j (nokk j (.inr (.inr (.inr (Qa8 hj))))))⟩
   ·exact ⟨Ne.symm hkk.2.1, _, hg, rfl⟩
   ·exact ⟨Ne.symm hkk.2.2, _, h4, XD (.inl hb4)⟩
   ·exact ⟨by omega, _, hF i2 hi2 (fun e2 => e (by omega)), rfl⟩
 ·rw [Qm] at h
  split at h
  ·cases h
   cases hpp : p with
   | true => rw [XZ hpp] at hj2; cases hj2
   | false =>
   simp only [Box.ids, hpp, Bool.false_eq_true, if_false, List.mem_flatMap] at hj2
   obtain ⟨r, hr, d, hd, hj3⟩ := hj2
   rcases QdH hr with rfl | hr
   ·have : (d.canS).sid = [] := hz.all _ (by rw [<- hrow]; exact List.mem_map_of_mem hd)
    rw [QbT] at this
    rw [this] at hj3; cases hj3
   ·obtain ⟨z, hzm, rfl⟩ := List.mem_map.1 hr
    rw [(hoth z hzm).all d hd] at hj3; cases hj3
  ·exact QW (Qac hK hb4 j b h j2 hj2)
 ·rw [hsm j hj] at hs; cases hs
 ·refine le_trans (QlN k Qy) (le_trans (Qio Qy (fun e => ?_) (fun r hr d hd => ?_)) (QaZ rfl fun j => ?_))
  ·have := congrArg List.length e
   simp only [List.length_modify, List.length_set, List.length_map, List.length_nil] at this
   omega
  ·rcases QaI hr with h | ⟨y, hy, rfl⟩
   ·rcases QdH h with rfl | h
    ·have : (d.canS).sid = [] := hz.all _ (by rw [<- hrow]; exact List.mem_map_of_mem hd)
     rwa [QbT] at this
    ·obtain ⟨z, hzm, rfl⟩ := List.mem_map.1 h
     exact (hoth z hzm).all d hd
   ·obtain ⟨d0, hd0, rfl⟩ := List.mem_map.1 hd
    rw [QbT]
    rcases QdH hy with rfl | h
    ·have : (d0.canS).sid = [] := hz.all _ (by rw [<- hrow]; exact List.mem_map_of_mem hd0)
     rwa [QbT] at this
    ·obtain ⟨z, hzm, rfl⟩ := List.mem_map.1 h
     exact (hoth z hzm).all d0 hd0
  ·have erows : ((us[i].cs.map dCR).set k (row.map (D.fzS H (· == kk)))).modify k (fun r => r.map D.canS) = ((us[i].cs.set k z').map dCR) := by
    refine List.ext_getElem (by simp) fun m h1 h2 => ?_
    simp only [List.getElem_modify, List.getElem_set, List.getElem_map]
    by_cases e : k = m
    ·subst e
     simp only [if_true]
     exact hrow
    ·simp only [if_neg e]
   have hK' := Qdn (i := i) (k := k) (z := z') hK
   by_cases e : 500001 + i = j
   ·subst e
    rw [Qy, QcG hK' (by rw [Zt]; exact hi)]
    simp only [QaB hi, if_true, erows]; rfl
   ·rw [Qm, if_neg e, Qm, if_neg e, Qm, if_neg e]
    cases h : lk (wA us eu ec eg L J b4) j with
    | none =>
     cases h' : lk (wA (Qb2 us i k z') eu ec eg L J b4) j with
     | none => rfl
     | some b =>
      have : (lk (wA us eu ec eg L J b4) j).isSome = true := by
       rcases Qa9 hK' h' with ⟨rfl, _⟩ | ⟨rfl, _⟩ | ⟨rfl, _⟩ | ⟨m, hm, rfl, _⟩
       ·rfl
       ·rfl
       ·rfl
       ·rw [Zt] at hm; rw [QcG hK hm]; rfl
      rw [h] at this; cases this
    | some b =>
     rcases Qa9 hK h with ⟨rfl, rfl⟩ | ⟨rfl, rfl⟩ | ⟨rfl, rfl⟩ | ⟨m, hm, rfl, rfl⟩
     ·rw [Qeh, QjD]
     ·rfl
     ·rfl
     ·rw [QcG hK' (by rw [Zt]; exact hm)]
      simp only [QaB hm, if_neg (show ¬ i = m by omega)]
end
theorem Qc6 : ∀ {H : List (Nat × Box)} {j : Nat}, j ∈ H.map Prod.fst -> (lk H j).isSome = true
 | [], _, h => by cases h
 | (k, b) :: H, j, h => by
  by_cases e : k = j
  ·subst e; exact QY
  ·refine QW (Qc6 ?_)
   simp only [List.map_cons, List.mem_cons] at h
   exact h.resolve_left (Ne.symm e)
theorem Qmf {us : List UR} (h : Z4 us) {i : Nat} (hi : i < us.length) : (us.map dUR)[((i : Nat) : Int).toNat]? = some [.str us[i].n, .str us[i].f, .osl (500001 + i) us[i].cs.length] := by
 rw [Int.toNat_natCast, List.getElem?_map, List.getElem?_eq_getElem hi, Option.map_some, dUR, h i hi]
theorem QoN {cs : List CR} {k : Nat} (hk : k < cs.length) : (cs.map dCR)[((k : Nat) : Int).toNat]? = some (dCR cs[k]) := by
 rw [Int.toNat_natCast, List.getElem?_map, List.getElem?_eq_getElem hk]; rfl
theorem QiK {us : List UR} {eu ec eg : Nat} {L : List Int} {J : Int} {b4 g1 : Box} (h : Z4 us) (k : Nat) : lk (((500000, (⟨us.map dUR, 3, eu, false⟩ : Box)) :: fbx ec us) ++ ([(12, gB L J eg)] ++ [(12, g1), (4, b4)])) k = lk (wA us eu ec eg L J b4) k := by
 show lk ((500000, _) :: (fbx ec us ++ [(12, gB L J eg), (12, g1), (4, b4)])) k = lk ((500000, _) :: (12, _) :: (4, _) :: fbx ec us) k
 rw [Qm, Qm]
 split
 ·rfl
 ·rw [ZV]
  cases hh : lk (fbx ec us) k with
  | some v =>
   have := Qgf h k v hh
   simp only
   rw [Qm, if_neg (by omega), Qm, if_neg (by omega), hh]
  | none =>
   simp only [Qm, hh]
   by_cases e : 12 = k
   ·rw [if_pos e, if_pos e]
   ·rw [if_neg e, if_neg e, if_neg e]; rfl
theorem QjG {us : List UR} {eu ec eg : Nat} {L : List Int} {J : Int} {b4 : Box} (h : Z4 us) (hv : ∀ y ∈ us, y.cs.length <= 16 /\ ∀ z ∈ y.cs, QcH z.v) : Fam (wA us eu ec eg L J b4) 12 500000 eu ec us := by
 refine ⟨by decide, ⟨false, rfl⟩, fun y hy => ?_, hv⟩
 obtain ⟨j, hj, rfl⟩ := List.getElem_of_mem hy
 refine ⟨by rw [h j hj]; omega, true, by rw [h j hj]; exact QcG h hj⟩
/-! ### Filled candidates -/
def QmR (n : Nat) (x : WantT) : Prop := 0 <= x.u /\ x.u < n /\ SetOk x.s
theorem WantIn.w {n : Nat} {x : WantT} (h : WantIn n x) : QmR n x := ⟨by have := h.1; omega, h.2.1, h.2.2⟩
structure Qaf (n : Nat) (c : CandT) : Prop where
 v : QcH c.v
 nl : c.ns.length <= 10
 nr : ∀ r ∈ c.ns, r.length <= 2 /\ ∀ x ∈ r, QmR n x
 bl : c.bs.length <= 1
 bw : ∀ x ∈ c.bs, QmR n x
def QgS (c : CandT) : CR := ⟨c.v, .int .i64 c.sh, QV c.ns, Zb c.bs⟩
def DoneC (n : Nat) (z : CR) : Prop := ∃ c, z = QgS c /\ Qaf n c
def FreshC (z : CR) : Prop := ∃ v sh, z = zr v sh /\ QcH v
theorem DoneC.pure {n : Nat} {z : CR} (h : DoneC n z) : PureC z := by obtain ⟨c, rfl, _⟩ := h; exact ⟨rfl, rfl, rfl⟩
theorem FreshC.pure {z : CR} (h : FreshC z) : PureC z := by obtain ⟨v, sh, rfl, _⟩ := h; exact ⟨rfl, rfl, rfl⟩
theorem DoneC.vr {n : Nat} {z : CR} (h : DoneC n z) : QcH z.v := by obtain ⟨c, rfl, q⟩ := h; exact q.v
theorem FreshC.vr {z : CR} (h : FreshC z) : QcH z.v := by obtain ⟨v, sh, rfl, q⟩ := h; exact q
structure Prog (n : Nat) (us : List UR) (i k : Nat) : Prop where
 keys : Z4 us
 len : us.length = n /\ 2 <= n /\ n <= 11
 cl : ∀ u ∈ us, u.cs.length <= 4
 done : ∀ j, ∀ hj : j < us.length, ∀ m, ∀ hm : m < us[j].cs.length, (j < i \/ (j = i /\ m < k)) -> DoneC n us[j].cs[m]
 fresh : ∀ j, ∀ hj : j < us.length, ∀ m, ∀ hm : m < us[j].cs.length, ¬ (j < i \/ (j = i /\ m < k)) -> FreshC us[j].cs[m]
theorem Prog.pure {n : Nat} {us : List UR} {i k : Nat} (h : Prog n us i k) {j : Nat} (hj : j < us.length) : ∀ z ∈ us[j].cs, PureC z /\ QcH z.v := fun z hz => by
 obtain ⟨m, hm, rfl⟩ := List.getElem_of_mem hz
 by_cases hd : j < i \/ (j = i /\ m < k)
 ·exact ⟨(h.done j hj m hm hd).pure, (h.done j hj m hm hd).vr⟩
 ·exact ⟨(h.fresh j hj m hm hd).pure, (h.fresh j hj m hm hd).vr⟩
theorem Prog.fam {n : Nat} {us : List UR} {i k : Nat} (h : Prog n us i k) : ∀ y ∈ us, y.cs.length <= 16 /\ ∀ z ∈ y.cs, QcH z.v := fun y hy => by
 obtain ⟨j, hj, rfl⟩ := List.getElem_of_mem hy
 exact ⟨Nat.le_trans (h.cl _ hy) (by omega), fun z hz => (h.pure hj z hz).2⟩
theorem Prog.put {n : Nat} {us : List UR} {i k : Nat} (h : Prog n us i k) (hi : i < us.length) (hk : k < us[i].cs.length) {z : CR} (hz : DoneC n z) : Prog n (Qb2 us i k z) i (k + 1) := by
 have at' := fun (j : Nat) (hj : j < us.length) => QaB (i := i) (k := k) (z := z) hj
 refine ⟨Qdn h.keys, by rw [Zt]; exact h.len, fun u hu => ?_, fun j hj m hm hd => ?_, fun j hj m hm hd => ?_⟩
 ·obtain ⟨j, hj, rfl⟩ := List.getElem_of_mem hu
  rw [Zt] at hj
  rw [at' j hj]
  split
  ·simp only [QdO, List.length_set]; exact h.cl _ (List.getElem_mem _)
  ·exact h.cl _ (List.getElem_mem _)
 ·rw [Zt] at hj
  have e := at' j hj
  by_cases hij : i = j
  ·subst hij
   rw [if_pos rfl] at e
   have hm' : m < (QdO us[i] k z).cs.length := by rw [<- e]; exact hm
   have e2 : (Qb2 us i k z)[i].cs[m] = (QdO us[i] k z).cs[m]'hm' := by congr 1; rw [e]
   rw [e2]
   simp only [QdO, List.getElem_set]
   split
   ·exact hz
   ·simp only [QdO, List.length_set] at hm'
    exact h.done i hi m hm' (by omega)
  ·rw [if_neg hij] at e
   have hm' : m < us[j].cs.length := by rw [<- e]; exact hm
   have e2 : (Qb2 us i k z)[j].cs[m] = us[j].cs[m]'hm' := by congr 1; rw [e]
   rw [e2]; exact h.done j hj m hm' (by omega)
 ·rw [Zt] at hj
  have e := at' j hj
  by_cases hij : i = j
  ·subst hij
   rw [if_pos rfl] at e
   have hm' : m < (QdO us[i] k z).cs.length := by rw [<- e]; exact hm
   have e2 : (Qb2 us i k z)[i].cs[m] = (QdO us[i] k z).cs[m]'hm' := by congr 1; rw [e]
   rw [e2]
   simp only [QdO, List.length_set] at hm'
   simp only [QdO, List.getElem_set]
   rw [if_neg (by omega)]
   exact h.fresh i hi m hm' (by omega)
  ·rw [if_neg hij] at e
   have hm' : m < us[j].cs.length := by rw [<- e]; exact hm
   have e2 : (Qb2 us i k z)[j].cs[m] = us[j].cs[m]'hm' := by congr 1; rw [e]
   rw [e2]; exact h.fresh j hj m hm' (by omega)
theorem Prog.next {n : Nat} {us : List UR} {i k : Nat} (h : Prog n us i k) (hi : i < us.length) (hk : us[i].cs.length <= k) : Prog n us (i + 1) 0 := by
 refine ⟨h.keys, h.len, h.cl, fun j hj m hm hd => h.done j hj m hm ?_, fun j hj m hm hd => h.fresh j hj m hm (by omega)⟩
 by_cases e : j = i
 ·subst e; exact .inr ⟨rfl, by omega⟩
 ·exact .inl (by omega)
theorem Prog.again {n : Nat} {us : List UR} {i k : Nat} (h : Prog n us i (k + 1)) (hi : i < us.length) (hk : k < us[i].cs.length) {z : CR} (hz : DoneC n z) : Prog n (Qb2 us i k z) i (k + 1) := by
 have at' := fun (j : Nat) (hj : j < us.length) => QaB (i := i) (k := k) (z := z) hj
 refine ⟨Qdn h.keys, by rw [Zt]; exact h.len, fun u hu => ?_, fun j hj m hm hd => ?_, fun j hj m hm hd => ?_⟩
 ·obtain ⟨j, hj, rfl⟩ := List.getElem_of_mem hu
  rw [Zt] at hj
  rw [at' j hj]
  split
  ·simp only [QdO, List.length_set]; exact h.cl _ (List.getElem_mem _)
  ·exact h.cl _ (List.getElem_mem _)
 ·rw [Zt] at hj
  have e := at' j hj
  by_cases hij : i = j
  ·subst hij
   rw [if_pos rfl] at e
   have hm' : m < (QdO us[i] k z).cs.length := by rw [<- e]; exact hm
   have e2 : (Qb2 us i k z)[i].cs[m] = (QdO us[i] k z).cs[m]'hm' := by congr 1; rw [e]
   rw [e2]
   simp only [QdO, List.getElem_set]
   split
   ·exact hz
   ·simp only [QdO, List.length_set] at hm'
    exact h.done i hi m hm' (by omega)
  ·rw [if_neg hij] at e
   have hm' : m < us[j].cs.length := by rw [<- e]; exact hm
   have e2 : (Qb2 us i k z)[j].cs[m] = us[j].cs[m]'hm' := by congr 1; rw [e]
   rw [e2]; exact h.done j hj m hm' (by omega)
 ·rw [Zt] at hj
  have e := at' j hj
  by_cases hij : i = j
  ·subst hij
   rw [if_pos rfl] at e
   have hm' : m < (QdO us[i] k z).cs.length := by rw [<- e]; exact hm
   have e2 : (Qb2 us i k z)[i].cs[m] = (QdO us[i] k z).cs[m]'hm' := by congr 1; rw [e]
   rw [e2]
   simp only [QdO, List.length_set] at hm'
   simp only [QdO, List.getElem_set]
   rw [if_neg (by omega)]
   exact h.fresh i hi m hm' (by omega)
  ·rw [if_neg hij] at e
   have hm' : m < us[j].cs.length := by rw [<- e]; exact hm
   have e2 : (Qb2 us i k z)[j].cs[m] = us[j].cs[m]'hm' := by congr 1; rw [e]
   rw [e2]; exact h.fresh j hj m hm' (by omega)
theorem QkD {l : List Nat} {fr fr1 fr' : List (Nat × D)} {us : List UR} {eu ec eg e1 e3 : Nat} {L : List Int} {J : Int} {b4 bK : Box} {i : Nat} {x : WantT} (hf : Ze l fr = fr1) (ef : fr1 = fr') (hK : Z4 us) (hi : i < us.length) (hb4 : b4.pr = true) (hbK : ∀ j ∈ bK.ids, j = 64)
  (hfr : ∀ p ∈ fr', ∀ j ∈ p.2.ids, j = 500000 \/ j = 12 \/ j = 4 \/ ∃ u ∈ us, j = u.k) :
  St.le ⟨fr, (500001 + i, bK) :: (64, ⟨[[.osl 63 1]], 1, e1, false⟩) :: (63, ⟨[Qfl x], 3, e3, true⟩) :: wA us eu ec eg L J b4⟩ ⟨fr', (500001 + i, bK) :: (64, ⟨[[Zb [x]]], 1, e1, true⟩) :: wA us eu ec eg L J b4⟩ := by
 subst hf ef
 have no63 : ∀ j, (j = 500000 \/ j = 12 \/ j = 4 \/ ∃ u ∈ us, j = u.k) -> j ≠ 63 := fun j hj e => by
  subst e
  rcases hj with h | h | h | ⟨u, hu, h⟩
  ·cases h
  ·cases h
  ·cases h
  ·have := (QaY hK hu).1; omega
 have eq63 : ∀ j, j ≠ 63 -> (j == 63) = false := fun j hj => by simp [hj]
 have up : ∀ b b' j, (lk (wA us eu ec eg L J b4) j).isSome = true -> (lk ((500001 + i, b) :: (64, b') :: wA us eu ec eg L J b4) j).isSome = true := fun b b' j hj => QW (QW hj)
 refine le_trans (QbA l fr _) (le_trans (Qms 63 (H' := (500001 + i, bK) :: (64, ⟨[[Zb [x]]], 1, e1, false⟩) :: wA us eu ec eg L J b4) (by decide) (fr' := Ze l fr) (fun t d h => ⟨d, h, Qhp fun j hj => eq63 j (no63 j (hfr (t, d) (Yi h) j hj))⟩) (fun j b h => ?_) (fun t d h j hj => up _ _ j (QiO hK (hfr (t, d) (Yi h) j hj))) (fun j b h j2 hj2 => ?_) fun j hj hs => ?_) ?_)
 ·rw [Qm] at h
  split at h
  ·rename_i e; cases h; subst e
   refine ⟨by omega, _, Qy, XD (.inr fun j hj => ?_)⟩
   rw [hbK j hj]; rfl
  ·rename_i e
   rw [Qm] at h
   split at h
   ·rename_i e2; cases h; subst e2
    refine ⟨by decide, _, Ql e Qy, ?_⟩
    have h63 : lk ((500001 + i, bK) :: (64, (⟨[[.osl 63 1]], 1, e1, false⟩ : Box)) :: (63, ⟨[Qfl x], 3, e3, true⟩) :: wA us eu ec eg L J b4) 63 = some ⟨[Qfl x], 3, e3, true⟩ := Ql (by omega) (Ql (by decide) Qy)
    simp only [Box.fz, Bool.false_eq_true, if_false, List.map_cons, List.map_nil, D.fzS, beq_self_eq_true, if_true, h63, List.length_singleton, and_self, Zb]
   ·rename_i e2
    have h2 : lk ((500001 + i, bK) :: (64, (⟨[[.osl 63 1]], 1, e1, false⟩ : Box)) :: (63, ⟨[Qfl x], 3, e3, true⟩) :: wA us eu ec eg L J b4) j = some b := by
     have hj : j ≠ 63 := by
      rcases Qa9 hK h with ⟨rfl, _⟩ | ⟨rfl, _⟩ | ⟨rfl, _⟩ | ⟨m, _, rfl, _⟩ <;> omega
     exact Ql e (Ql e2 (Ql (Ne.symm hj) h))
    rcases Qa9 hK h with ⟨rfl, rfl⟩ | ⟨rfl, rfl⟩ | ⟨rfl, rfl⟩ | ⟨m, hm, rfl, rfl⟩
    ·exact ⟨by decide, _, h2, XD (.inr fun j hj => eq63 j (no63 j (.inr (.inr (.inr (Qa8 hj))))))⟩
    ·exact ⟨by decide, _, h2, rfl⟩
    ·exact ⟨by decide, _, h2, XD (.inl hb4)⟩
    ·exact ⟨by omega, _, h2, rfl⟩
 ·rw [Qm] at h
  split at h
  ·cases h
   rw [hbK j2 hj2]; exact QW QY
  ·rw [Qm] at h
   split at h
   ·cases h; simp [Box.ids, D.sid, Zb] at hj2
   ·exact up _ _ j2 (Qac hK hb4 j b h j2 hj2)
 ·by_cases e : 500001 + i = j
  ·subst e; exact QY
  ·rw [Qm, if_neg e, Qm, if_neg (by omega), Qm, if_neg (by omega)] at hs
   exact up _ _ j hs
 ·have h64 : lk ((500001 + i, bK) :: (64, (⟨[[Zb [x]]], 1, e1, false⟩ : Box)) :: wA us eu ec eg L J b4) 64 = some ⟨[[Zb [x]]], 1, e1, false⟩ := Ql (by omega) Qy
  refine le_trans (Qio h64 (by simp) (by intro r hr d hd; simp only [List.mem_singleton] at hr; subst hr; simp only [List.mem_singleton] at hd; subst hd; rfl)) (QaZ rfl fun j => ?_)
  by_cases e : 64 = j
  ·subst e; rw [Qy, Qm, if_neg (by omega), Qy]
  ·by_cases eK : 500001 + i = j
   ·subst eK; rw [Qm, if_neg e, Qy, Qy]
   ·rw [Qm, if_neg e, Qm, if_neg eK, Qm, if_neg e, Qm, if_neg eK, Qm, if_neg e]
theorem Qkg {n : Nat} : ∀ {cs : List CR}, (∀ z ∈ cs, DoneC n z) -> ∃ l : List CandT, cs = l.map QgS /\ ∀ c ∈ l, Qaf n c
 | [], _ => ⟨[], rfl, by simp⟩
 | z :: cs, h => by
  obtain ⟨l, h1, h2⟩ := Qkg (cs := cs) fun y hy => h y (by simp [hy])
  obtain ⟨c, rfl, hc⟩ := h z (by simp)
  exact ⟨c :: l, by rw [h1]; rfl, fun y hy => by
   rcases List.mem_cons.1 hy with rfl | hy
   ·exact hc
   ·exact h2 y hy⟩
def QnY (n : Nat) (u : UR) (x : YS) : Prop := x.n = u.n /\ x.f = u.f /\ u.cs = x.cs.map QgS /\ ∀ c ∈ x.cs, Qaf n c
theorem Qkh {n : Nat} : ∀ {us : List UR}, (∀ u ∈ us, ∀ z ∈ u.cs, DoneC n z) -> ∃ w : ZC, w.length = us.length /\ ∀ j, ∀ h : j < us.length, ∀ h' : j < w.length, QnY n us[j] w[j]
 | [], _ => ⟨[], rfl, fun j h => by simp at h⟩
 | u :: us, h => by
  obtain ⟨w, h1, h2⟩ := Qkh (us := us) fun y hy => h y (by simp [hy])
  obtain ⟨l, q1, q2⟩ := Qkg (h u (by simp))
  refine ⟨⟨u.n, u.f, l⟩ :: w, by simp [h1], fun j hj hj' => ?_⟩
  cases j with
  | zero => exact ⟨rfl, rfl, q1, q2⟩
  | succ j => simp only [List.getElem_cons_succ]; exact h2 j (by simpa using hj) (by simpa using hj')
structure Qlv (w : ZC) : Prop where
 sm : WSm w
 len : 2 <= w.length /\ w.length <= 11
 cs : ∀ u ∈ w, u.cs.length <= 4
 cand : ∀ u ∈ w, ∀ c ∈ u.cs, Qaf w.length c
theorem Qng {w : ZC} (h2 : 2 <= w.length) (h11 : w.length <= 11) (hc : ∀ u ∈ w, u.cs.length <= 4) (hd : ∀ u ∈ w, ∀ c ∈ u.cs, Qaf w.length c) : Qlv w := by
 refine ⟨⟨by omega, fun u hu => Nat.le_trans (hc u hu) (by omega), fun u hu c hcm => (hd u hu c hcm).v, fun u hu c hcm => ⟨Nat.le_trans (hd u hu c hcm).nl (by omega), Nat.le_trans (hd u hu c hcm).bl (by omega)⟩, fun u hu c hcm r hr => Nat.le_trans ((hd u hu c hcm).nr r hr).1 (by omega), fun u hu c hcm r hr x hx => (((hd u hu c hcm).nr r hr).2 x hx).2.2.sm, fun u hu c hcm x hx => ((hd u hu c hcm).bw x hx).2.2.sm⟩, ⟨h2, h11⟩, hc, hd⟩
theorem QlO {n : Nat} {us : List UR} {eu ec eg : Nat} {L : List Int} {J : Int} {b4 : Box} {k : Nat} (h : Prog n us us.length k) (hb4 : b4.pr = true) :
  ∃ w : ZC, w.length = us.length /\ Qlv w /\ ∀ {l : List Nat} {fr fr1 fr' : List (Nat × D)}, Ze l fr = fr1 -> fr1 = fr' -> (∀ p ∈ fr', ∀ j ∈ p.2.ids, j = 500000 \/ j = 4) -> St.le ⟨fr, wA us eu ec eg L J b4⟩ ⟨fr', [(500000, ⟨w.map YW, 3, eu, true⟩), (4, b4)]⟩ := by
 obtain ⟨w, hw1, hw2⟩ := Qkh (n := n) (us := us) fun u hu z hz => by
  obtain ⟨j, hj, rfl⟩ := List.getElem_of_mem hu
  obtain ⟨m, hm, rfl⟩ := List.getElem_of_mem hz
  exact h.done j hj m hm (.inl hj)
 have hcs : ∀ u ∈ w, u.cs.length <= 4 /\ ∀ c ∈ u.cs, Qaf n c := fun u hu => by
  obtain ⟨j, hj, rfl⟩ := List.getElem_of_mem hu
  obtain ⟨_, _, q3, q4⟩ := hw2 j (by omega) hj
  have := h.cl us[j] (List.getElem_mem _)
  rw [q3, List.length_map] at this
  exact ⟨this, q4⟩
 have hlen := h.len
 refine ⟨w, hw1, Qng (by omega) (by omega) (fun u hu => (hcs u hu).1) (fun u hu c hc => by have := (hcs u hu).2 c hc; rwa [show w.length = n by omega]), ?_⟩
 intro l fr fr1 fr' hf ef hfr
 subst hf ef
 have hK := h.keys
 let S : Nat -> Bool := fun k => decide (500001 <= k) && decide (k < 1000000)
 have hS1 : ∀ k, k < 500001 -> S k = false := fun k hk => by
  show (decide (500001 <= k) && decide (k < 1000000)) = false
  rw [decide_eq_false (by omega)]; rfl
 have hS2 : ∀ k, 500001 <= k -> k < 1000000 -> S k = true := fun k h1 h2 => by
  show (decide (500001 <= k) && decide (k < 1000000)) = true
  rw [decide_eq_true h1, decide_eq_true h2]; rfl
 have hrow : ∀ j, ∀ h1 : j < us.length, ∀ h2 : j < w.length, (dUR us[j]).map (D.fzS (wA us eu ec eg L J b4) S) = YW w[j] := fun j h1 h2 => by
  obtain ⟨q1, q2, q3, q4⟩ := hw2 j h1 h2
  have hk := hK j h1
  have hc := QcG (eu := eu) (ec := ec) (eg := eg) (L := L) (J := J) (b4 := b4) hK h1
  generalize us[j] = u at q1 q2 q3 hk hc
  generalize w[j] = x at q1 q2 q3 q4
  obtain ⟨un, uf, uk, ucs⟩ := u
  simp only at q1 q2 q3 hk hc
  subst hk q3
  simp only [dUR, YW, List.map_cons, List.map_nil, D.fzS]
  rw [hS2 _ (by omega) (by omega), hc]
  simp only [if_true, true_and, List.length_map, q1, q2, Qi2, List.map_map]
  rfl
 have hrows : (us.map dUR).map (fun r => r.map (D.fzS (wA us eu ec eg L J b4) S)) = w.map YW := by
  refine List.ext_getElem (by simp [hw1]) fun j h1 h2 => ?_
  simp only [List.getElem_map]
  exact hrow j (by simpa using h1) (by simpa using h2)
 refine le_trans (QbA l fr _) (le_trans (Qnb S (fun k hk => by
  simp only [S, Bool.and_eq_true, decide_eq_true_eq] at hk; exact hk.2) (fr' := Ze l fr) (H' := [(500000, ⟨w.map YW, 3, eu, false⟩), (4, b4)]) (fun t d hd => ⟨d, hd, Qhp fun j hj => ?_⟩) (fun j b hj => ?_) (fun t d hd j hj => ?_) (fun j b hb i hi => ?_) fun j hj hs => ?_) (le_trans (Qio (k := 500000) (b := ⟨w.map YW, 3, eu, false⟩) rfl (fun e => ?_) (fun r hr d hd => ?_)) (QaZ rfl fun j => ?_)))
 ·rcases hfr (t, d) (Yi hd) j hj with rfl | rfl
  ·exact hS1 _ (by decide)
  ·exact hS1 _ (by decide)
 ·rw [Qm] at hj
  split at hj
  ·rename_i e; cases hj; subst e
   refine ⟨hS1 _ (by decide), _, Qeh, ?_⟩
   simp only [Box.fz, Bool.false_eq_true, if_false, hrows]
  ·rw [Qm] at hj
   split at hj
   ·rename_i e; cases hj; subst e
    exact ⟨hS1 _ (by decide), _, Qfh, XD (.inl hb4)⟩
   ·cases hj
 ·rcases hfr (t, d) (Yi hd) j hj with rfl | rfl
  ·rfl
  ·rfl
 ·rw [Qm] at hb
  split at hb
  ·cases hb
   simp only [Box.ids, Bool.false_eq_true, if_false, List.mem_flatMap, List.mem_map] at hi
   obtain ⟨r, ⟨u, _, rfl⟩, d, hd, hi⟩ := hi
   simp only [YW, List.mem_cons, List.not_mem_nil, or_false] at hd
   rcases hd with rfl | rfl | rfl <;> simp [D.sid, Qi2] at hi
  ·rw [Qm] at hb
   split at hb
   ·cases hb; rw [XZ hb4] at hi; cases hi
   ·cases hb
 ·obtain ⟨b, hb⟩ := Option.isSome_iff_exists.1 hs
  rcases Qa9 hK hb with ⟨rfl, _⟩ | ⟨rfl, _⟩ | ⟨rfl, _⟩ | ⟨m, hm, rfl, _⟩ <;> omega
 ·have := congrArg List.length e
  simp only [List.length_map, List.length_nil] at this
  omega
 ·obtain ⟨u, _, rfl⟩ := List.mem_map.1 hr
  simp only [YW, List.mem_cons, List.not_mem_nil, or_false] at hd
  rcases hd with rfl | rfl | rfl <;> rfl
 ·by_cases e : 500000 = j
  ·subst e; rfl
  ·rw [Qm, if_neg e, Qm, if_neg e]; rw [Qm (k := 500000), if_neg e]
def Qih (us : List UR) (i : Nat) : Nat := match us[i]? with
 | some u => u.cs.length
 | none => 0
theorem Qaw {us : List UR} {i : Nat} (h : i < us.length) : Qih us i = us[i].cs.length := by rw [Qih, List.getElem?_eq_getElem h]
theorem Qam (us : List UR) (i k : Nat) (z : CR) : Qih (Qb2 us i k z) i = Qih us i := by
 by_cases h : i < us.length
 ·rw [Qaw h, Qaw (by rw [Zt]; exact h), QaB h, if_pos rfl]
  simp [QdO]
 ·have e : (Qb2 us i k z).length = us.length := Zt ..
  rw [Qih, Qih, List.getElem?_eq_none (show us.length <= i by omega), List.getElem?_eq_none (show (Qb2 us i k z).length <= i by omega)]
theorem QhV {us : List UR} {i k : Nat} {z : CR} (hi : i < us.length) (hk : k < us[i].cs.length) {us2 : List UR} (e : us2 = Qb2 us i k z) (hi2 : i < us2.length) (hk2 : k < us2[i].cs.length) : us2[i].cs[k] = z := by
 subst e
 have e1 := QaB (i := i) (k := k) (z := z) hi
 rw [if_pos rfl] at e1
 have e2 : (Qb2 us i k z)[i].cs[k] = (QdO us[i] k z).cs[k]'(by simpa [QdO] using hk) := by congr 1; rw [e1]
 rw [e2]; simp [QdO]
theorem Qm6 {cs : List CR} {k : Nat} {z : CR} (hk : k < cs.length) (hz : cs[k] = z) : (cs.map dCR)[((k : Nat) : Int).toNat]? = some (dCR z) := by rw [QoN hk, hz]
theorem QmF {cs : List CR} {k : Nat} {row : List D} (hk : k < cs.length) : ((cs.map dCR).set ((k : Nat) : Int).toNat row)[((k : Nat) : Int).toNat]? = some row := by
 rw [Int.toNat_natCast, List.getElem?_set_self (by simpa using hk)]
theorem Qhz {K k e t : Nat} {L : List (List D)} {r1 r2 : List D} {p : Bool} {H : List (Nat × Box)} : lk ((K, (⟨(L.set k r1).set k r2, e, t, p⟩ : Box)) :: H) K = some ⟨L.set k r2, e, t, p⟩ := by rw [Qy, List.set_set]
theorem Qd7 {H : List (Nat × Box)} {kk m e t : Nat} {ys : List (List D)} {v : Vr} {sh : Int} (h : lk H kk = some ⟨ys, e, t, true⟩) (hm : m = ys.length) : ([D.int .i64 v.a, .int .i64 v.b, .int .i64 v.c, .str v.p, .str v.q, .int .i64 sh, .osl kk m, .fsl []].map (D.fzS H (· == kk))).map D.canS = [.int .i64 v.a, .int .i64 v.b, .int .i64 v.c, .str v.p, .str v.q, .int .i64 sh, .sl ys, .sl []] := by
 simp only [List.map_cons, List.map_nil, D.fzS, beq_self_eq_true, if_true, h, hm, and_self, D.canS]
theorem Qkr {H : List (Nat × Box)} {kk m e t : Nat} {ys : List (List D)} {v : Vr} {sh : Int} {ns : List (List WantT)} (h : lk H kk = some ⟨ys, e, t, true⟩) (hm : m = ys.length) : ([D.int .i64 v.a, .int .i64 v.b, .int .i64 v.c, .str v.p, .str v.q, .int .i64 sh, QV ns, .osl kk m].map (D.fzS H (· == kk))).map D.canS = [.int .i64 v.a, .int .i64 v.b, .int .i64 v.c, .str v.p, .str v.q, .int .i64 sh, QV ns, .sl ys] := by
 simp only [QV, List.map_cons, List.map_nil, D.fzS, beq_self_eq_true, if_true, h, hm, and_self, D.canS]
theorem Qot {us : List UR} {eu ec eg : Nat} {L : List Int} {J J2 : Int} {b4 : Box} (k : Nat) : lk ((12, gB L J2 eg) :: wA us eu ec eg L J b4) k = lk (wA us eu ec eg L J2 b4) k := by
 show lk ((12, _) :: (500000, _) :: (12, _) :: (4, _) :: fbx ec us) k = lk ((500000, _) :: (12, _) :: (4, _) :: fbx ec us) k
 by_cases e : 12 = k
 ·subst e; rfl
 ·rw [Qm, if_neg e, Qm, Qm (k := 500000)]
  split
  ·rfl
  ·rw [Qm, if_neg e, Qm (k := 12), if_neg e]
theorem QiD {cs : List CR} {k e t : Nat} {row : List D} (h : ∀ z ∈ cs, PureC z) (hr : ∀ d ∈ row, ∀ j ∈ d.sid, j = 64) : ∀ j ∈ Box.ids ⟨(cs.map dCR).set k row, e, t, false⟩, j = 64 := fun j hj => by
 simp only [Box.ids, Bool.false_eq_true, if_false, List.mem_flatMap] at hj
 obtain ⟨r, hrm, d, hd, hj⟩ := hj
 rcases QdH hrm with rfl | hrm
 ·exact hr d hd j hj
 ·obtain ⟨z, hz, rfl⟩ := List.mem_map.1 hrm
  rw [(h z hz).all d hd] at hj; cases hj
theorem Qpx {us : List UR} {eu ec eg : Nat} {L : List Int} {J : Int} {b4 b64 : Box} {n i k : Nat} (h : Prog n us i k) (hi : i < us.length) (hk : k < us[i].cs.length) {zx : CR} (hv : QcH zx.v) (hrow : zx.x.sid = [] /\ zx.y.sid = [64] /\ zx.z.sid = []) (hb4 : b4.pr = true) (h64 : b64.pr = true) :
  Fam ((500001 + i, ⟨(us[i].cs.map dCR).set k (dCR zx), 8, ec, false⟩) :: (64, b64) :: wA us eu ec eg L J b4) 12 500000 eu ec (Qb2 us i k zx) /\ Closed ((500001 + i, ⟨(us[i].cs.map dCR).set k (dCR zx), 8, ec, false⟩) :: (64, b64) :: wA us eu ec eg L J b4) := by
 refine ⟨⟨by decide, ⟨false, ?_⟩, fun y hy => ?_, fun y hy => ?_⟩, ?_⟩
 ·rw [Qm, if_neg (by omega), Qm, if_neg (by decide), Qeh, QjD]
 ·obtain ⟨j, hj, rfl⟩ := List.getElem_of_mem hy
  have hK' := Qdn (i := i) (k := k) (z := zx) h.keys
  have hj' := hj
  rw [Zt] at hj'
  refine ⟨by rw [hK' j hj]; omega, ?_⟩
  rw [hK' j hj]
  by_cases e : i = j
  ·subst e
   refine ⟨false, ?_⟩
   rw [Qy, QaB hj', if_pos rfl, QdO, List.map_set]
  ·refine ⟨true, ?_⟩
   rw [Qm, if_neg (by omega), Qm, if_neg (by omega), QcG h.keys hj', QaB hj', if_neg e]
 ·obtain ⟨j, hj, rfl⟩ := List.getElem_of_mem hy
  have hj' := hj
  rw [Zt] at hj'
  rw [QaB hj']
  have hfam := h.fam us[j] (List.getElem_mem _)
  split
  ·refine ⟨by simpa [QdO] using hfam.1, fun z hz => ?_⟩
   rcases QdH hz with rfl | hz
   ·exact hv
   ·exact hfam.2 z hz
  ·exact hfam
 ·refine ((Qac h.keys hb4).pr h64).cons fun j hj => ?_
  have := QiD (e := 8) (t := ec) (k := k) (row := dCR zx) (fun z hz => (h.pure hi z hz).1) (fun d hd j hj => by
   simp only [dCR, List.mem_cons, List.not_mem_nil, or_false] at hd
   rcases hd with rfl | rfl | rfl | rfl | rfl | rfl | rfl | rfl
   ·cases hj
   ·cases hj
   ·cases hj
   ·cases hj
   ·cases hj
   ·rw [hrow.1] at hj; cases hj
   ·rw [hrow.2.1] at hj; simpa using hj
   ·rw [hrow.2.2] at hj; cases hj) j hj
  subst this; exact QY
theorem Prog.start {us : List UR} (h : UnitsIn us) (h2 : 2 <= us.length) (h11 : us.length <= 11) : Prog us.length us 0 0 := by
 refine ⟨h.keys, ⟨rfl, h2, h11⟩, fun u hu => (h.fresh u hu).1, fun j hj m hm hd => by omega, fun j hj m hm _ => ?_⟩
 obtain ⟨v, sh, e, hv⟩ := (h.fresh _ (List.getElem_mem hj)).2 _ (List.getElem_mem hm)
 exact ⟨v, sh, e, hv⟩
theorem Qdz {n : Nat} {m : Int} {v : Vr} {sh : Int} {ns : List (List WantT)} (hv : QcH v) (h : Qel n m ns) (hm : m <= 3) : Qaf n ⟨v, sh, ns, []⟩ :=
 ⟨hv, by show ns.length <= 10; have := h.1; omega, fun r hr => ⟨(h.2 r hr).1, fun x hx => ((h.2 r hr).2 x hx).w⟩, Nat.zero_le _, fun x hx => by cases hx⟩
theorem Qhe {n i : Nat} {m : Int} {v : Vr} {sh : Int} {ns : List (List WantT)} (hv : QcH v) (h : Qel n m ns) (hm : m <= 3) (h1 : 1 <= i) (hi : i < n) : Qaf n ⟨v, sh, [⟨(i : Int) - 1, Xa v.a v.b v.c v.p v.q⟩] :: ns, []⟩ := by
 refine ⟨hv, by show (_ :: ns).length <= 10; have := h.1; simp only [List.length_cons]; omega, fun r hr => ?_, Nat.zero_le _, fun x hx => by cases hx⟩
 rcases List.mem_cons.1 hr with rfl | hr
 ·refine ⟨by simp, fun x hx => ?_⟩
  simp only [List.mem_singleton] at hx; subst hx
  have := QbW (a := v.a) (b := v.b) (c := v.c) (q := v.q) hv.1
  exact ⟨by show 0 <= (i : Int) - 1; omega, by show (i : Int) - 1 < n; omega, this.1.up (by omega), this.2.up (by omega)⟩
 ·exact ⟨(h.2 r hr).1, fun x hx => ((h.2 r hr).2 x hx).w⟩
theorem Qhd {n : Nat} {v : Vr} {sh : Int} {ns : List (List WantT)} (h : Qaf n ⟨v, sh, ns, []⟩) {x : WantT} (hx : WantIn n x) : Qaf n ⟨v, sh, ns, [x]⟩ := ⟨h.v, h.nl, h.nr, by simp, by intro y hy; simp only [List.mem_singleton] at hy; subst hy; exact hx.w⟩
theorem QhW {us : List UR} {i k : Nat} {z : CR} (hi : i < us.length) (hk : k < us[i].cs.length) {us2 : List UR} (e : Qb2 us i k z = us2) (hi2 : i < us2.length) : k < us2[i].cs.length := by
 rw [<- Qaw hi2, <- e, Qam, Qaw hi]; exact hk
theorem QmC {l : List (List WantT)} : ∀ r ∈ l.map (fun r => [Zb r]), r.length = 1 := fun r hr => by obtain ⟨x, _, rfl⟩ := List.mem_map.1 hr; rfl
end M25
namespace M25
open Go Go.Abs M3
/-! ### Trails that may be -/
end M25
namespace M25
open Go Go.Abs M3
/-! ### What every program says -/
/-! ### A world's facts, and more -/
end M25
namespace M25
open Go Go.Abs M3
/-! ### Powers of two -/
/-! ### Steps that may be: the program's -/
/-! ### Deciding -/
end M25
namespace M25
open Go Go.Abs M3
/-! ### Back, Sure, When -/
/-! ### What valid trails are -/
/-! ### Levels -/
end M25
namespace M25
open Go Go.Abs M3
def Qjo {α : Type} (p : α -> Bool) (l : List α) : Int := match l.findIdx? p with
 | some i => i
 | none => -1
theorem XR {α : Type} {p : α -> Bool} {l : List α} {i : Nat} (h : i < l.length) (ha : (l.take i).any p = false) (hp : p l[i] = true) : Qjo p l = i := by
 have e : l.findIdx? p = some i := by
  rw [List.findIdx?_eq_some_iff_getElem]
  refine ⟨h, hp, fun j hj => ?_⟩
  have := List.any_eq_false.1 ha l[j] (by
   rw [List.mem_take_iff_getElem]
   exact ⟨j, by omega, rfl⟩)
  simpa using this
 rw [Qjo, e]
theorem Qjf {α : Type} {p : α -> Bool} {l : List α} {i : Nat} (h : l.length <= i) (ha : (l.take i).any p = false) : Qjo p l = -1 := by
 have e : l.findIdx? p = none := by
  rw [List.findIdx?_eq_none_iff]
  rw [List.take_of_length_le h] at ha
  intro x hx
  simpa using List.any_eq_false.1 ha x hx
 rw [Qjo, e]
theorem Qkz {α : Type} (p : α -> Bool) (l : List α) : decide (Qjo p l >= 0) = l.any p := by
 cases e : l.findIdx? p with
 | none =>
  rw [Qjo, e]
  rw [List.findIdx?_eq_none_iff] at e
  have : l.any p = false := List.any_eq_false.2 fun x hx => by simpa using e x hx
  rw [this]; rfl
 | some i =>
  rw [Qjo, e]
  rw [List.findIdx?_eq_some_iff_getElem] at e
  obtain ⟨h, hp, _⟩ := e
  rw [Qh8 h hp]
  simp
/-! ### The first row of lefts -/
end M25
namespace M25
open Go Go.Abs M3
/-! ### When, QgV by QgV -/
/-! ### The Qfy world -/
end M25
namespace M25
open Go Go.Abs M3
/-! ### What a run is: steps, one open after the other -/
inductive Qlu (w : ZC) (db : List (List Qfi)) : List Qbe -> List Qbe -> Prop
 | nil (l : List Qbe) : Qlu w db l l
 | cons {l x : List Qbe} (a k : Nat) (ho : QnM w db l a k) (h : Qlu w db (l ++ [Qpw w l ((db[a]'ho.ha)[k]'ho.hk) a]) x) : Qlu w db l x
section
variable {w : ZC} {db : List (List Qfi)}
def Below (w : ZC) (b l : List Qbe) : Prop := ∀ u i, tb (Qfs w b u) i = true -> tb (Qfs w l u) i = true
/-! ### Sound: a choice stays -/
end
end M25
namespace M25
open Go Go.Abs M3
end M25
namespace M25
open Go Go.Abs M3
/-! ### More of runs -/
end M25
namespace M25
open Go Go.Abs M3
/-! ### The facts in another order -/
end M25
namespace M25
open Go Go.Abs M3
/-! ### How long a run is -/
structure Good (w : ZC) (l : List Qbe) : Prop where
 p : QnN w l
 nz : ∀ u, inW w u = true -> Qfs w l u ≠ 0
 le : ∀ u i, tb (Qfs w l u) i = true -> tb (Qod w u) i = true
end M25
namespace M25
open Go Go.Abs M3
/-! ### Masks are of values that there are -/
/-! ### Each QgV of a run -/
end M25
namespace M25
open Go Go.Abs M3
end M25
namespace M25
open Go Go.Abs M3
/-! ### Derive again -/
/-! ### Sure, and what holds -/
end M25
namespace M25
open Go Go.Abs M3
/-! ### The choice that a trail has decided -/
end M25
namespace Go.Proofs
open Go Go.Abs M3 M25
set_option linter.unusedVariables false
set_option linter.unusedSimpArgs false
theorem Yn {a b : List Int} (ha : a.length <= 10000000) : Ok Tryz.prog 21 [dInts a, dInts b] (.bool (decide (a = b))) := by
 refine Ok.ofT ZY Tryz.func21 QpJ (Nat.le_of_ble_eq_true Z) ?_
 show TW _ _ tf21.body _ _
 refine Qe fun K hK => Qa Z (hK _ _ (Qb (kp2 Z Z) ?_))
 refine QF ?_ -- 0
 refine Qe fun K hK => Qa Z ?_
 first | refine QQ rfl QU ?_ | refine QQ rfl rfl ?_
 refine Qa Z ?_
 first | refine QQ rfl QU ?_ | refine QQ rfl rfl ?_
 refine Xo Z Z (hK _ _ (Qb (kp3 Z Z Z) ?_))
 refine Qx Z (fun h1 => ?_) (fun h1 => ?_)
 ·try rw [h1]
  try simp only [qA] at h1
  refine Qe fun K hK => Qa Z (hK _ _ (Qb (kp1 Z) ?_))
  refine Qu (Qj (Qp Z ?_))
  rw [decide_eq_false fun e => h1 (by rw [e])]
 ·try rw [h1]
  try simp only [qA] at h1
  refine Qv (Qd (kp2 Z Z) ?_)
  refine QF ?_ -- 1
  refine Qe fun K hK => Qa Z (hK _ _ (Qb (kp3 Z Z Z) ?_))
  refine QC ?_
  refine ZB (ι := Nat) (fun i => ⟨[(0, dInts a), (1, dInts b), (5, .int .i64 i)], []⟩) (fun i => i <= a.length /\ a.take i = b.take i) (fun i => a.length - i) 0 ?_ ?_ ?_
  ·exact QP (kp3 rfl rfl rfl)
  ·exact ⟨Nat.zero_le _, by simp⟩
  intro i hI
  try dsimp only
  refine QF ?_ -- 2
  refine Qe fun K hK => Qa Z (Qa Z ?_)
  first | refine QQ rfl QU ?_ | refine QQ rfl rfl ?_
  refine Z7 Z Z (hK _ _ (Qb (kp4 Z Z Z Z) ?_))
  refine Qx Z (fun h2 => ?_) (fun h2 => ?_)
  ·try rw [h2]
   try simp only [qA] at h2
   refine Qv (Qd (kp3 Z Z Z) ?_)
   refine QF ?_ -- 3
   refine QC (Qe fun K hK => Qa Z (Qa Z (QK Z Z Z (by omega) (Q1 (by omega)) Z (Zl (ds0 := [0]) Z Z Z Z Z (Qa Z (Qa Z (QK Z Z Z (by omega) (Q1 (by omega)) Z (Zl (ds0 := [0]) Z Z Z Z Z ?_))))))))
   first | refine Xo rfl rfl ?_ | refine Qg1 rfl rfl ?_
   refine hK _ _ (Qb (kp4 Z Z Z Z) ?_)
   refine Qx Z (fun h3 => ?_) (fun h3 => ?_)
   ·try rw [h3]
    try simp only [qA] at h3
    refine Qe fun K hK => Qa Z (hK _ _ (Qb (kp1 Z) ?_))
    refine Qu (Qs (Qj (Q3 (Qs (Qj (Qp Z ?_))))))
    rw [Qk8 (i := i) (by omega) (by omega) h3]
   ·try rw [h3]
    try simp only [qA] at h3
    refine Qv (Qg (Qd (kp3 Z Z Z) (QO fun K hK => Qa Z (Q7 Z Z (by first | exact Qr (by omega) (by omega) | exact QG (by omega) (by omega) | exact QL (by omega) (by omega) | rfl) (Qa Z (hK _ ?_))))))
    refine Qh (i + 1) ?_ ?_ ?_
    ·exact QP (kp3 rfl rfl rfl)
    ·exact ⟨by omega, QhZ (by omega) (by omega) hI.2 h3⟩
    ·first | omega | (simp only; omega) | (dsimp only; omega)
  ·try rw [h2]
   try simp only [qA] at h2
   refine Zf (QH (Qt (QB (Qd (QT) (Qe fun K hK => Qa Z (hK _ _ (Qb (kp1 Z) ?_)))))))
   refine Qu (Qp Z ?_)
   rw [List.take_of_length_le (by omega), List.take_of_length_le (by omega)] at hI; exact (decide_eq_true hI.2).symm
end Go.Proofs
namespace Go.Proofs
open Go Go.Abs M3 M25
set_option linter.unusedVariables false
set_option linter.unusedSimpArgs false
theorem Xk {s : St} {args : List Opd} {kg : Nat} {L : List Int} {I n : Int} {et : Nat} (ha : Zx s args = some [.ref kg 0 0, .int .i64 n]) (hg : lk s.H kg = some (gB L I et)) (hL : ∀ x ∈ L, I64 x) (hn : n <= 9223372036854775807) : Qbh Tryz.prog 34 args s [(kg, gB L I et)] [] [(kg, gB L (nxI I) et)] (.int .i64 (nx L I n)) := by
 refine QiX (b' := gB L (nxI I) et) (ds' := [.ref (upN kg) 0 0, .int .i64 n]) ha (fun j x h => ?_) (fun k b hk j hj => ?_) (fun x hx j hj => ?_) ?_ Z Z Z Z ?_
 ·obtain ⟨rfl, rfl⟩ := XS h; exact hg
 ·obtain ⟨rfl, rfl⟩ := XS hk; simp [Box.ids, gB] at hj
 ·simp only [List.mem_cons, List.not_mem_nil, or_false] at hx
  rcases hx with rfl | rfl
  ·simp [D.ids, D.sid] at hj; subst hj; rw [Qy]; rfl
  ·simp [D.ids, D.sid] at hj
 ·rw [Qy]; rfl
 ·exact XE (by unfold upN; omega) hL hn et
theorem QcN {H : List (Nat × Box)} {kg kc : Nat} {L : List Int} {I : Int} {eg ec : Nat} {pr : Bool} {zs : List CR} (hkg : 1000000 <= kg) (hg : lk H kg = some (gB L I eg)) (hc : lk H kc = some ⟨zs.map dCR, 8, ec, pr⟩) (hne : kg ≠ kc) (hB : Big H) (hC : Closed H) (hL : ∀ x ∈ L, I64 x) (hz : ∀ z ∈ zs, QcH z.v) (hn : zs.length <= 16) : ∃ d H2, (∃ s I2, SetOk s /\ d = QgT s /\ H2 = (kg, gB L I2 eg) :: H) /\ OkH Tryz.prog 66 [.ref kg 0 0, .osl kc zs.length] H d H2 := by
 have hkc := hB _ _ hc
 refine OkH.ofX (R := fun d H2 => ∃ s I2, SetOk s /\ d = QgT s /\ H2 = (kg, gB L I2 eg) :: H) ZY Tryz.func66 Qqi (Nat.le_of_ble_eq_true Z) ?_
 show TX _ _ tf66.body _ _
 refine Q8 fun K hK => ?_
 refine ZF (by repeat (first | exact hB.none (by decide) | refine Zs (by first | decide | omega) ?_)) ?_
 refine hK _ _ (QN (kp3 Z Z Z) ?_)
 refine Q8 fun K hK => Qa Z (Z5 (Xk (I := I) Z (Ql (by omega) hg) hL (by omega)) (Qa Z (hK _ _ (QN (kp4 Z Z Z Z) ?_))))
 refine Q8 fun K hK => QE (Z3) Z Z (.inl Z) ?_
 refine ZF (by repeat (first | exact hB.none (by decide) | refine Zs (by first | decide | omega) ?_)) ?_
 refine QX Z Z Z Z Z Z Z Z (hK _ _ (QN (kp5 Z Z Z Z Z) ?_))
 refine XC ?_ -- 0
 refine Q8 fun K hK => Qa Z (hK _ _ (QN (kp6 Z Z Z Z Z Z) ?_))
 refine Yx ?_
 refine QdR (ι := Nat × Qh2) (fun ⟨i, s⟩ => ⟨[(0, .ref kg 0 0), (1, .osl kc zs.length), (4, .ref 4 0 0), (5, .int .i64 (nx L I 8)), (6, .ref 6 0 0), (7, .int .i64 i)], [(4, ⟨[[.fsl [], .fsl []]], 2, 78, true⟩), (6, ⟨[[ZP s.1, ZP s.2]], 2, 78, true⟩), (kg, gB L (nxI I) eg)] ++ H⟩) (fun ⟨i, s⟩ => i <= zs.length /\ QjJ (bnd i - 4) s) (fun ⟨i, s⟩ => zs.length - i) (0, ([], [])) ?_ ?_ ?_
 ·exact QeS (l := [0, 1, 4, 5, 6, 7]) (B := [_, _, _, _]) (kp6 rfl rfl rfl rfl rfl rfl) rfl (by intro p hp; simp only [List.mem_cons, List.not_mem_nil, or_false] at hp; rcases hp with rfl | rfl | rfl <;> exact ⟨by repeat (first | exact Qy | refine Ql (by first | decide | omega) ?_), rfl⟩) rfl (by intro p hp h; simp only [List.mem_cons, List.not_mem_nil, or_false] at hp; rcases hp with rfl | rfl | rfl | rfl <;> first | (simp only at h; omega) | (repeat (first | exact QY | refine QW ?_))) hB hC (by intro p hp k hk; simp only [List.mem_cons, List.not_mem_nil, or_false] at hp; rcases hp with rfl | rfl | rfl | rfl | rfl | rfl <;> first | (simp [D.ids, D.sid, Zb, QV, dInts] at hk; done) | (simp [D.ids, D.sid, Zb, QV, dInts] at hk; subst hk; repeat (first | exact QY | exact Zq hg | exact Zq hc | refine QW ?_)))
 ·exact ⟨Nat.zero_le _, SmN.nil _, SmN.nil _⟩
 intro ⟨i, s⟩ hI
 try dsimp only at hI
 have hb16 := Qmm (i := i) (by omega)
 try dsimp only
 refine XC ?_ -- 1
 refine Q8 fun K hK => Qa Z (Qa Z ?_)
 first | refine QQ rfl QU ?_ | refine QQ rfl rfl ?_
 refine Z7 Z Z (hK _ _ (QN (kp7 Z Z Z Z Z Z Z) ?_))
 refine YA Z (fun h1 => ?_) (fun h1 => ?_)
 ·try rw [h1]
  try simp only [qA] at h1
  refine YR (Q6 (kp6 Z Z Z Z Z Z) ?_)
  refine XC ?_ -- 2
  refine Yx (Q8 fun K hK => Qa Z (Qa Z (Qen Z (QgQ (by omega) (by omega)) (QnV Z Z (by omega) (QnO Z Z (YF Z Z (hK _ _ (QN (kp7 Z Z Z Z Z Z Z) ?_))))))))
  refine YA Z (fun h2 => ?_) (fun h2 => ?_)
  ·try rw [h2]
   try simp only [qA] at h2
   have hvp := (hz _ (List.getElem_mem (show i < zs.length by omega))).1
   refine ZI fun K hK => Q2 (ds0 := [1, 0]) (cs := [_, _]) Z Z Z Z (by simp [Dr.ok, Qbv]) Z (Qa Z (Qa Z (Qbm (ds0 := [4, 3, 2, 1, 0]) Z Z (Ql (by omega) (Ql (by omega) (Ql (by omega) hc))) (by simp) (by omega) (by omega) Z (by simp [Dr.ok, Qbv]) Z (Qn Z (Zq (Ql (by omega) (Ql (by omega) (Ql (by omega) hc)))) (Q2 (ds0 := [2, 1, 0]) (cs := [_, _, _, _, _]) Z (Yg (Ql (by omega) (Ql (by omega) (Ql (by omega) hc))) (Q1 (by omega))) Z Z (by simp [Dr.ok, Qbv]) Z (Zi (ds0 := [1, 0]) (XN (hz _ (List.getElem_mem (by omega))).1 (hz _ (List.getElem_mem (by omega))).2) Z Z (.inl Z) (by simp [Dr.ok, Qbv]) Z (Zi (ds0 := [0]) (Qdv (a := s) (b := (Xa (zs[i]'(by omega)).v.a (zs[i]'(by omega)).v.b (zs[i]'(by omega)).v.c (zs[i]'(by omega)).v.p (zs[i]'(by omega)).v.q)) (hI.2.1.sm (by omega)) (hI.2.2.sm (by omega)) ((QbW hvp).1.sm (by omega)) ((QbW hvp).2.sm (by omega)) (by have := hI.2.1.1; have := (QbW (a := (zs[i]'(by omega)).v.a) (b := (zs[i]'(by omega)).v.b) (c := (zs[i]'(by omega)).v.c) (q := (zs[i]'(by omega)).v.q) hvp).1.1; omega) (by have := hI.2.2.1; have := (QbW (a := (zs[i]'(by omega)).v.a) (b := (zs[i]'(by omega)).v.b) (c := (zs[i]'(by omega)).v.c) (q := (zs[i]'(by omega)).v.q) hvp).2.1; omega)) Z Z (.inl Z) (by simp [Dr.ok, Qbv]) Z (Xc (ds0 := []) Z Z Z Z Z Z Z Z (by simp [Dr.ok, Qbv]) Z (hK _ ?_)))))))))
   refine Qg (Q6 (kp6 Z Z Z Z Z Z) (ZI fun K hK => Qa Z (Q7 Z Z (by first | exact Qr (by omega) (by omega) | rfl) (Qa Z (hK _ ?_)))))
   refine Qh (i + 1, Qmv s (Xa (zs[i]'(by omega)).v.a (zs[i]'(by omega)).v.b (zs[i]'(by omega)).v.c (zs[i]'(by omega)).v.p (zs[i]'(by omega)).v.q)) ?_ ?_ ?_
   ·exact QeS (l := [0, 1, 4, 5, 6, 7]) (B := [_, _, _, _]) (kp6 rfl rfl rfl rfl rfl rfl) rfl (by intro p hp; simp only [List.mem_cons, List.not_mem_nil, or_false] at hp; rcases hp with rfl | rfl | rfl <;> exact ⟨by repeat (first | exact Qy | refine Ql (by first | decide | omega) ?_), rfl⟩) rfl (by intro p hp h; simp only [List.mem_cons, List.not_mem_nil, or_false] at hp; rcases hp with rfl | rfl | rfl | rfl <;> first | (simp only at h; omega) | (repeat (first | exact QY | refine QW ?_))) hB hC (by intro p hp k hk; simp only [List.mem_cons, List.not_mem_nil, or_false] at hp; rcases hp with rfl | rfl | rfl | rfl | rfl | rfl <;> first | (simp [D.ids, D.sid, Zb, QV, dInts] at hk; done) | (simp [D.ids, D.sid, Zb, QV, dInts] at hk; subst hk; repeat (first | exact QY | exact Zq hg | exact Zq hc | refine QW ?_)))
   ·exact ⟨by show i + 1 <= _; omega, Qom hI.2 (hz _ (List.getElem_mem (by omega))).1 (by omega)⟩
   ·show zs.length - (i + 1) < zs.length - i; omega
  ·try rw [h2]
   try simp only [qA] at h2
   have hvp := (hz _ (List.getElem_mem (show i < zs.length by omega))).1
   refine YR (Qg (Q6 (kp6 Z Z Z Z Z Z) (ZI fun K hK => Qa Z (Q7 Z Z (by first | exact Qr (by omega) (by omega) | rfl) (Qa Z (hK _ ?_))))))
   refine Qh (i + 1, s) ?_ ?_ ?_
   ·exact QeS (l := [0, 1, 4, 5, 6, 7]) (B := [_, _, _]) (kp6 rfl rfl rfl rfl rfl rfl) rfl (by intro p hp; simp only [List.mem_cons, List.not_mem_nil, or_false] at hp; rcases hp with rfl | rfl | rfl <;> exact ⟨by repeat (first | exact Qy | refine Ql (by first | decide | omega) ?_), rfl⟩) rfl (by intro p hp h; simp only [List.mem_cons, List.not_mem_nil, or_false] at hp; rcases hp with rfl | rfl | rfl <;> first | (simp only at h; omega) | (repeat (first | exact QY | refine QW ?_))) hB hC (by intro p hp k hk; simp only [List.mem_cons, List.not_mem_nil, or_false] at hp; rcases hp with rfl | rfl | rfl | rfl | rfl | rfl <;> first | (simp [D.ids, D.sid, Zb, QV, dInts] at hk; done) | (simp [D.ids, D.sid, Zb, QV, dInts] at hk; subst hk; repeat (first | exact QY | exact Zq hg | exact Zq hc | refine QW ?_)))
   ·exact ⟨by show i + 1 <= _; omega, Ql9 hI.2⟩
   ·show zs.length - (i + 1) < zs.length - i; omega
 ·try rw [h1]
  try simp only [qA] at h1
  refine Qci (Y0 (Qt (QB (Q6 (kp3 Z Z Z) ?_))))
  refine XC ?_ -- 3
  refine Q8 fun K hK => Qa Z (Z5 (Xk (I := nxI I) Z (Ql (by omega) (Ql (by omega) Qy)) hL (by omega)) (hK _ _ (QN (kp3 Z Z Z) ?_)))
  refine Yx (Q8 fun K hK => YF Z Z (Qa Z (hK _ _ (QN (kp4 Z Z Z Z) ?_))))
  refine YA Z (fun h3 => ?_) (fun h3 => ?_)
  ·try rw [h3]
   try simp only [qA] at h3
   refine Q8 fun K hK => QE (QcR) Z Z (.inl Z) (QX Z (Ql (by omega) Z) Z Z Z Z Z Z (hK _ _ (QN (kp1 Z) ?_)))
   refine Qfj (Qs (QjC ?_))
   refine ⟨QgT Qka, (kg, gB L (nxI (nxI I)) eg) :: H, ⟨Qka, _, ⟨Qmj.1.up (by omega), Qmj.2.up (by omega)⟩, rfl, rfl⟩, (XB hB hC hkg rfl).1, (XB hB hC hkg rfl).2, ?_⟩
   refine Qb1 (cs := [ZP Qka.1, ZP Qka.2]) Z (Yg (by repeat (first | exact Qy | refine Ql (by first | decide | omega) ?_)) Z) Z Z Z ?_
   exact Qan (B := [_, _, _, _, _]) hB (by repeat (first | exact Qy | refine Ql (by first | decide | omega) ?_)) (by intro p hp h; simp only [List.mem_cons, List.not_mem_nil, or_false] at hp; rcases hp with rfl | rfl | rfl | rfl | rfl <;> first | rfl | (simp only at h; omega))
  ·try rw [h3]
   try simp only [qA] at h3
   refine Q8 fun K hK => YF Z Z (Qa Z (hK _ _ (QN (kp3 Z Z Z) ?_)))
   refine YA Z (fun h4 => ?_) (fun h4 => ?_)
   ·try rw [h4]
    try simp only [qA] at h4
    refine Q8 fun K hK => QR (cs := [_, _]) Z (Yg (Ql (by omega) Z) Z) Z Z (QE (QcS (a := s) (hI.2.1.sm (by omega)) (hI.2.2.sm (by omega))) Z Z (.inl Z) (QX Z (Ql (by omega) Z) Z Z Z Z Z Z (hK _ _ (QN (kp1 Z) ?_))))
    refine Qfj (Qs (QjC ?_))
    refine ⟨QgT (Qgv s), (kg, gB L (nxI (nxI I)) eg) :: H, ⟨(Qgv s), _, ⟨(QkO hI.2 (by omega)).1.up (by omega), (QkO hI.2 (by omega)).2.up (by omega)⟩, rfl, rfl⟩, (XB hB hC hkg rfl).1, (XB hB hC hkg rfl).2, ?_⟩
    refine Qb1 (cs := [ZP (Qgv s).1, ZP (Qgv s).2]) Z (Yg (by repeat (first | exact Qy | refine Ql (by first | decide | omega) ?_)) Z) Z Z Z ?_
    exact Qan (B := [_, _, _, _, _]) hB (by repeat (first | exact Qy | refine Ql (by first | decide | omega) ?_)) (by intro p hp h; simp only [List.mem_cons, List.not_mem_nil, or_false] at hp; rcases hp with rfl | rfl | rfl | rfl | rfl <;> first | rfl | (simp only at h; omega))
   ·try rw [h4]
    try simp only [qA] at h4
    refine YR (Qg (Q6 (kp2 Z Z) (Q8 fun K hK => QR (cs := [_, _]) Z (Yg (Ql (by omega) Z) Z) Z Z (QX Z (Ql (by omega) Z) Z Z Z Z Z Z (hK _ _ (QN (kp1 Z) ?_))))))
    refine Qfj ?_
    refine ⟨QgT s, (kg, gB L (nxI (nxI I)) eg) :: H, ⟨s, _, ⟨hI.2.1.up (by omega), hI.2.2.up (by omega)⟩, rfl, rfl⟩, (XB hB hC hkg rfl).1, (XB hB hC hkg rfl).2, ?_⟩
    refine Qb1 (cs := [ZP s.1, ZP s.2]) Z (Yg (by repeat (first | exact Qy | refine Ql (by first | decide | omega) ?_)) Z) Z Z Z ?_
    exact Qan (B := [_, _, _, _, _]) hB (by repeat (first | exact Qy | refine Ql (by first | decide | omega) ?_)) (by intro p hp h; simp only [List.mem_cons, List.not_mem_nil, or_false] at hp; rcases hp with rfl | rfl | rfl | rfl | rfl <;> first | rfl | (simp only at h; omega))
end Go.Proofs
namespace Go.Proofs
open Go Go.Abs M3 M25
set_option linter.unusedVariables false
set_option linter.unusedSimpArgs false
/-- The call of 'set', over boxes that are lent. -/
theorem QoU {H : List (Nat × Box)} {kg kc : Nat} {L : List Int} {I : Int} {eg ec : Nat} {pr : Bool} {zs : List CR} (hg : lk H kg = some (gB L I eg)) (hc : lk H kc = some ⟨zs.map dCR, 8, ec, pr⟩) (hne : kg ≠ kc) (hC : Closed H) (hL : ∀ x ∈ L, I64 x) (hz : ∀ z ∈ zs, QcH z.v) (hn : zs.length <= 16) :
  ∃ s I2, SetOk s /\ ∀ (st : St) (args : List Opd), Zx st args = some [.ref kg 0 0, .osl kc zs.length] -> (∀ j x, lk H j = some x -> lk st.H j = some x) -> Qbh Tryz.prog 66 args st H [] [(kg, gB L I2 eg)] (QgT s) := by
 obtain ⟨d, H2, ⟨s, I2, hs, rfl, rfl⟩, hok⟩ := QcN (H := upH H) (kg := upN kg) (kc := upN kc) (L := L) (I := I) (eg := eg) (ec := ec) (pr := pr) (zs := zs.map CR.ren) (by unfold upN; omega) (by rw [Qao, hg]; rfl) (by rw [Qao, hc, Option.map_some, Box.ren, Qkf]) (fun e => hne (QiM e)) QiL (QdP hC) hL
  (fun z hz' => by obtain ⟨z0, h0, rfl⟩ := List.mem_map.1 hz'; exact hz z0 h0) (by simpa using hn)
 refine ⟨s, I2, hs, fun st args ha hF => QiX (b' := gB L I2 eg) (ds' := [.ref (upN kg) 0 0, .osl (upN kc) zs.length]) ha hF hC (fun x hx j hj => ?_) (Zq hg) Z Z Z Z ?_⟩
 ·simp only [List.mem_cons, List.not_mem_nil, or_false] at hx
  rcases hx with rfl | rfl
  ·simp [D.ids, D.sid] at hj; subst hj; exact Zq hg
  ·simp [D.ids, D.sid] at hj; subst hj; exact Zq hc
 ·rw [List.length_map] at hok; exact hok
theorem Qcs {H : List (Nat × Box)} {kg ku : Nat} {L : List Int} {I : Int} {eg eu ec : Nat} {us : List UR} (hkg : 1000000 <= kg) (hg : lk H kg = some (gB L I eg)) (hU : Fam H kg ku eu ec us) (hB : Big H) (hC : Closed H) (hL : ∀ x ∈ L, I64 x) (h2n : 2 <= us.length) (hn : us.length <= 48) : ∃ d H2, (∃ x I2, WantIn us.length x /\ d = .agg (Qfl x) /\ H2 = (kg, gB L I2 eg) :: H) /\ OkH Tryz.prog 35 [.ref kg 0 0, .osl ku us.length] H d H2 := by
 obtain ⟨pu, hu⟩ := hU.u
 have hku := hB _ _ hu
 have hne := hU.ne
 have hx0 := Qe1 (v := Qlp L (IntKind.i64.wrap (nxI I - 1))) (n := (us.length : Int) - 1)
 have hx1 := Qe0 (v := Qlp L (IntKind.i64.wrap (nxI I - 1))) (n := (us.length : Int) - 1) (by omega)
 change 0 <= nx L I ((us.length : Int) - 1) at hx0
 change nx L I ((us.length : Int) - 1) < _ at hx1
 obtain ⟨hyk, pr, hy⟩ := hU.c (us[(1 + nx L I ((us.length : Int) - 1)).toNat]'(by omega)) (List.getElem_mem _)
 obtain ⟨hv1, hv2⟩ := hU.v (us[(1 + nx L I ((us.length : Int) - 1)).toNat]'(by omega)) (List.getElem_mem _)
 obtain ⟨s, I2, hs, hcall⟩ := QoU (H := (kg, gB L (nxI I) eg) :: H) Qy (Ql (Ne.symm hyk) hy) (Ne.symm hyk) (hC.pr rfl) hL hv2 hv1
 refine OkH.ofX (R := fun d H2 => ∃ x I2, WantIn us.length x /\ d = .agg (Qfl x) /\ H2 = (kg, gB L I2 eg) :: H) ZY Tryz.func35 QpT (Nat.le_of_ble_eq_true Z) ?_
 show TX _ _ tf35.body _ _
 refine Q8 fun K hK => ?_
 refine ZF (by repeat (first | exact hB.none (by decide) | refine Zs (by first | decide | omega) ?_)) ?_
 refine hK _ _ (QN (kp3 Z Z Z) ?_)
 refine Q8 fun K hK => Qa Z (Qa Z ?_)
 first | refine QQ rfl QU ?_ | refine QQ rfl rfl ?_
 refine Qbn Z Z (by first | exact Qr (by omega) (by omega) | rfl) (Z5 (Xk (I := I) Z (Ql (by omega) hg) hL (by omega)) (Q7 Z Z (by first | exact Qr (by omega) (by omega) | rfl) (Qa Z (hK _ _ (QN (kp4 Z Z Z Z) ?_)))))
 refine Q8 fun K hK => Qa rfl (Qa rfl (Qa rfl (Qa rfl (Xy rfl rfl (Ql (by omega) (Ql (by omega) hu)) (by simp) (by omega) (by omega) rfl (Qn rfl (Zq (Ql (by omega) (Ql (by omega) hu))) (QI rfl (Yg (Ql (by omega) (Ql (by omega) hu)) (Y1 (by omega) (by omega))) rfl (Z5 (hcall _ _ rfl (Qan (B := [_, _]) hB Qy (by intro p hp h; simp only [List.mem_cons, List.not_mem_nil, or_false] at hp; rcases hp with rfl | rfl <;> first | rfl | (simp only at h; omega)))) (Q4 rfl rfl (QX rfl (Ql (by omega) (Ql (by omega) rfl)) rfl rfl rfl rfl rfl rfl (hK _ _ (QN (kp1 rfl) ?_)))))))))))
 refine Qfj ?_
 refine ⟨.agg (Qfl ⟨1 + nx L I ((us.length : Int) - 1), s⟩), (kg, gB L I2 eg) :: H, ⟨⟨1 + nx L I ((us.length : Int) - 1), s⟩, _, ⟨by show 1 <= 1 + _; omega, by show 1 + _ < (us.length : Int); omega, hs⟩, rfl, rfl⟩, (XB hB hC hkg rfl).1, (XB hB hC hkg rfl).2, ?_⟩
 refine Qb1 (cs := Qfl ⟨1 + nx L I ((us.length : Int) - 1), s⟩) Z (Yg (by repeat (first | exact Qy | refine Ql (by first | decide | omega) ?_)) Z) Z Z Z ?_
 exact Qan (B := [_, _, _, _]) hB (by repeat (first | exact Qy | refine Ql (by first | decide | omega) ?_)) (by intro p hp h; simp only [List.mem_cons, List.not_mem_nil, or_false] at hp; rcases hp with rfl | rfl | rfl | rfl <;> first | rfl | (simp only at h; omega))
/-- The call of 'want'. -/
theorem Qjv {H : List (Nat × Box)} {kg ku : Nat} {L : List Int} {I : Int} {eg eu ec : Nat} {us : List UR} (hg : lk H kg = some (gB L I eg)) (hU : Fam H kg ku eu ec us) (hC : Closed H) (hL : ∀ x ∈ L, I64 x) (h2 : 2 <= us.length) (hn : us.length <= 48) :
  ∃ x I2, WantIn us.length x /\ ∀ (st : St) (args : List Opd), Zx st args = some [.ref kg 0 0, .osl ku us.length] -> (∀ j x, lk H j = some x -> lk st.H j = some x) -> Qbh Tryz.prog 35 args st H [] [(kg, gB L I2 eg)] (.agg (Qfl x)) := by
 obtain ⟨d, H2, ⟨x, I2, hx, rfl, rfl⟩, hok⟩ := Qcs (H := upH H) (kg := upN kg) (ku := upN ku) (L := L) (I := I) (eg := eg) (eu := eu) (ec := ec) (us := us.map UR.ren) (by unfold upN; omega) (by rw [Qao, hg]; rfl) hU.up QiL (QdP hC) hL (by simpa using h2) (by simpa using hn)
 obtain ⟨pu, hu⟩ := hU.u
 rw [List.length_map] at hx hok
 refine ⟨x, I2, hx, fun st args ha hF => QiX (b' := gB L I2 eg) (ds' := [.ref (upN kg) 0 0, .osl (upN ku) us.length]) ha hF hC (fun x hx j hj => ?_) (Zq hg) Z Z Z Z hok⟩
 simp only [List.mem_cons, List.not_mem_nil, or_false] at hx
 rcases hx with rfl | rfl
 ·simp [D.ids, D.sid] at hj; subst hj; exact Zq hg
 ·simp [D.ids, D.sid] at hj; subst hj; exact Zq hu
end Go.Proofs
namespace Go.Proofs
open Go Go.Abs M3 M25
set_option linter.unusedVariables false
set_option linter.unusedSimpArgs false
theorem Qb8 {H : List (Nat × Box)} {kg ku : Nat} {L : List Int} {I most : Int} {eg eu ec : Nat} {us : List UR} (hkg : 1000000 <= kg) (hg : lk H kg = some (gB L I eg)) (hU : Fam H kg ku eu ec us) (hB : Big H) (hC : Closed H) (hL : ∀ x ∈ L, I64 x) (h2n : 2 <= us.length) (hn : us.length <= 48) (hm0 : 0 <= most) (hm1 : most <= 10) : ∃ d H2, (∃ ns I2, Qel us.length most ns /\ d = QV ns /\ H2 = (kg, gB L I2 eg) :: H) /\ OkH Tryz.prog 32 [.ref kg 0 0, .osl ku us.length, .int .i64 most] H d H2 := by
 obtain ⟨pu, hu⟩ := hU.u
 have hku := hB _ _ hu
 have hne := hU.ne
 have hk0 : 0 <= nx L I (most + 1) := Qe1
 have hk1 : nx L I (most + 1) < most + 1 := Qe0 (by omega)
 refine OkH.ofX (R := fun d H2 => ∃ ns I2, Qel us.length most ns /\ d = QV ns /\ H2 = (kg, gB L I2 eg) :: H) ZY Tryz.func32 QpQ (Nat.le_of_ble_eq_true Z) ?_
 show TX _ _ tf32.body _ _
 refine Q8 fun K hK => Qa Z (hK _ _ (QN (kp3 Z Z Z) ?_))
 refine Q8 fun K hK => Qa Z (hK _ _ (QN (kp4 Z Z Z Z) ?_))
 refine XC ?_ -- 0
 refine Q8 fun K hK => Qa Z (Qa Z (Q7 Z Z (by first | exact Qr (by omega) (by omega) | rfl) (Z5 (Xk (I := I) Z hg hL (by omega)) (Qa Z (hK _ _ (QN (kp4 Z Z Z Z) ?_))))))
 refine Yx ?_
 refine QdR (ι := Nat × List (List WantT) × Int) (fun ⟨k, ns, J⟩ => ⟨[(0, .ref kg 0 0), (1, .osl ku us.length), (7, .osl 7 ns.length), (8, .int .i64 k)], [(7, ⟨(ns).map (fun r => [Zb r]), 1, 60, true⟩), (kg, gB L J eg)] ++ H⟩) (fun ⟨k, ns, J⟩ => (ns.length : Int) + k <= most /\ ∀ r ∈ ns, Qg3 us.length r) (fun ⟨k, ns, J⟩ => k) ((nx L I (most + 1)).toNat, [], nxI I) ?_ ?_ ?_
 ·exact le_trans (Yh 7 7 1 60 rfl (by repeat (first | exact hB.none (by decide) | refine Zs (by first | decide | omega) ?_))) (QeS (l := [0, 1, 7, 8]) (B := [_, _]) (kp4 rfl rfl rfl rfl) (by simp only [Int.toNat_of_nonneg hk0] <;> rfl) (by intro p hp; simp only [List.mem_cons, List.not_mem_nil, or_false] at hp; rcases hp with rfl | rfl <;> exact ⟨by repeat (first | exact Qy | refine Ql (by first | decide | omega) ?_), rfl⟩) rfl (by intro p hp h; simp only [List.mem_cons, List.not_mem_nil, or_false] at hp; rcases hp with rfl | rfl <;> first | (simp only at h; omega) | (repeat (first | exact QY | refine QW ?_))) hB hC (by intro p hp k hk; simp only [List.mem_cons, List.not_mem_nil, or_false] at hp; rcases hp with rfl | rfl | rfl | rfl <;> first | (simp [D.ids, D.sid, Zb, QV, dInts] at hk; done) | (simp [D.ids, D.sid, Zb, QV, dInts] at hk; subst hk; repeat (first | exact QY | exact Zq hg | exact Zq hu | refine QW ?_))))
 ·exact ⟨by simp only [List.length_nil]; omega, by simp⟩
 intro ⟨k, ns, J⟩ hI
 try dsimp only at hI
 try dsimp only
 refine XC ?_ -- 1
 refine Q8 fun K hK => Qa Z (QbR Z Z (hK _ _ (QN (kp5 Z Z Z Z Z) ?_)))
 refine YA Z (fun h1 => ?_) (fun h1 => ?_)
 ·try rw [h1]
  try simp only [qA] at h1
  refine YR (Q6 (kp4 Z Z Z Z) ?_)
  refine XC ?_ -- 2
  refine Yx (Q8 fun K hK => Qa Z (Qa Z ?_))
  obtain ⟨x1, J1, hx1, hc1⟩ := Qjv (I := J) (H := (kg, gB L (J) eg) :: H) Qy hU.cons (hC.pr rfl) hL h2n hn
  refine Z5 (hc1 _ _ rfl (Qan (B := [_, _]) hB (by repeat (first | exact Qy | refine Ql (by first | decide | omega) ?_)) (by intro p hp h; simp only [List.mem_cons, List.not_mem_nil, or_false] at hp; rcases hp with rfl | rfl <;> first | rfl | (simp only at h; omega)))) ?_
  refine QM Z (by repeat (first | exact hB.none (by decide) | refine Zs (by first | decide | omega) ?_)) ?_
  refine Qa Z (hK _ _ (QN (kp5 Z Z Z Z Z) ?_))
  refine Qj9 (ι := List WantT × Int) (fun ⟨r, J4⟩ => ⟨[(0, .ref kg 0 0), (1, .osl ku us.length), (7, .osl 7 ns.length), (8, .int .i64 k), (9, Zb r)], [(7, ⟨(ns).map (fun r => [Zb r]), 1, 60, true⟩), (kg, gB L J4 eg)] ++ H⟩) (fun ⟨r, J4⟩ => Qg3 us.length r) ?_ ?_
  ·skip
   refine Q8 fun K hK => Qa Z (Z5 (Xk (I := J1) Z (Ql (by omega) Qy) hL (by omega)) (YF Z Z (hK _ _ (QN (kp6 Z Z Z Z Z Z) ?_))))
   refine YA Z (fun h2 => ?_) (fun h2 => ?_)
   ·try rw [h2]
    try simp only [qA] at h2
    refine ZI fun K hK => Qa Z (Qa Z (Qa Z ?_))
    obtain ⟨x2, J2, hx2, hc2⟩ := Qjv (I := nxI J1) (H := (kg, gB L (nxI J1) eg) :: H) Qy hU.cons (hC.pr rfl) hL h2n hn
    refine Z5 (hc2 _ _ rfl (Qan (B := [_, _, _, _, _]) hB (by repeat (first | exact Qy | refine Ql (by first | decide | omega) ?_)) (by intro p hp h; simp only [List.mem_cons, List.not_mem_nil, or_false] at hp; rcases hp with rfl | rfl | rfl | rfl | rfl <;> first | rfl | (simp only at h; omega)))) ?_
    refine QM Z (by repeat (first | exact hB.none (by decide) | refine Zs (by first | decide | omega) ?_)) ?_
    refine QmL Z Z (by simp [D.ids, D.sid]) ⟨_, rfl, rfl, rfl, rfl, rfl⟩ (by repeat (first | exact hB.none (by decide) | refine Zs (by first | decide | omega) ?_)) (Ql (by decide) (Ql (by omega) (Ql (by omega) Z))) Z Z Z (by simp) (by simp) ?_
    refine Qa Z (hK _ ?_)
    refine Zv ([x1, x2], J2) ?_ ?_
    ·exact le_trans (Qin (l := [0, 1, 7, 8]) (B := [_, _, _, _, _, _, _, _, _]) (A := [(7, ⟨(ns).map (fun r => [Zb r]), 1, 60, true⟩), (kg, gB L J2 eg)]) 30 9 (kp4 rfl rfl rfl rfl) rfl rfl rfl (by first | (simp; done) | (simp; omega)) (by intro p hp hk; simp only [List.mem_cons, List.not_mem_nil, or_false] at hp; rcases hp with rfl | rfl | rfl | rfl <;> first | (simp [D.ids, D.sid, Zb, QV, dInts] at hk; done) | (simp [D.ids, D.sid, Zb, QV, dInts] at hk; omega)) (by intro p hp; simp only [List.mem_cons, List.not_mem_nil, or_false] at hp; rcases hp with rfl | rfl <;> exact ⟨by first | decide | (simp only; omega), by repeat (first | exact Qy | refine Ql (by first | decide | omega) ?_), rfl⟩) (by intro p hp h; simp only [List.mem_cons, List.not_mem_nil, or_false] at hp; rcases hp with rfl | rfl | rfl | rfl | rfl | rfl | rfl | rfl | rfl <;> first | (simp only at h; omega) | (repeat (first | exact QY | refine QW ?_))) hB hC (by intro p hp k hk; simp only [List.mem_cons, List.not_mem_nil, or_false] at hp; rcases hp with rfl | rfl | rfl | rfl <;> first | (simp [D.ids, D.sid, Zb, QV, dInts] at hk; done) | (simp [D.ids, D.sid, Zb, QV, dInts] at hk; subst hk; repeat (first | exact QY | exact Zq hg | exact Zq hu | refine QW ?_)))) (QeS (l := [0, 1, 7, 8, 9]) (B := [_, _]) (kp5 rfl rfl rfl rfl rfl) rfl (by intro p hp; simp only [List.mem_cons, List.not_mem_nil, or_false] at hp; rcases hp with rfl | rfl <;> exact ⟨by repeat (first | exact Qy | refine Ql (by first | decide | omega) ?_), rfl⟩) rfl (by intro p hp h; simp only [List.mem_cons, List.not_mem_nil, or_false] at hp; rcases hp with rfl | rfl <;> first | (simp only at h; omega) | (repeat (first | exact QY | refine QW ?_))) hB hC (by intro p hp k hk; simp only [List.mem_cons, List.not_mem_nil, or_false] at hp; rcases hp with rfl | rfl | rfl | rfl | rfl <;> first | (simp [D.ids, D.sid, Zb, QV, dInts] at hk; done) | (simp [D.ids, D.sid, Zb, QV, dInts] at hk; subst hk; repeat (first | exact QY | exact Zq hg | exact Zq hu | refine QW ?_))))
    ·exact Qno hx1 hx2
   ·try rw [h2]
    try simp only [qA] at h2
    refine YR ?_
    refine Zv ([x1], nxI J1) ?_ ?_
    ·exact le_trans (Qin (l := [0, 1, 7, 8]) (B := [_, _, _, _, _]) (A := [(7, ⟨(ns).map (fun r => [Zb r]), 1, 60, true⟩), (kg, gB L (nxI J1) eg)]) 21 9 (kp4 rfl rfl rfl rfl) rfl (Ql (by omega) rfl) rfl (by first | (simp; done) | (simp; omega)) (by intro p hp hk; simp only [List.mem_cons, List.not_mem_nil, or_false] at hp; rcases hp with rfl | rfl | rfl | rfl <;> first | (simp [D.ids, D.sid, Zb, QV, dInts] at hk; done) | (simp [D.ids, D.sid, Zb, QV, dInts] at hk; omega)) (by intro p hp; simp only [List.mem_cons, List.not_mem_nil, or_false] at hp; rcases hp with rfl | rfl <;> exact ⟨by first | decide | (simp only; omega), by repeat (first | exact Qy | refine Ql (by first | decide | omega) ?_), rfl⟩) (by intro p hp h; simp only [List.mem_cons, List.not_mem_nil, or_false] at hp; rcases hp with rfl | rfl | rfl | rfl | rfl <;> first | (simp only at h; omega) | (repeat (first | exact QY | refine QW ?_))) hB hC (by intro p hp k hk; simp only [List.mem_cons, List.not_mem_nil, or_false] at hp; rcases hp with rfl | rfl | rfl | rfl <;> first | (simp [D.ids, D.sid, Zb, QV, dInts] at hk; done) | (simp [D.ids, D.sid, Zb, QV, dInts] at hk; subst hk; repeat (first | exact QY | exact Zq hg | exact Zq hu | refine QW ?_)))) (QeS (l := [0, 1, 7, 8, 9]) (B := [_, _]) (kp5 rfl rfl rfl rfl rfl) rfl (by intro p hp; simp only [List.mem_cons, List.not_mem_nil, or_false] at hp; rcases hp with rfl | rfl <;> exact ⟨by repeat (first | exact Qy | refine Ql (by first | decide | omega) ?_), rfl⟩) rfl (by intro p hp h; simp only [List.mem_cons, List.not_mem_nil, or_false] at hp; rcases hp with rfl | rfl <;> first | (simp only at h; omega) | (repeat (first | exact QY | refine QW ?_))) hB hC (by intro p hp k hk; simp only [List.mem_cons, List.not_mem_nil, or_false] at hp; rcases hp with rfl | rfl | rfl | rfl | rfl <;> first | (simp [D.ids, D.sid, Zb, QV, dInts] at hk; done) | (simp [D.ids, D.sid, Zb, QV, dInts] at hk; subst hk; repeat (first | exact QY | exact Zq hg | exact Zq hu | refine QW ?_))))
    ·exact Qnn hx1
  intro ⟨r, J4⟩ hJ
  try dsimp only at hJ
  try dsimp only
  refine ZI fun K hK => Qa Z (Qa Z ?_)
  refine QM Z (by repeat (first | exact hB.none (by decide) | refine Zs (by first | decide | omega) ?_)) ?_
  refine Xp Z Z (fun _ h => Xt Z Z Z h) Z (by simp) Z Z Z (by simp; omega) (by simp; omega) (Qa Z (hK _ ?_))
  refine Qg (Q6 (kp4 Z Z Z Z) (ZI fun K hK => Qa Z (Qbn Z Z (by first | exact Qr (by omega) (by omega) | rfl) (Qa Z (hK _ ?_)))))
  refine Qh (k - 1, ns ++ [r], J4) ?_ ?_ ?_
  ·exact le_trans (Qoc (B := [_, _, _, _]) 7 hB hC) (QeS (l := [0, 1, 7, 8]) (A := [(7, ⟨ns.map (fun r => [Zb r]) ++ [[Zb r]], 1, 60, true⟩), (kg, gB L J4 eg)]) (B := [_, _, _, _]) (kp4 rfl rfl rfl rfl) (by simp [D.scrub, show ¬ kg = 7 by omega, show ¬ ku = 7 by omega] <;> omega) (by intro p hp; simp only [List.mem_cons, List.not_mem_nil, or_false] at hp; rcases hp with rfl | rfl <;> exact ⟨by repeat (first | exact Qy | refine Ql (by first | decide | omega) ?_), rfl⟩) (by simp) (by intro p hp h; simp only [List.mem_cons, List.not_mem_nil, or_false] at hp; rcases hp with rfl | rfl | rfl | rfl <;> first | (simp only at h; omega) | (repeat (first | exact QY | refine QW ?_))) hB hC (by intro p hp k hk; simp only [List.mem_cons, List.not_mem_nil, or_false] at hp; rcases hp with rfl | rfl | rfl | rfl <;> first | (simp [D.ids, D.sid, Zb, QV, dInts] at hk; done) | (simp [D.ids, D.sid, Zb, QV, dInts] at hk; subst hk; repeat (first | exact QY | exact Zq hg | exact Zq hu | refine QW ?_))))
  ·exact ⟨by simp only [List.length_append, List.length_singleton]; omega, Qk4 hI.2 hJ⟩
  ·show k - 1 < k; omega
 ·try rw [h1]
  try simp only [qA] at h1
  refine Qci (Y0 (Qt (QB (Q6 (kp1 Z) (Q8 fun K hK => Qa Z (Qa Z (hK _ _ (QN (kp1 Z) ?_))))))))
  refine Qfj ?_
  refine ⟨QV ns, (kg, gB L J eg) :: H, ⟨ns, _, ⟨by omega, hI.2⟩, rfl, rfl⟩, (XB hB hC hkg rfl).1, (XB hB hC hkg rfl).2, ?_⟩
  refine X9 Z (by simp [Qlo, D.fz, D.fzS, Qfy, lk, D.can, D.canS, QV]) ?_
  exact Qan (B := [_, _]) hB (by repeat (first | exact Qy | refine Ql (by first | decide | omega) ?_)) (by intro p hp h; simp only [List.mem_cons, List.not_mem_nil, or_false] at hp; rcases hp with rfl | rfl <;> first | rfl | (simp only at h; omega))
end Go.Proofs
namespace Go.Proofs
open Go Go.Abs M3 M25
set_option linter.unusedVariables false
set_option linter.unusedSimpArgs false
theorem Qb9 {kg : Nat} {L : List Int} {I most : Int} {eg eu ec : Nat} (heu : eu = 65) (hec : ec = 62) (hkg : 1000000 <= kg) (hL : ∀ x ∈ L, I64 x) (hm0 : 1 <= most) (hm1 : most <= 5) : ∃ d H2, (∃ us I2, (UnitsIn us /\ 2 <= us.length /\ us.length <= 11) /\ d = .osl 500000 us.length /\ H2 = ((500000, ⟨us.map dUR, 3, eu, false⟩) :: fbx ec us) ++ [(kg, gB L I2 eg), (kg, gB L I eg)]) /\ OkH Tryz.prog 31 [.ref kg 0 0, .int .i64 most] [(kg, gB L I eg)] d H2 := by
 subst heu hec
 have e3 : ¬ kg = 500000 := by omega
 have k1 := Qmd (a := 18) (b := 500000) hkg (by decide) (by decide)
 have k2 := Qmd (a := 16) (b := 500001) hkg (by decide) (by decide)
 refine OkH.ofX (R := fun d H2 => ∃ us I2, (UnitsIn us /\ 2 <= us.length /\ us.length <= 11) /\ d = .osl 500000 us.length /\ H2 = ((500000, ⟨us.map dUR, 3, 65, false⟩) :: fbx 62 us) ++ [(kg, gB L I2 eg), (kg, gB L I eg)]) ZY Tryz.func31 QpP (Nat.le_of_ble_eq_true Z) ?_
 show TX _ _ tf31.body _ _
 refine Q8 fun K hK => Qa Z (hK _ _ (QN (kp2 Z Z) ?_))
 refine Q8 fun K hK => ?_
 refine QM Z (by repeat (first | exact Z | refine Zs (by first | decide | omega) ?_)) ?_
 refine Qa Z (hK _ _ (QN (kp3 Z Z Z) ?_))
 refine Qj8 (Qin (l := [0, 1]) (B := [_]) (A := []) (H0 := [(kg, gB L I eg)]) 14 5 (kp2 rfl rfl) rfl rfl rfl rfl (by intro p hp hk; simp only [List.mem_cons, List.not_mem_nil, or_false] at hp; rcases hp with rfl | rfl <;> first | (simp [D.ids, D.sid, Zb, QV, dInts] at hk; done) | (simp [D.ids, D.sid, Zb, QV, dInts] at hk; omega)) (by intro p hp; cases hp) (by intro p hp h; simp only [List.mem_singleton] at hp; subst hp; simp only at h; omega) (fun k b h => by obtain ⟨rfl, rfl⟩ := XS h; exact hkg) (fun k b h j hj => by obtain ⟨rfl, rfl⟩ := XS h; simp [Box.ids, gB] at hj) (by intro p hp k hk; simp only [List.mem_cons, List.not_mem_nil, or_false] at hp; rcases hp with rfl | rfl <;> first | (simp [D.ids, D.sid, Zb, QV, dInts] at hk; done) | (simp [D.ids, D.sid, Zb, QV, dInts] at hk; subst hk; repeat (first | exact QY | refine QW ?_)))) ?_
 refine Q8 fun K hK => Q4 Z Z ?_
 refine QM Z (by repeat (first | exact Z | refine Zs (by first | decide | omega) ?_)) ?_
 refine Q4 Z Z ?_
 refine QM Z (by repeat (first | exact Z | refine Zs (by first | decide | omega) ?_)) ?_
 refine Qa Z (hK _ _ (QN (kp4 Z Z Z Z) ?_))
 refine Q8 fun K hK => QE (Yo) Z Z (.inl Z) (Qa Z (hK _ _ (QN (kp5 Z Z Z Z Z) ?_)))
 refine XC ?_ -- 0
 refine Q8 fun K hK => Qa Z (hK _ _ (QN (kp6 Z Z Z Z Z Z) ?_))
 refine Yx ?_
 refine QdR (ι := List UR × Int × Nat) (fun ⟨us, J, n⟩ => ⟨[(0, .ref kg 0 0), (1, .int .i64 most), (5, .sl (Yb names5)), (6, .osl 500000 us.length), (7, .sl (versions.map dVr)), (8, .int .i64 n)], [(500000, ⟨(us).map dUR, 3, 65, false⟩), (kg, gB L (J) eg)] ++ fbx 62 (us)⟩) (fun ⟨us, J, n⟩ => UnitsIn us /\ us.length <= 1 + 2 * n /\ n <= 5 /\ 1 + n <= us.length) (fun ⟨us, J, n⟩ => 5 - n) ([u0 v0], I, 0) ?_ ?_ ?_
 ·refine QkF (l := [0, 1, 5, 6, 7, 8]) hkg (kp6 Z Z Z Z Z Z) ?_; simp only [List.map_cons, List.map_nil, D.ren, D.renS, k1, k2]; rfl
 ·exact ⟨UnitsIn.zero, by simp, by omega, by simp⟩
 intro ⟨us, J, n⟩ hI
 try dsimp only at hI
 have e1 : ¬ kg = 500001 + us.length := by omega
 have e2 : ¬ 500000 = 500001 + us.length := by omega
 have e4 : ¬ 500001 + us.length = 500000 := by omega
 have hx0 : 0 <= nx L J most := Qe1
 have hx1 : nx L J most < most := Qe0 (by omega)
 have hn5 := Zc
 have hv4 := QbQ
 try dsimp only
 refine XC ?_ -- 1
 refine Q8 fun K hK => Qa Z (Qa Z (Qa Z ?_))
 refine Z5 (Xk (I := J) Z (by repeat (first | exact Qy | refine Ql (by omega) ?_)) hL (by omega)) ?_
 refine Q7 Z Z (by first | exact Qr (by omega) (by omega) | rfl) (Z7 Z Z (Qa Z ?_))
 refine QA (g := 26) Z (fun h1 => ?_) (fun h1 => ?_)
 ·try rw [h1]
  try simp only [qA] at h1
  refine Qi Z (Qa Z (Qi Z (Qa Z (Qi Z ?_))))
  first | refine QQ rfl QU ?_ | refine QQ rfl rfl ?_
  refine Qi Z (Z7 Z Z (Qk Z Z (hK _ _ (QN (kp7 Z Z Z Z Z Z Z) ?_))))
  refine YA Z (fun h2 => ?_) (fun h2 => ?_)
  ·try rw [h2]
   try simp only [qA] at h2
   refine YR (Q6 (kp6 Z Z Z Z Z Z) ?_)
   refine XC ?_ -- 2
   refine Yx (Q8 fun K hK => Qa Z (hK _ _ (QN (kp7 Z Z Z Z Z Z Z) ?_)))
   refine Q8 fun K hK => Qa Z ?_
   refine Z5 (Xk (I := nxI J) Z (by repeat (first | exact Qy | refine Ql (by omega) ?_)) hL (by omega)) ?_
   refine Qa Z (hK _ _ (QN (kp8 Z Z Z Z Z Z Z Z) ?_))
   refine XC ?_ -- 3
   refine Q8 fun K hK => Qa Z (hK _ _ (QN (kp9 Z Z Z Z Z Z Z Z Z) ?_))
   refine Yx ?_
   refine QdR (ι := List CR × Nat) (fun ⟨cs, i⟩ => ⟨[(0, .ref kg 0 0), (1, .int .i64 most), (5, .sl (Yb names5)), (6, .osl 500000 us.length), (7, .sl (versions.map dVr)), (8, .int .i64 n), (9, .osl (500001 + us.length) cs.length), (10, .int .i64 (nx L (nxI J) 16)), (11, .int .i64 i)], [(500001 + (us).length, ⟨(cs).map dCR, 8, 62, true⟩), (500000, ⟨(us).map dUR, 3, 65, false⟩), (kg, gB L (nxI (nxI J)) eg)] ++ fbx 62 (us)⟩) (fun ⟨cs, i⟩ => i <= 4 /\ CsIn i cs) (fun ⟨cs, i⟩ => 4 - i) ([], 0) ?_ ?_ ?_
   ·exact le_trans (Yh 9 (500001 + us.length) 8 62 rfl (by repeat (first | exact YN hI.1.keys (.inr (by omega)) | refine Zs (by omega) ?_))) (QnI (l := [0, 1, 5, 6, 7, 8, 9, 10, 11]) (B := [_, _, _, _, _]) (kp9 rfl rfl rfl rfl rfl rfl rfl rfl rfl) rfl hI.1.keys (by repeat (first | exact Qy | refine Ql (by omega) ?_)) (by repeat (first | exact Qy | refine Ql (by omega) ?_)) (by repeat (first | exact Qy | refine Ql (by omega) ?_)) (by intro p hp h; simp only [List.mem_cons, List.not_mem_nil, or_false] at hp; rcases hp with rfl | rfl | rfl | rfl | rfl <;> first | (simp only at h; omega) | exact .inl rfl | exact .inr rfl) (by intro p hp k hk; simp only [List.mem_cons, List.not_mem_nil, or_false] at hp; rcases hp with rfl | rfl | rfl | rfl | rfl | rfl | rfl | rfl | rfl <;> first | (simp [D.ids, D.sid, Zb, QV, dInts] at hk; done) | (simp [D.ids, D.sid, Zb, QV, dInts] at hk; subst hk; first | exact .inl rfl | exact .inr (.inl rfl) | exact .inr (.inr (.inl rfl)) | (refine .inr (.inr (.inl ?_)); simp; done) | (first | exact .inr (.inr ⟨_, List.mem_append_right _ (List.mem_singleton.2 rfl), rfl⟩) | exact .inr (.inr (.inr ⟨_, List.mem_append_right _ (List.mem_singleton.2 rfl), rfl⟩))))))
   ·exact ⟨by omega, CsIn.nil _⟩
   intro ⟨cs, i⟩ hC
   try dsimp only at hC
   have hcl := hC.2.1
   try dsimp only
   refine XC ?_ -- 4
   refine Q8 fun K hK => Qa Z (Qa Z ?_)
   first | refine QQ rfl QU ?_ | refine QQ rfl rfl ?_
   refine Z7 Z Z (hK _ _ (QN (Qj1 Z Z Z Z Z Z Z Z Z Z) ?_))
   refine YA Z (fun h3 => ?_) (fun h3 => ?_)
   ·try rw [h3]
    try simp only [qA] at h3
    refine YR (Q6 (kp9 Z Z Z Z Z Z Z Z Z) ?_)
    refine XC ?_ -- 5
    refine Yx (Q8 fun K hK => Qa Z (Qa Z (Qen Z (QgQ (by omega) (by omega)) (QnV Z Z (by omega) (QnO Z Z (YF Z Z (hK _ _ (QN (Qj1 Z Z Z Z Z Z Z Z Z Z) ?_))))))))
    refine YA Z (fun h4 => ?_) (fun h4 => ?_)
    ·try rw [h4]
     try simp only [qA] at h4
     refine ZI fun K hK => Qa Z (Qa Z (Qa Z (QK Z Z Z (by omega) (Q1 (by omega)) Z (QR (cs := [_, _, _, _, _]) Z Z Z Z (Q4 Z Z ?_)))))
     refine QM Z (by repeat (first | exact YN hI.1.keys (.inl (by omega)) | exact YN hK1.keys (.inl (by omega)) | refine Zs (by first | decide | omega) ?_)) ?_
     refine Xp (hk0 := by omega) Z Z (fun _ h => Xt Z Z Z h) (Ql (by omega) Qy) (by simp) Z Z Z (by simp; omega) (by simp; omega) (Qa Z (hK _ ?_))
     refine Qg (Q6 (kp9 Z Z Z Z Z Z Z Z Z) (ZI fun K hK => Qa Z (Q7 Z Z (by first | exact Qr (by omega) (by omega) | rfl) (Qa Z (hK _ ?_)))))
     refine Qh (cs ++ [zr (versions[i]'(by omega)) 0], i + 1) ?_ ?_ ?_
     ·exact le_trans (Qgr (B := [_, _, _, _, _]) (500001 + us.length) (QeJ _ _)) (QnI (l := [0, 1, 5, 6, 7, 8, 9, 10, 11]) (B := [_, _, _, _, _]) (kp9 rfl rfl rfl rfl rfl rfl rfl rfl rfl) (by simp [D.scrub, e1, e2, e3, e4] <;> omega) hI.1.keys (by rw [List.map_append]; exact Qy) (by repeat (first | exact Qy | exact Qjl (QhU hI.1.keys) | refine Ql (by omega) ?_)) (by repeat (first | exact Qy | refine Ql (by omega) ?_)) (by intro p hp h; simp only [List.mem_cons, List.not_mem_nil, or_false] at hp; rcases hp with rfl | rfl | rfl | rfl | rfl <;> first | (simp only at h; omega) | exact .inl rfl | exact .inr rfl) (by intro p hp k hk; simp only [List.mem_cons, List.not_mem_nil, or_false] at hp; rcases hp with rfl | rfl | rfl | rfl | rfl | rfl | rfl | rfl | rfl <;> first | (simp [D.ids, D.sid, Zb, QV, dInts] at hk; done) | (simp [D.ids, D.sid, Zb, QV, dInts] at hk; subst hk; first | exact .inl rfl | exact .inr (.inl rfl) | exact .inr (.inr (.inl rfl)) | (refine .inr (.inr (.inl ?_)); simp; done) | (first | exact .inr (.inr ⟨_, List.mem_append_right _ (List.mem_singleton.2 rfl), rfl⟩) | exact .inr (.inr (.inr ⟨_, List.mem_append_right _ (List.mem_singleton.2 rfl), rfl⟩))))))
     ·try dsimp only
      exact ⟨by omega, hC.2.snoc (Qlh (by omega))⟩
     ·show 4 - (i + 1) < 4 - i; omega
    ·try rw [h4]
     try simp only [qA] at h4
     refine YR (Qg (Q6 (kp9 Z Z Z Z Z Z Z Z Z) (ZI fun K hK => Qa Z (Q7 Z Z (by first | exact Qr (by omega) (by omega) | rfl) (Qa Z (hK _ ?_))))))
     refine Qh (cs, i + 1) ?_ ?_ ?_
     ·exact QnI (l := [0, 1, 5, 6, 7, 8, 9, 10, 11]) (B := [_, _, _]) (kp9 rfl rfl rfl rfl rfl rfl rfl rfl rfl) rfl hI.1.keys (by repeat (first | exact Qy | refine Ql (by omega) ?_)) (by repeat (first | exact Qy | refine Ql (by omega) ?_)) (by repeat (first | exact Qy | refine Ql (by omega) ?_)) (by intro p hp h; simp only [List.mem_cons, List.not_mem_nil, or_false] at hp; rcases hp with rfl | rfl | rfl <;> first | (simp only at h; omega) | exact .inl rfl | exact .inr rfl) (by intro p hp k hk; simp only [List.mem_cons, List.not_mem_nil, or_false] at hp; rcases hp with rfl | rfl | rfl | rfl | rfl | rfl | rfl | rfl | rfl <;> first | (simp [D.ids, D.sid, Zb, QV, dInts] at hk; done) | (simp [D.ids, D.sid, Zb, QV, dInts] at hk; subst hk; first | exact .inl rfl | exact .inr (.inl rfl) | exact .inr (.inr (.inl rfl)) | (refine .inr (.inr (.inl ?_)); simp; done) | (first | exact .inr (.inr ⟨_, List.mem_append_right _ (List.mem_singleton.2 rfl), rfl⟩) | exact .inr (.inr (.inr ⟨_, List.mem_append_right _ (List.mem_singleton.2 rfl), rfl⟩)))))
     ·try dsimp only
      exact ⟨by omega, hC.2.keep⟩
     ·show 4 - (i + 1) < 4 - i; omega
   ·try rw [h3]
    try simp only [qA] at h3
    refine Qci (Y0 (Qt (QB (Q6 (kp7 Z Z Z Z Z Z Z) (Q8 fun K hK => Qa Z (Qa Z (Qa Z (QK Z Z Z (by omega) (Q1 (by omega)) Z (QI Z Z Z (Qa Z ?_))))))))))
    refine Q4 Z Z ?_
    refine QM Z (by repeat (first | exact YN hI.1.keys (.inl (by omega)) | exact YN hK1.keys (.inl (by omega)) | refine Zs (by first | decide | omega) ?_)) ?_
    refine Qh6 (hk0 := by decide) Z Z (fun _ h => Xt Z Z Z h) (Ql (by omega) (Ql (by omega) Qy)) (by simp) Z Z (.inr (QjF hI.1.keys (by omega))) (by simp; omega) (by simp; omega) (Qa Z (hK _ _ (QN (kp7 Z Z Z Z Z Z Z) ?_)))
    have hc4 : CsIn 4 cs := ⟨by omega, hC.2.2⟩
    refine Qj8 (le_trans (Qgr (B := [_, _, _, _, _]) 500000 (QeJ _ _)) (Qos (u := (UR.mk (names5[n]'(by have := Zc; omega)) [] (500001 + us.length) cs)) (l := [0, 1, 5, 6, 7, 8, 9]) (fr' := [(0, .ref kg 0 0), (1, .int .i64 most), (5, .sl (Yb names5)), (6, .osl 500000 (us ++ [(UR.mk (names5[n]'(by have := Zc; omega)) [] (500001 + us.length) cs)]).length), (7, .sl (versions.map dVr)), (8, .int .i64 n), (9, .osl (500001 + us.length) cs.length)]) (B := [_, _, _, _, _]) (kp7 rfl rfl rfl rfl rfl rfl rfl) (by simp [D.scrub, e1, e2, e3, e4]) hI.1.keys rfl (by repeat (first | exact Qy | refine Ql (by omega) ?_)) (by rw [List.map_append]; exact Qy) (by repeat (first | exact Qy | refine Ql (by omega) ?_)) (by intro p hp h; simp only [List.mem_cons, List.not_mem_nil, or_false] at hp; rcases hp with rfl | rfl | rfl | rfl | rfl <;> first | (simp only at h; omega) | exact .inl rfl | exact .inr rfl) hkg (by omega) (by intro p hp k hk; simp only [List.mem_cons, List.not_mem_nil, or_false] at hp; rcases hp with rfl | rfl | rfl | rfl | rfl | rfl | rfl <;> first | (simp [D.ids, D.sid, Zb, QV, dInts] at hk; done) | (simp [D.ids, D.sid, Zb, QV, dInts] at hk; subst hk; first | exact .inl rfl | exact .inr (.inl rfl) | (first | exact .inr (.inr ⟨_, List.mem_append_right _ (List.mem_singleton.2 rfl), rfl⟩) | exact .inr (.inr (.inr ⟨_, List.mem_append_right _ (List.mem_singleton.2 rfl), rfl⟩))))))) ?_
    have hK1 := hI.1.snoc (n := (names5[n]'(by have := Zc; omega))) (f := []) hc4.1 hc4.2
    have hl1 : (us ++ [(UR.mk (names5[n]'(by have := Zc; omega)) [] (500001 + us.length) cs)]).length = us.length + 1 := by simp
    have f1 : ¬ kg = 500001 + (us ++ [(UR.mk (names5[n]'(by have := Zc; omega)) [] (500001 + us.length) cs)]).length := by omega
    have f2 : ¬ 500000 = 500001 + (us ++ [(UR.mk (names5[n]'(by have := Zc; omega)) [] (500001 + us.length) cs)]).length := by omega
    have f4 : ¬ 500001 + (us ++ [(UR.mk (names5[n]'(by have := Zc; omega)) [] (500001 + us.length) cs)]).length = 500000 := by omega
    have f5 : ¬ 500001 + us.length = 500001 + (us ++ [(UR.mk (names5[n]'(by have := Zc; omega)) [] (500001 + us.length) cs)]).length := by omega
    refine Q8 fun K hK => Qa Z (Z7 Z Z (Qa Z ?_))
    refine QA (g := 67) Z (fun h5 => ?_) (fun h5 => ?_)
    ·try rw [h5]
     try simp only [qA] at h5
     refine Qi Z (Qa Z (Qi Z ?_))
     refine Z5 (Xk (I := nxI (nxI J)) Z (by repeat (first | exact Qy | refine Ql (by omega) ?_)) hL (by omega)) ?_
     refine Qi Z (YF Z Z (Qk Z Z (hK _ _ (QN (kp8 Z Z Z Z Z Z Z Z) ?_))))
     refine YA Z (fun h6 => ?_) (fun h6 => ?_)
     ·try rw [h6]
      try simp only [qA] at h6
      refine Q8 fun K hK => Qa Z (hK _ _ (QN (kp8 Z Z Z Z Z Z Z Z) ?_))
      refine XC ?_ -- 6
      refine Q8 fun K hK => Qa Z (hK _ _ (QN (kp9 Z Z Z Z Z Z Z Z Z) ?_))
      refine Yx ?_
      refine QdR (ι := List CR × Nat × Int) (fun ⟨c2, m, J3⟩ => ⟨[(0, .ref kg 0 0), (1, .int .i64 most), (5, .sl (Yb names5)), (6, .osl 500000 (us ++ [(UR.mk (names5[n]'(by have := Zc; omega)) [] (500001 + us.length) cs)]).length), (7, .sl (versions.map dVr)), (8, .int .i64 n), (9, .osl (500001 + us.length) cs.length), (12, .osl (500001 + (us ++ [(UR.mk (names5[n]'(by have := Zc; omega)) [] (500001 + us.length) cs)]).length) c2.length), (13, .int .i64 m)], [(500001 + (us ++ [(UR.mk (names5[n]'(by have := Zc; omega)) [] (500001 + us.length) cs)]).length, ⟨(c2).map dCR, 8, 62, true⟩), (500000, ⟨(us ++ [(UR.mk (names5[n]'(by have := Zc; omega)) [] (500001 + us.length) cs)]).map dUR, 3, 65, false⟩), (kg, gB L (J3) eg)] ++ fbx 62 (us ++ [(UR.mk (names5[n]'(by have := Zc; omega)) [] (500001 + us.length) cs)])⟩) (fun ⟨c2, m, J3⟩ => m <= cs.length /\ CsIn m c2) (fun ⟨c2, m, J3⟩ => cs.length - m) ([], 0, nxI (nxI (nxI J))) ?_ ?_ ?_
      ·exact le_trans (Yh 12 (500001 + (us ++ [(UR.mk (names5[n]'(by have := Zc; omega)) [] (500001 + us.length) cs)]).length) 8 62 rfl (by repeat (first | exact YN hK1.keys (.inr (by omega)) | refine Zs (by omega) ?_))) (QnI (l := [0, 1, 5, 6, 7, 8, 9, 12, 13]) (B := [_, _, _, _]) (kp9 rfl rfl rfl rfl rfl rfl rfl rfl rfl) rfl hK1.keys (by repeat (first | exact Qy | refine Ql (by omega) ?_)) (by repeat (first | exact Qy | refine Ql (by omega) ?_)) (by repeat (first | exact Qy | refine Ql (by omega) ?_)) (by intro p hp h; simp only [List.mem_cons, List.not_mem_nil, or_false] at hp; rcases hp with rfl | rfl | rfl | rfl <;> first | (simp only at h; omega) | exact .inl rfl | exact .inr rfl) (by intro p hp k hk; simp only [List.mem_cons, List.not_mem_nil, or_false] at hp; rcases hp with rfl | rfl | rfl | rfl | rfl | rfl | rfl | rfl | rfl <;> first | (simp [D.ids, D.sid, Zb, QV, dInts] at hk; done) | (simp [D.ids, D.sid, Zb, QV, dInts] at hk; subst hk; first | exact .inl rfl | exact .inr (.inl rfl) | exact .inr (.inr (.inl rfl)) | (refine .inr (.inr (.inl ?_)); simp; done) | (first | exact .inr (.inr ⟨_, List.mem_append_right _ (List.mem_singleton.2 rfl), rfl⟩) | exact .inr (.inr (.inr ⟨_, List.mem_append_right _ (List.mem_singleton.2 rfl), rfl⟩))))))
      ·exact ⟨by omega, CsIn.nil _⟩
      intro ⟨c2, m, J3⟩ hM
      try dsimp only at hM
      have hcl2 := hM.2.1
      try dsimp only
      refine XC ?_ -- 7
      refine Q8 fun K hK => Qa Z (Qa Z ?_)
      first | refine QQ rfl QU ?_ | refine QQ rfl rfl ?_
      refine Z7 Z Z (hK _ _ (QN (Qj1 Z Z Z Z Z Z Z Z Z Z) ?_))
      refine YA Z (fun h7 => ?_) (fun h7 => ?_)
      ·try rw [h7]
       try simp only [qA] at h7
       refine YR (Q6 (kp9 Z Z Z Z Z Z Z Z Z) ?_)
       refine XC ?_ -- 8
       refine Yx (Q8 fun K hK => Qa Z ?_)
       refine Z5 (Xk (I := J3) Z (by repeat (first | exact Qy | refine Ql (by omega) ?_)) hL (by omega)) ?_
       refine QbR Z Z (hK _ _ (QN (Qj1 Z Z Z Z Z Z Z Z Z Z) ?_))
       refine YA Z (fun h8 => ?_) (fun h8 => ?_)
       ·try rw [h8]
        try simp only [qA] at h8
        refine ZI fun K hK => Qa Z (Qa Z (Qa Z (Xy Z Z (Ql (by omega) (Ql (by omega) (Ql (by omega) (Ql (by omega) (Qgg (u := (UR.mk (names5[n]'(by have := Zc; omega)) [] (500001 + us.length) cs)) hI.1.keys Z))))) (by simp) (by omega) (by omega) Z (Qn Z (Zq (Ql (by omega) (Ql (by omega) (Ql (by omega) (Ql (by omega) (Qgg (u := (UR.mk (names5[n]'(by have := Zc; omega)) [] (500001 + us.length) cs)) hI.1.keys Z)))))) (QR (cs := [_, _, _, _, _]) Z (Yg (Ql (by omega) (Ql (by omega) (Ql (by omega) (Ql (by omega) (Qgg (u := (UR.mk (names5[n]'(by have := Zc; omega)) [] (500001 + us.length) cs)) hI.1.keys Z))))) (Q1 (l := cs) (by omega))) Z Z (Q4 Z Z ?_))))))
        refine QM Z (by repeat (first | exact YN hI.1.keys (.inl (by omega)) | exact YN hK1.keys (.inl (by omega)) | refine Zs (by first | decide | omega) ?_)) ?_
        refine Xp (hk0 := by omega) Z Z (fun _ h => Xt Z Z Z h) (Ql (by omega) (Ql (by omega) Qy)) (by simp) Z Z Z (by simp; omega) (by simp; omega) (Qa Z (hK _ ?_))
        refine Qg (Q6 (kp9 Z Z Z Z Z Z Z Z Z) (ZI fun K hK => Qa Z (Q7 Z Z (by first | exact Qr (by omega) (by omega) | rfl) (Qa Z (hK _ ?_)))))
        refine Qh (c2 ++ [zr (cs[m]'(by omega)).v 0], m + 1, nxI J3) ?_ ?_ ?_
        ·exact le_trans (Qgr (B := [_, _, _, _, _, _]) (500001 + (us ++ [(UR.mk (names5[n]'(by have := Zc; omega)) [] (500001 + us.length) cs)]).length) (QeJ _ _)) (QnI (l := [0, 1, 5, 6, 7, 8, 9, 12, 13]) (B := [_, _, _, _, _, _]) (kp9 rfl rfl rfl rfl rfl rfl rfl rfl rfl) (by simp [D.scrub, f1, f2, f4, f5] <;> omega) hK1.keys (by rw [Qm7 (cs := c2)]; exact Qy) (by repeat (first | exact Qy | exact Qjl (QhU hK1.keys) | refine Ql (by omega) ?_)) (by repeat (first | exact Qy | refine Ql (by omega) ?_)) (by intro p hp h; simp only [List.mem_cons, List.not_mem_nil, or_false] at hp; rcases hp with rfl | rfl | rfl | rfl | rfl | rfl <;> first | (simp only at h; omega) | exact .inl rfl | exact .inr rfl) (by intro p hp k hk; simp only [List.mem_cons, List.not_mem_nil, or_false] at hp; rcases hp with rfl | rfl | rfl | rfl | rfl | rfl | rfl | rfl | rfl <;> first | (simp [D.ids, D.sid, Zb, QV, dInts] at hk; done) | (simp [D.ids, D.sid, Zb, QV, dInts] at hk; subst hk; first | exact .inl rfl | exact .inr (.inl rfl) | exact .inr (.inr (.inl rfl)) | (refine .inr (.inr (.inl ?_)); simp; done) | (first | exact .inr (.inr ⟨_, List.mem_append_right _ (List.mem_singleton.2 rfl), rfl⟩) | exact .inr (.inr (.inr ⟨_, List.mem_append_right _ (List.mem_singleton.2 rfl), rfl⟩))))))
        ·try dsimp only
         exact ⟨by omega, hM.2.snoc (hC.2.at (by omega))⟩
        ·show cs.length - (m + 1) < cs.length - m; omega
       ·try rw [h8]
        try simp only [qA] at h8
        refine YR (Qg (Q6 (kp9 Z Z Z Z Z Z Z Z Z) (ZI fun K hK => Qa Z (Q7 Z Z (by first | exact Qr (by omega) (by omega) | rfl) (Qa Z (hK _ ?_))))))
        refine Qh (c2, m + 1, nxI J3) ?_ ?_ ?_
        ·exact QnI (l := [0, 1, 5, 6, 7, 8, 9, 12, 13]) (B := [_, _, _, _]) (kp9 rfl rfl rfl rfl rfl rfl rfl rfl rfl) rfl hK1.keys (by repeat (first | exact Qy | refine Ql (by omega) ?_)) (by repeat (first | exact Qy | refine Ql (by omega) ?_)) (by repeat (first | exact Qy | refine Ql (by omega) ?_)) (by intro p hp h; simp only [List.mem_cons, List.not_mem_nil, or_false] at hp; rcases hp with rfl | rfl | rfl | rfl <;> first | (simp only at h; omega) | exact .inl rfl | exact .inr rfl) (by intro p hp k hk; simp only [List.mem_cons, List.not_mem_nil, or_false] at hp; rcases hp with rfl | rfl | rfl | rfl | rfl | rfl | rfl | rfl | rfl <;> first | (simp [D.ids, D.sid, Zb, QV, dInts] at hk; done) | (simp [D.ids, D.sid, Zb, QV, dInts] at hk; subst hk; first | exact .inl rfl | exact .inr (.inl rfl) | exact .inr (.inr (.inl rfl)) | (refine .inr (.inr (.inl ?_)); simp; done) | (first | exact .inr (.inr ⟨_, List.mem_append_right _ (List.mem_singleton.2 rfl), rfl⟩) | exact .inr (.inr (.inr ⟨_, List.mem_append_right _ (List.mem_singleton.2 rfl), rfl⟩)))))
        ·try dsimp only
         exact ⟨by omega, hM.2.keep⟩
        ·show cs.length - (m + 1) < cs.length - m; omega
      ·try rw [h7]
       try simp only [qA] at h7
       refine Qci (Y0 (Qt (QB (Q6 (kp7 Z Z Z Z Z Z Z) (ZI fun K hK => Qa Z (Qa Z (Qa Z (QK Z Z Z (by omega) (Q1 (by omega)) Z (QI Z Z Z (Qa Z ?_))))))))))
       refine Q4 Z Z ?_
       refine QM Z (by repeat (first | exact YN hI.1.keys (.inl (by omega)) | exact YN hK1.keys (.inl (by omega)) | refine Zs (by first | decide | omega) ?_)) ?_
       refine Qh6 (hk0 := by decide) Z Z (fun _ h => Xt Z Z Z h) (Ql (by omega) (Ql (by omega) Qy)) (by simp) Z Z (.inr (QjF hK1.keys (by omega))) (by simp; omega) (by simp; omega) (Qa Z (hK _ ?_))
       refine Qg (Q6 (kp6 Z Z Z Z Z Z) (ZI fun K hK => Qa Z (Q7 Z Z (by first | exact Qr (by omega) (by omega) | rfl) (Qa Z (hK _ ?_)))))
       refine Qh (us ++ [(UR.mk (names5[n]'(by have := Zc; omega)) [] (500001 + us.length) cs)] ++ [(UR.mk (names5[n]'(by have := Zc; omega)) [102] (500001 + (us ++ [(UR.mk (names5[n]'(by have := Zc; omega)) [] (500001 + us.length) cs)]).length) c2)], J3, n + 1) ?_ ?_ ?_
       ·exact le_trans (Qgr (B := [_, _, _, _, _]) 500000 (QeJ _ _)) (Qos (u := (UR.mk (names5[n]'(by have := Zc; omega)) [102] (500001 + (us ++ [(UR.mk (names5[n]'(by have := Zc; omega)) [] (500001 + us.length) cs)]).length) c2)) (l := [0, 1, 5, 6, 7, 8]) (B := [_, _, _, _, _]) (kp6 rfl rfl rfl rfl rfl rfl) (by simp [D.scrub, f1, f2, e3, f4, e4] <;> omega) hK1.keys rfl (by repeat (first | exact Qy | refine Ql (by omega) ?_)) (by rw [Qnw (u := (UR.mk (names5[n]'(by have := Zc; omega)) [102] (500001 + (us ++ [(UR.mk (names5[n]'(by have := Zc; omega)) [] (500001 + us.length) cs)]).length) c2))]; exact Qy) (by repeat (first | exact Qy | refine Ql (by omega) ?_)) (by intro p hp h; simp only [List.mem_cons, List.not_mem_nil, or_false] at hp; rcases hp with rfl | rfl | rfl | rfl | rfl <;> first | (simp only at h; omega) | exact .inl rfl | exact .inr rfl) hkg (by omega) (by intro p hp k hk; simp only [List.mem_cons, List.not_mem_nil, or_false] at hp; rcases hp with rfl | rfl | rfl | rfl | rfl | rfl <;> first | (simp [D.ids, D.sid, Zb, QV, dInts] at hk; done) | (simp [D.ids, D.sid, Zb, QV, dInts] at hk; subst hk; first | exact .inl rfl | exact .inr (.inl rfl) | (first | exact .inr (.inr ⟨_, List.mem_append_right _ (List.mem_singleton.2 rfl), rfl⟩) | exact .inr (.inr (.inr ⟨_, List.mem_append_right _ (List.mem_singleton.2 rfl), rfl⟩))))))
       ·try dsimp only
        exact ⟨hK1.snoc (by omega) hM.2.2, by simp; omega, by omega, by simp; omega⟩
       ·show 5 - (n + 1) < 5 - n; omega
     ·try rw [h6]
      try simp only [qA] at h6
      refine YR (Qg (Q6 (kp6 Z Z Z Z Z Z) (ZI fun K hK => Qa Z (Q7 Z Z (by first | exact Qr (by omega) (by omega) | rfl) (Qa Z (hK _ ?_))))))
      refine Qh (us ++ [(UR.mk (names5[n]'(by have := Zc; omega)) [] (500001 + us.length) cs)], nxI (nxI (nxI J)), n + 1) ?_ ?_ ?_
      ·exact Qpt (l := [0, 1, 5, 6, 7, 8]) (B := [_, _, _]) (kp6 rfl rfl rfl rfl rfl rfl) rfl hK1.keys (by repeat (first | exact Qy | refine Ql (by omega) ?_)) (by repeat (first | exact Qy | refine Ql (by omega) ?_)) (by intro p hp h; simp only [List.mem_cons, List.not_mem_nil, or_false] at hp; rcases hp with rfl | rfl | rfl <;> first | (simp only at h; omega) | rfl) (by omega) (by intro p hp k hk; simp only [List.mem_cons, List.not_mem_nil, or_false] at hp; rcases hp with rfl | rfl | rfl | rfl | rfl | rfl <;> first | (simp [D.ids, D.sid, Zb, QV, dInts] at hk; done) | (simp [D.ids, D.sid, Zb, QV, dInts] at hk; subst hk; first | exact .inl rfl | exact .inr (.inl rfl) | (first | exact .inr (.inr ⟨_, List.mem_append_right _ (List.mem_singleton.2 rfl), rfl⟩) | exact .inr (.inr (.inr ⟨_, List.mem_append_right _ (List.mem_singleton.2 rfl), rfl⟩)))))
      ·try dsimp only
       exact ⟨hK1, by simp; omega, by omega, by simp; omega⟩
      ·show 5 - (n + 1) < 5 - n; omega
    ·try rw [h5]
     try simp only [qA] at h5
     refine Qz Z (Qz Z (Qz Z (Qk Z Z (hK _ _ (QN (kp8 Z Z Z Z Z Z Z Z) ?_)))))
     refine Qh7 Z (YR (Qg (Q6 (kp6 Z Z Z Z Z Z) (ZI fun K hK => Qa Z (Q7 Z Z (by first | exact Qr (by omega) (by omega) | rfl) (Qa Z (hK _ ?_)))))))
     refine Qh (us ++ [(UR.mk (names5[n]'(by have := Zc; omega)) [] (500001 + us.length) cs)], nxI (nxI J), n + 1) ?_ ?_ ?_
     ·exact Qpt (l := [0, 1, 5, 6, 7, 8]) (B := [_, _]) (kp6 rfl rfl rfl rfl rfl rfl) rfl hK1.keys (by repeat (first | exact Qy | refine Ql (by omega) ?_)) (by repeat (first | exact Qy | refine Ql (by omega) ?_)) (by intro p hp h; simp only [List.mem_cons, List.not_mem_nil, or_false] at hp; rcases hp with rfl | rfl <;> first | (simp only at h; omega) | rfl) (by omega) (by intro p hp k hk; simp only [List.mem_cons, List.not_mem_nil, or_false] at hp; rcases hp with rfl | rfl | rfl | rfl | rfl | rfl <;> first | (simp [D.ids, D.sid, Zb, QV, dInts] at hk; done) | (simp [D.ids, D.sid, Zb, QV, dInts] at hk; subst hk; first | exact .inl rfl | exact .inr (.inl rfl) | (first | exact .inr (.inr ⟨_, List.mem_append_right _ (List.mem_singleton.2 rfl), rfl⟩) | exact .inr (.inr (.inr ⟨_, List.mem_append_right _ (List.mem_singleton.2 rfl), rfl⟩)))))
     ·try dsimp only
      exact ⟨hK1, by simp; omega, by omega, by simp; omega⟩
     ·show 5 - (n + 1) < 5 - n; omega
  ·try rw [h2]
   try simp only [qA] at h2
   refine Qci (Y0 (Qt (QB (Q6 (kp1 Z) (Q8 fun K hK => Qa Z (Qa Z (hK _ _ (QN (kp1 Z) ?_))))))))
   refine Qfj ?_
   refine ⟨.osl 500000 us.length, ((500000, ⟨us.map dUR, 3, 65, false⟩) :: fbx 62 us) ++ [(kg, gB L (nxI J) eg), (kg, gB L I eg)], ⟨us, _, ⟨hI.1, by omega, by omega⟩, rfl, rfl⟩, (QaO (g3 := gB L J eg) hI.1.keys hkg Z Z (by omega)).1, (QaO (g3 := gB L J eg) hI.1.keys hkg Z Z (by omega)).2.1, X9 Z Z (QaO (g3 := gB L J eg) hI.1.keys hkg Z Z (by omega)).2.2⟩
 ·try rw [h1]
  try simp only [qA] at h1
  refine Qz Z (Qz Z (Qz Z (Qz Z (Qk Z Z (hK _ _ (QN (kp7 Z Z Z Z Z Z Z) ?_))))))
  refine Qh7 Z (Qci (Y0 (Qt (QB (Q6 (kp1 Z) (Q8 fun K hK => Qa Z (Qa Z (hK _ _ (QN (kp1 Z) ?_)))))))))
  refine Qfj ?_
  refine ⟨.osl 500000 us.length, ((500000, ⟨us.map dUR, 3, 65, false⟩) :: fbx 62 us) ++ [(kg, gB L (nxI J) eg), (kg, gB L I eg)], ⟨us, _, ⟨hI.1, by omega, by omega⟩, rfl, rfl⟩, (QaO (g3 := gB L J eg) hI.1.keys hkg Z Z (by omega)).1, (QaO (g3 := gB L J eg) hI.1.keys hkg Z Z (by omega)).2.1, X9 Z Z (QaO (g3 := gB L J eg) hI.1.keys hkg Z Z (by omega)).2.2⟩
end Go.Proofs
