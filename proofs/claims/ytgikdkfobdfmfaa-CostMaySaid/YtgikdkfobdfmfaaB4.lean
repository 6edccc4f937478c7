/- Part 4 of the means of the proof: a verified abstract evaluator, the prepared functions, and contracts of functions. It states nothing of the claim by itself. -/
import Derived.Test.YtgikdkfobdfmfaaB3
set_option maxRecDepth 4000
set_option linter.unusedSimpArgs false
set_option linter.unusedVariables false
namespace Go.Proofs
open Go Go.Abs M3
set_option linter.unusedVariables false
set_option linter.unusedSimpArgs false
theorem Qax {s : List UInt8} (hl : s.length <= 1000000) : Ok Try.prog 89 [.str s] (.tup [.int .i64 (Ye s).1, .bool (Ye s).2]) := by
 refine Ok.ofT Z2 Try.func89 Qra (Nat.le_of_ble_eq_true Z) ?_
 show TW _ _ tf89.body _ _
 refine Qe fun K hK => Qa Z (Qa Z (hK _ _ (Qb (kp1 Z) ?_)))
 refine Qhm (ι := Unit) (fun _u => ⟨[(0, .str s)], []⟩) (fun _u => ¬ (s = [] \/ 4 < s.length \/ (1 < s.length /\ s.head? = some 48))) ?_ ?_
 ·skip
  refine Qe fun K hK => Qa Z (Qbq Z Z (Qa Z ?_))
  refine QB (g := 9) Z (fun h1 => ?_) (fun h1 => ?_)
  ·try rw [h1]
   try simp only [qB, Bool.and_eq_true, Bool.and_eq_false_iff, decide_eq_true_eq] at h1
   refine QA Z (QA Z (QA Z (Qn Z Z (Qa Z (QA Z (QA Z (QA Z (QA Z (Q0 Z (Q0 Z (Q0 Z ?_)))))))))))
   refine QA Z (Qn Z Z (hK _ _ (Qb (kp2 Z Z) ?_)))
   refine ZG Z (Qe fun K hK => Qa Z (Qa Z (hK _ _ (Qb (kp2 Z Z) ?_))))
   refine Qt (Qb5 (ZT Z Z ?_))
   first | (rw [Qat (s := s) (by first | (left; assumption) | (right; omega))]; exact ⟨rfl, rfl⟩) | (rw [YH (s := s) (by omega) (by assumption)]; exact ⟨rfl, rfl⟩) | (rw [Xn (s := s) (i := i) (by omega) (by simp [Ym]; omega)]; exact ⟨rfl, rfl⟩) | (rw [QbS (s := s) (i := i) hJ (by omega) hI.2.1]; exact ⟨rfl, by simp [Qai, D.fz, D.fzS, D.can, D.canS]; omega⟩)
  ·try rw [h1]
   try simp only [qB, Bool.and_eq_true, Bool.and_eq_false_iff, decide_eq_true_eq] at h1
   refine Ql Z (Qa Z (Ql Z (Yp Z (Ql Z (Qcp Z Z (Qn Z Z (Qa Z ?_)))))))
   refine QB (g := 14) Z (fun h2 => ?_) (fun h2 => ?_)
   ·try rw [h2]
    try simp only [qB, Bool.and_eq_true, Bool.and_eq_false_iff, decide_eq_true_eq] at h2
    refine QA Z (QA Z (QA Z (QA Z (Q0 Z (Q0 Z (Q0 Z (QA Z (Qn Z Z (hK _ _ (Qb (kp2 Z Z) ?_))))))))))
    refine ZG Z (Qe fun K hK => Qa Z (Qa Z (hK _ _ (Qb (kp2 Z Z) ?_))))
    refine Qt (Qb5 (ZT Z Z ?_))
    first | (rw [Qat (s := s) (by first | (left; assumption) | (right; omega))]; exact ⟨rfl, rfl⟩) | (rw [YH (s := s) (by omega) (by assumption)]; exact ⟨rfl, rfl⟩) | (rw [Xn (s := s) (i := i) (by omega) (by simp [Ym]; omega)]; exact ⟨rfl, rfl⟩) | (rw [QbS (s := s) (i := i) hJ (by omega) hI.2.1]; exact ⟨rfl, by simp [Qai, D.fz, D.fzS, D.can, D.canS]; omega⟩)
   ·try rw [h2]
    try simp only [qB, Bool.and_eq_true, Bool.and_eq_false_iff, decide_eq_true_eq] at h2
    refine Ql Z (Qa Z (Ql Z (Yg Z Z (by omega) (XT (i := 0) (List.length_pos_iff.2 (by assumption))) (Ql Z (YI Z Z (Ql Z (Qa Z ?_)))))))
    refine QB (g := 18) Z (fun h3 => ?_) (fun h3 => ?_)
    ·try rw [h3]
     try simp only [qB, Bool.and_eq_true, Bool.and_eq_false_iff, decide_eq_true_eq] at h3
     refine Ql Z (Qa Z (Ql Z (Yp Z (Ql Z (Qcp Z Z (Ql Z (Qn Z Z (Qn Z Z (hK _ _ (Qb (kp2 Z Z) ?_))))))))))
     refine Qy Z (fun h4 => ?_) (fun h4 => ?_)
     ·try rw [h4]
      try simp only [qB, Bool.and_eq_true, Bool.and_eq_false_iff, decide_eq_true_eq] at h4
      refine Qe fun K hK => Qa Z (Qa Z (hK _ _ (Qb (kp2 Z Z) ?_)))
      refine Qt (Qb5 (ZT Z Z ?_))
      first | (rw [Qat (s := s) (by first | (left; assumption) | (right; omega))]; exact ⟨rfl, rfl⟩) | (rw [YH (s := s) (by omega) (by assumption)]; exact ⟨rfl, rfl⟩) | (rw [Xn (s := s) (i := i) (by omega) (by simp [Ym]; omega)]; exact ⟨rfl, rfl⟩) | (rw [QbS (s := s) (i := i) hJ (by omega) hI.2.1]; exact ⟨rfl, by simp [Qai, D.fz, D.fzS, D.can, D.canS]; omega⟩)
     ·try rw [h4]
      try simp only [qB, Bool.and_eq_true, Bool.and_eq_false_iff, decide_eq_true_eq] at h4
      refine Qu ?_
      refine Zw () ?_ ?_
      ·exact QU (kp1 rfl)
      ·rintro (q | q | q) <;> first | (simp_all; done) | omega | exact QgF (s := s) (by omega) (by assumption) q.2
    ·try rw [h3]
     try simp only [qB, Bool.and_eq_true, Bool.and_eq_false_iff, decide_eq_true_eq] at h3
     refine QA Z (QA Z (QA Z (Ql Z (Qn Z Z (Qn Z Z (hK _ _ (Qb (kp2 Z Z) ?_)))))))
     refine Zy Z (Qu ?_)
     refine Zw () ?_ ?_
     ·exact QU (kp1 rfl)
     ·rintro (q | q | q) <;> first | (simp_all; done) | omega | exact QgF (s := s) (by omega) (by assumption) q.2
 intro _u hJ
 try dsimp only
 refine Qe fun K hK => Qa Z (hK _ _ (Qb (kp2 Z Z) ?_))
 refine QE ?_ -- 1
 refine Qe fun K hK => Qa Z (Qkj Z Z (hK _ _ (Qb (kp2 Z Z) ?_)))
 refine QG ?_
 refine ZL (ι := Nat) (fun i => ⟨[(4, .int .i64 (val (s.take i))), (25, .ref 25 0 0)], [(25, ⟨[], 0, Zs s i, false⟩)]⟩) (fun i => i <= s.length /\ (s.take i).all Ym = true /\ s.length <= 4 /\ 0 < s.length) (fun i => s.length - i) 0 ?_ ?_ ?_
 ·exact Zg (l := [4, 25]) (lH := [25]) (kp2 rfl rfl) (Qf rfl Qs) (by simp [val]) rfl rfl
 ·exact ⟨Nat.zero_le _, rfl, Nat.le_of_not_lt fun h => hJ (.inr (.inl h)), List.length_pos_iff.2 fun h => hJ (.inl h)⟩
 intro i hI
 have hv := Qly (s := s.take i) hI.2.1
 have hp : 10 ^ (s.take i).length <= 10 ^ 4 := Nat.pow_le_pow_right (by omega) (by simp; omega)
 have hI1 := hI.1
 have hI3 := hI.2.2.1
 try dsimp only
 refine Qe fun K hK => ?_
 rcases Nat.lt_or_ge (i) (s).length with h5 | h5
 ·rcases Nat.lt_or_ge (((s)[i]).toNat) 128 with h6 | h6
  ·refine Qi5 Z Z h5 (QhA h5 h6) (Zi Z Z (hK _ _ (Qb (kp4 Z Z Z Z) ?_)))
   refine QE ?_ -- 2
   refine ZG Z (Qu (Qd (kp3 Z Z Z) (QG (Qe fun K hK => Zi Z Z (Qa Z (hK _ _ (Qb (kp3 Z Z Z) ?_)))))))
   refine QG (Qe fun K hK => Qa Z (Qke Z Z (Qa Z ?_)))
   refine QB (g := 32) Z (fun h7 => ?_) (fun h7 => ?_)
   ·try rw [h7]
    try simp only [qB, Bool.and_eq_true, Bool.and_eq_false_iff, decide_eq_true_eq] at h7
    refine Ql Z (Qa Z (Ql Z (QlK Z Z (Qn Z Z (Qa Z (hK _ _ (Qb (kp4 Z Z Z Z) ?_)))))))
    refine Qy Z (fun h8 => ?_) (fun h8 => ?_)
    ·try rw [h8]
     try simp only [qB, Bool.and_eq_true, Bool.and_eq_false_iff, decide_eq_true_eq] at h8
     refine Q4 fun K hK => Qa Z (Qm6 Z Z (by first | exact Qr (by omega) (by omega) | exact QH (by omega) (by omega) | exact QO (by omega) (by omega) | rfl) (Qa Z (QcQ Z Z (by first | exact Qr (by omega) (by omega) | exact QH (by omega) (by omega) | exact QO (by omega) (by omega) | rfl) (QfN Z (by first | exact Qr (by omega) (by omega) | exact QH (by omega) (by omega) | exact QO (by omega) (by omega) | rfl) (Zc Z Z (by first | exact Qr (by omega) (by omega) | exact QH (by omega) (by omega) | exact QO (by omega) (by omega) | rfl) (Qa Z (hK _ ?_)))))))
     refine Qg (Qg ?_)
     refine Qj (i + 1) ?_ ?_ ?_
     ·first | exact Zg (l := [4, 25]) (lH := [25]) (kp2 rfl rfl) (Qf rfl Qs) rfl rfl rfl | exact Zg (l := [4, 25]) (lH := [25]) (kp2 rfl rfl) (Qf rfl Qs) (by rw [Qeq (by omega)]; simp; omega) rfl rfl | (exfalso; omega)
     ·first | exact ⟨by omega, Zh (by omega) hI.2.1 (by simp [Ym]; omega), hI.2.2⟩ | (exfalso; omega)
     ·first | omega | (simp only; omega) | (dsimp only; omega)
    ·try rw [h8]
     try simp only [qB, Bool.and_eq_true, Bool.and_eq_false_iff, decide_eq_true_eq] at h8
     refine Qe fun K hK => Qa Z (Qa Z (hK _ _ (Qb (kp2 Z Z) ?_)))
     refine Qt (Qq (Qq (Q1 (Qq (Qi (ZT Z Z ?_))))))
     first | (rw [Qat (s := s) (by first | (left; assumption) | (right; omega))]; exact ⟨rfl, rfl⟩) | (rw [YH (s := s) (by omega) (by assumption)]; exact ⟨rfl, rfl⟩) | (rw [Xn (s := s) (i := i) (by omega) (by simp [Ym]; omega)]; exact ⟨rfl, rfl⟩) | (rw [QbS (s := s) (i := i) hJ (by omega) hI.2.1]; exact ⟨rfl, by simp [Qai, D.fz, D.fzS, D.can, D.canS]; omega⟩)
   ·try rw [h7]
    try simp only [qB, Bool.and_eq_true, Bool.and_eq_false_iff, decide_eq_true_eq] at h7
    refine QA Z (QA Z (Qn Z Z (Qa Z (hK _ _ (Qb (kp4 Z Z Z Z) ?_)))))
    refine Zy Z (Qe fun K hK => Qa Z (Qa Z (hK _ _ (Qb (kp2 Z Z) ?_))))
    refine Qt (Qq (Qq (Q1 (Qq (Qi (ZT Z Z ?_))))))
    first | (rw [Qat (s := s) (by first | (left; assumption) | (right; omega))]; exact ⟨rfl, rfl⟩) | (rw [YH (s := s) (by omega) (by assumption)]; exact ⟨rfl, rfl⟩) | (rw [Xn (s := s) (i := i) (by omega) (by simp [Ym]; omega)]; exact ⟨rfl, rfl⟩) | (rw [QbS (s := s) (i := i) hJ (by omega) hI.2.1]; exact ⟨rfl, by simp [Qai, D.fz, D.fzS, D.can, D.canS]; omega⟩)
  ·obtain ⟨cwh6, nwh6, hch6, hdh6⟩ := Qjd h5 h6
   refine Qi5 Z Z h5 hdh6 (Zi Z Z (hK _ _ (Qb (kp4 Z Z Z Z) ?_)))
   refine QE ?_ -- 2
   refine ZG Z (Qu (Qd (kp3 Z Z Z) (QG (Qe fun K hK => Zi Z Z (Qa Z (hK _ _ (Qb (kp3 Z Z Z) ?_)))))))
   refine QG (Qe fun K hK => Qa Z (Qke Z Z (Qa Z ?_)))
   refine QB (g := 32) Z (fun h9 => ?_) (fun h9 => ?_)
   ·try rw [h9]
    try simp only [qB, Bool.and_eq_true, Bool.and_eq_false_iff, decide_eq_true_eq] at h9
    refine Ql Z (Qa Z (Ql Z (QlK Z Z (Qn Z Z (Qa Z (hK _ _ (Qb (kp4 Z Z Z Z) ?_)))))))
    refine Qy Z (fun h10 => ?_) (fun h10 => ?_)
    ·try rw [h10]
     try simp only [qB, Bool.and_eq_true, Bool.and_eq_false_iff, decide_eq_true_eq] at h10
     refine Q4 fun K hK => Qa Z (Qm6 Z Z (by first | exact Qr (by omega) (by omega) | exact QH (by omega) (by omega) | exact QO (by omega) (by omega) | rfl) (Qa Z (QcQ Z Z (by first | exact Qr (by omega) (by omega) | exact QH (by omega) (by omega) | exact QO (by omega) (by omega) | rfl) (QfN Z (by first | exact Qr (by omega) (by omega) | exact QH (by omega) (by omega) | exact QO (by omega) (by omega) | rfl) (Zc Z Z (by first | exact Qr (by omega) (by omega) | exact QH (by omega) (by omega) | exact QO (by omega) (by omega) | rfl) (Qa Z (hK _ ?_)))))))
     refine Qg (Qg ?_)
     refine Qj (i + 1) ?_ ?_ ?_
     ·first | exact Zg (l := [4, 25]) (lH := [25]) (kp2 rfl rfl) (Qf rfl Qs) rfl rfl rfl | exact Zg (l := [4, 25]) (lH := [25]) (kp2 rfl rfl) (Qf rfl Qs) (by rw [Qeq (by omega)]; simp; omega) rfl rfl | (exfalso; omega)
     ·first | exact ⟨by omega, Zh (by omega) hI.2.1 (by simp [Ym]; omega), hI.2.2⟩ | (exfalso; omega)
     ·first | omega | (simp only; omega) | (dsimp only; omega)
    ·try rw [h10]
     try simp only [qB, Bool.and_eq_true, Bool.and_eq_false_iff, decide_eq_true_eq] at h10
     refine Qe fun K hK => Qa Z (Qa Z (hK _ _ (Qb (kp2 Z Z) ?_)))
     refine Qt (Qq (Qq (Q1 (Qq (Qi (ZT Z Z ?_))))))
     first | (rw [Qat (s := s) (by first | (left; assumption) | (right; omega))]; exact ⟨rfl, rfl⟩) | (rw [YH (s := s) (by omega) (by assumption)]; exact ⟨rfl, rfl⟩) | (rw [Xn (s := s) (i := i) (by omega) (by simp [Ym]; omega)]; exact ⟨rfl, rfl⟩) | (rw [QbS (s := s) (i := i) hJ (by omega) hI.2.1]; exact ⟨rfl, by simp [Qai, D.fz, D.fzS, D.can, D.canS]; omega⟩)
   ·try rw [h9]
    try simp only [qB, Bool.and_eq_true, Bool.and_eq_false_iff, decide_eq_true_eq] at h9
    refine QA Z (QA Z (Qn Z Z (Qa Z (hK _ _ (Qb (kp4 Z Z Z Z) ?_)))))
    refine Zy Z (Qe fun K hK => Qa Z (Qa Z (hK _ _ (Qb (kp2 Z Z) ?_))))
    refine Qt (Qq (Qq (Q1 (Qq (Qi (ZT Z Z ?_))))))
    first | (rw [Qat (s := s) (by first | (left; assumption) | (right; omega))]; exact ⟨rfl, rfl⟩) | (rw [YH (s := s) (by omega) (by assumption)]; exact ⟨rfl, rfl⟩) | (rw [Xn (s := s) (i := i) (by omega) (by simp [Ym]; omega)]; exact ⟨rfl, rfl⟩) | (rw [QbS (s := s) (i := i) hJ (by omega) hI.2.1]; exact ⟨rfl, by simp [Qai, D.fz, D.fzS, D.can, D.canS]; omega⟩)
 ·refine Qhk Z Z (by omega) (Zi Z Z (hK _ _ (Qb (kp4 Z Z Z Z) ?_)))
  refine QE ?_ -- 2
  refine Zy Z (Zk (QI (Qw (QD (Qd (kp1 Z) (Qe fun K hK => Qa Z (Qa Z (QlK Z Z (Qa Z (Qa Z ?_))))))))))
  refine hK _ _ (Qb (kp2 Z Z) ?_)
  refine Qt (ZT Z Z ?_)
  first | (rw [Qat (s := s) (by first | (left; assumption) | (right; omega))]; exact ⟨rfl, rfl⟩) | (rw [YH (s := s) (by omega) (by assumption)]; exact ⟨rfl, rfl⟩) | (rw [Xn (s := s) (i := i) (by omega) (by simp [Ym]; omega)]; exact ⟨rfl, rfl⟩) | (rw [QbS (s := s) (i := i) hJ (by omega) hI.2.1]; exact ⟨rfl, by simp [Qai, D.fz, D.fzS, D.can, D.canS]; omega⟩)
theorem Qaz {s : List UInt8} (hl : s.length <= 1000000) : Ok Try.prog 86 [.str s] (.bool (Qcx s)) := by
 refine Ok.ofT Z2 Try.func86 Qq7 (Nat.le_of_ble_eq_true Z) ?_
 show TW _ _ tf86.body _ _
 refine Qe fun K hK => Qa Z (hK _ _ (Qb (kp1 Z) ?_))
 refine Qm9 (Qe fun K hK => Qa Z (QC (XW (by omega)) Z Z (.inl Z) (Qa Z (hK _ _ (Qb (kp1 Z) ?_)))))
 refine Qe fun K hK => Qa Z (QY Z Z (QlK Z Z (Qa Z (hK _ _ (Qb (kp2 Z Z) ?_)))))
 refine QE ?_ -- 0
 refine Qu (Qd (kp2 Z Z) ?_)
 refine QE ?_ -- 1
 refine Qe fun K hK => Qa Z (QY Z Z (Qa Z (hK _ _ (Qb (kp4 Z Z Z Z) ?_))))
 refine QG ?_
 refine ZL (ι := Nat) (fun i => ⟨[(4, .bool (decide ((Q7 s 46).length <= 4))), (14, .sl (Yf (Q7 s 46))), (15, .int .i64 (Q7 s 46).length), (16, .int .i64 i)], []⟩) (fun i => i <= (Q7 s 46).length /\ ((Q7 s 46).take i).all Qbv = true) (fun i => (Q7 s 46).length - i) 0 ?_ ?_ ?_
 ·exact Zg (l := [4, 14, 15, 16]) (kp4 rfl rfl rfl rfl) Qs (by simp [Qo]; omega) rfl rfl
 ·exact ⟨Nat.zero_le _, rfl⟩
 intro i hI
 have sl := Qdw (s := s) (c := 46)
 try dsimp only
 refine Qe fun K hK => Yx Z Z (hK _ _ (Qb (kp5 Z Z Z Z Z) ?_))
 refine QE ?_ -- 2
 refine Qy Z (fun h1 => ?_) (fun h1 => ?_)
 ·try rw [h1]
  try simp only [qB, Qo] at h1
  refine Qu (Qd (kp4 Z Z Z Z) ?_)
  refine QE ?_ -- 3
  refine QG (Qe fun K hK => QN Z Z Z (by omega) (Y6 (by omega)) Z (QF Z Z Z (Qa Z (hK _ _ (Qb (kp5 Z Z Z Z Z) ?_)))))
  refine QE ?_ -- 4
  refine Qe fun K hK => Qa Z (Qbq Z Z (Qa Z ?_))
  refine QB (g := 22) Z (fun h2 => ?_) (fun h2 => ?_)
  ·try rw [h2]
   try simp only [qB, Qo] at h2
   refine QA Z (QA Z (QA Z (Qn Z Z (hK _ _ (Qb (kp6 Z Z Z Z Z Z) ?_)))))
   refine ZG Z (Qe fun K hK => Qa Z (hK _ _ (Qb (kp1 Z) ?_)))
   refine Zk (QI (Ze (by decide) (QI (Qw (QD (Qd (kp1 Z) (Qe fun K hK => Qa Z (Qa Z (hK _ _ (Qb (kp1 Z) ?_))))))))))
   refine Qt (Qp Z ?_)
   first | exact (ZR (i := i) (by omega) (Xm (by first | (left; assumption) | (right; omega)))).symm | exact (ZR (i := i) (by omega) (Xl (Yh (i := j) (by omega) (by simp [ZP]; omega)))).symm | exact (YR (by omega) hI.2).symm
  ·try rw [h2]
   try simp only [qB, Qo] at h2
   refine Ql Z (Qa Z (Ql Z (Yp Z (Ql Z (Qcp Z Z (Qn Z Z (hK _ _ (Qb (kp6 Z Z Z Z Z Z) ?_))))))))
   refine Qy Z (fun h3 => ?_) (fun h3 => ?_)
   ·try rw [h3]
    try simp only [qB, Qo] at h3
    refine Qe fun K hK => Qa Z (hK _ _ (Qb (kp1 Z) ?_))
    refine Zk (QI (Ze (by decide) (QI (Qw (QD (Qd (kp1 Z) (Qe fun K hK => Qa Z (Qa Z (hK _ _ (Qb (kp1 Z) ?_))))))))))
    refine Qt (Qp Z ?_)
    first | exact (ZR (i := i) (by omega) (Xm (by first | (left; assumption) | (right; omega)))).symm | exact (ZR (i := i) (by omega) (Xl (Yh (i := j) (by omega) (by simp [ZP]; omega)))).symm | exact (YR (by omega) hI.2).symm
   ·try rw [h3]
    try simp only [qB, Qo] at h3
    refine Qu (Qd (kp5 Z Z Z Z Z) (Qe fun K hK => Qa Z (Qkj Z Z (hK _ _ (Qb (kp5 Z Z Z Z Z) ?_)))))
    refine QG ?_
    have hlt : i < (Q7 s 46).length := by omega
    refine ZL (ι := Nat) (fun j => ⟨[(4, .bool (decide ((Q7 s 46).length <= 4))), (14, .sl (Yf (Q7 s 46))), (15, .int .i64 (Q7 s 46).length), (16, .int .i64 i), (28, .ref 28 0 0)], [(28, ⟨[], 0, Zs ((Q7 s 46)[i]'hlt) j, false⟩)]⟩) (fun j => j <= ((Q7 s 46)[i]'hlt).length /\ (((Q7 s 46)[i]'hlt).take j).all ZP = true) (fun j => ((Q7 s 46)[i]'hlt).length - j) 0 ?_ ?_ ?_
    ·first | exact Zg (l := [4, 14, 15, 16, 28]) (lH := [28]) (kp5 rfl rfl rfl rfl rfl) (Qf rfl Qs) rfl rfl rfl | (exfalso; omega)
    ·exact ⟨Nat.zero_le _, rfl⟩
    intro j hJ
    have hJ1 := hJ.1
    try dsimp only
    refine Qe fun K hK => ?_
    rcases Nat.lt_or_ge (j) (((Q7 s 46)[i]'hlt)).length with h4 | h4
    ·rcases Nat.lt_or_ge (((((Q7 s 46)[i]'hlt))[j]).toNat) 128 with h5 | h5
     ·refine Qi5 Z Z h4 (QhA h4 h5) (Zi Z Z (hK _ _ (Qb (kp7 Z Z Z Z Z Z Z) ?_)))
      refine QE ?_ -- 5
      refine ZG Z (Qu (Qd (kp6 Z Z Z Z Z Z) (QG (Qe fun K hK => Zi Z Z (Qa Z (hK _ _ (Qb (kp6 Z Z Z Z Z Z) ?_)))))))
      refine Qe fun K hK => Qa Z (Yx Z Z (Qa Z ?_))
      refine QB (g := 34) Z (fun h6 => ?_) (fun h6 => ?_)
      ·try rw [h6]
       try simp only [qB, Qo] at h6
       refine QA Z (QA Z (Qn Z Z (Qa Z (Ql Z (Qa Z (Ql Z (Yx Z Z (Ql Z (Qa Z ?_)))))))))
       refine QB (g := 41) Z (fun h7 => ?_) (fun h7 => ?_)
       ·try rw [h7]
        try simp only [qB, Qo] at h7
        refine QA Z (QA Z (Ql Z (Qn Z Z (Qn Z Z (Qa Z (Ql Z (Qa Z (Ql Z (Xf Z Z (Qn Z Z (hK _ _ (Qb (kp6 Z Z Z Z Z Z) ?_))))))))))))
        refine Qy Z (fun h8 => ?_) (fun h8 => ?_)
        ·try rw [h8]
         try simp only [qB, Qo] at h8
         refine Qe fun K hK => Qa Z (hK _ _ (Qb (kp1 Z) ?_))
         refine Zk (Ze (by decide) (Qw (Ze (by decide) (Ze (by decide) (QI (Qw (QD (Qd (kp1 Z) (Qe fun K hK => Qa Z (Qa Z ?_))))))))))
         refine hK _ _ (Qb (kp1 Z) ?_)
         refine Qt (Qp Z ?_)
         first | exact (ZR (i := i) (by omega) (Xm (by first | (left; assumption) | (right; omega)))).symm | exact (ZR (i := i) (by omega) (Xl (Yh (i := j) (by omega) (by simp [ZP]; omega)))).symm | exact (YR (by omega) hI.2).symm
        ·try rw [h8]
         try simp only [qB, Qo] at h8
         refine Qu (Qg ?_)
         refine Qj (j + 1) ?_ ?_ ?_
         ·first | exact Zg (l := [4, 14, 15, 16, 28]) (lH := [28]) (kp5 rfl rfl rfl rfl rfl) (Qf rfl Qs) rfl rfl rfl | (exfalso; omega)
         ·first | exact ⟨by omega, Zh (by omega) hJ.2 (by simp [ZP]; omega)⟩ | (exfalso; omega)
         ·first | omega | (simp only; omega) | (dsimp only; omega)
       ·try rw [h7]
        try simp only [qB, Qo] at h7
        refine Ql Z (Qa Z (Ql Z (Qcp Z Z (Ql Z (Qn Z Z (Qn Z Z (Qa Z ?_)))))))
        refine QB (g := 46) Z (fun h9 => ?_) (fun h9 => ?_)
        ·try rw [h9]
         try simp only [qB, Qo] at h9
         refine Ql Z (Qa Z (Ql Z (Xf Z Z (Qn Z Z (hK _ _ (Qb (kp6 Z Z Z Z Z Z) ?_))))))
         refine Qy Z (fun h10 => ?_) (fun h10 => ?_)
         ·try rw [h10]
          try simp only [qB, Qo] at h10
          refine Qe fun K hK => Qa Z (hK _ _ (Qb (kp1 Z) ?_))
          refine Zk (Ze (by decide) (Qw (Ze (by decide) (Ze (by decide) (QI (Qw (QD (Qd (kp1 Z) (Qe fun K hK => Qa Z (Qa Z ?_))))))))))
          refine hK _ _ (Qb (kp1 Z) ?_)
          refine Qt (Qp Z ?_)
          first | exact (ZR (i := i) (by omega) (Xm (by first | (left; assumption) | (right; omega)))).symm | exact (ZR (i := i) (by omega) (Xl (Yh (i := j) (by omega) (by simp [ZP]; omega)))).symm | exact (YR (by omega) hI.2).symm
         ·try rw [h10]
          try simp only [qB, Qo] at h10
          refine Qu (Qg ?_)
          refine Qj (j + 1) ?_ ?_ ?_
          ·first | exact Zg (l := [4, 14, 15, 16, 28]) (lH := [28]) (kp5 rfl rfl rfl rfl rfl) (Qf rfl Qs) rfl rfl rfl | (exfalso; omega)
          ·first | exact ⟨by omega, Zh (by omega) hJ.2 (by simp [ZP]; omega)⟩ | (exfalso; omega)
          ·first | omega | (simp only; omega) | (dsimp only; omega)
        ·try rw [h9]
         try simp only [qB, Qo] at h9
         refine QA Z (QA Z (Qn Z Z (hK _ _ (Qb (kp6 Z Z Z Z Z Z) ?_))))
         refine Zy Z (Qu (Qg ?_))
         refine Qj (j + 1) ?_ ?_ ?_
         ·first | exact Zg (l := [4, 14, 15, 16, 28]) (lH := [28]) (kp5 rfl rfl rfl rfl rfl) (Qf rfl Qs) rfl rfl rfl | (exfalso; omega)
         ·first | exact ⟨by omega, Zh (by omega) hJ.2 (by simp [ZP]; omega)⟩ | (exfalso; omega)
         ·first | omega | (simp only; omega) | (dsimp only; omega)
      ·try rw [h6]
       try simp only [qB, Qo] at h6
       refine Ql Z (Qa Z (Ql Z (Qcp Z Z (Qn Z Z (Qa Z ?_)))))
       refine QB (g := 38) Z (fun h11 => ?_) (fun h11 => ?_)
       ·try rw [h11]
        try simp only [qB, Qo] at h11
        refine Ql Z (Qa Z (Ql Z (Yx Z Z (Ql Z (Qa Z ?_)))))
        refine QB (g := 41) Z (fun h12 => ?_) (fun h12 => ?_)
        ·try rw [h12]
         try simp only [qB, Qo] at h12
         refine QA Z (QA Z (Ql Z (Qn Z Z (Qn Z Z (Qa Z (Ql Z (Qa Z (Ql Z (Xf Z Z (Qn Z Z (hK _ _ (Qb (kp6 Z Z Z Z Z Z) ?_))))))))))))
         refine Qy Z (fun h13 => ?_) (fun h13 => ?_)
         ·try rw [h13]
          try simp only [qB, Qo] at h13
          refine Qe fun K hK => Qa Z (hK _ _ (Qb (kp1 Z) ?_))
          refine Zk (Ze (by decide) (Qw (Ze (by decide) (Ze (by decide) (QI (Qw (QD (Qd (kp1 Z) (Qe fun K hK => Qa Z (Qa Z ?_))))))))))
          refine hK _ _ (Qb (kp1 Z) ?_)
          refine Qt (Qp Z ?_)
          first | exact (ZR (i := i) (by omega) (Xm (by first | (left; assumption) | (right; omega)))).symm | exact (ZR (i := i) (by omega) (Xl (Yh (i := j) (by omega) (by simp [ZP]; omega)))).symm | exact (YR (by omega) hI.2).symm
         ·try rw [h13]
          try simp only [qB, Qo] at h13
          refine Qu (Qg ?_)
          refine Qj (j + 1) ?_ ?_ ?_
          ·first | exact Zg (l := [4, 14, 15, 16, 28]) (lH := [28]) (kp5 rfl rfl rfl rfl rfl) (Qf rfl Qs) rfl rfl rfl | (exfalso; omega)
          ·first | exact ⟨by omega, Zh (by omega) hJ.2 (by simp [ZP]; omega)⟩ | (exfalso; omega)
          ·first | omega | (simp only; omega) | (dsimp only; omega)
        ·try rw [h12]
         try simp only [qB, Qo] at h12
         refine Ql Z (Qa Z (Ql Z (Qcp Z Z (Ql Z (Qn Z Z (Qn Z Z (Qa Z ?_)))))))
         refine QB (g := 46) Z (fun h14 => ?_) (fun h14 => ?_)
         ·try rw [h14]
          try simp only [qB, Qo] at h14
          refine Ql Z (Qa Z (Ql Z (Xf Z Z (Qn Z Z (hK _ _ (Qb (kp6 Z Z Z Z Z Z) ?_))))))
          refine Qy Z (fun h15 => ?_) (fun h15 => ?_)
          ·try rw [h15]
           try simp only [qB, Qo] at h15
           refine Qe fun K hK => Qa Z (hK _ _ (Qb (kp1 Z) ?_))
           refine Zk (Ze (by decide) (Qw (Ze (by decide) (Ze (by decide) (QI (Qw (QD (Qd (kp1 Z) (Qe fun K hK => Qa Z (Qa Z ?_))))))))))
           refine hK _ _ (Qb (kp1 Z) ?_)
           refine Qt (Qp Z ?_)
           first | exact (ZR (i := i) (by omega) (Xm (by first | (left; assumption) | (right; omega)))).symm | exact (ZR (i := i) (by omega) (Xl (Yh (i := j) (by omega) (by simp [ZP]; omega)))).symm | exact (YR (by omega) hI.2).symm
          ·try rw [h15]
           try simp only [qB, Qo] at h15
           refine Qu (Qg ?_)
           refine Qj (j + 1) ?_ ?_ ?_
           ·first | exact Zg (l := [4, 14, 15, 16, 28]) (lH := [28]) (kp5 rfl rfl rfl rfl rfl) (Qf rfl Qs) rfl rfl rfl | (exfalso; omega)
           ·first | exact ⟨by omega, Zh (by omega) hJ.2 (by simp [ZP]; omega)⟩ | (exfalso; omega)
           ·first | omega | (simp only; omega) | (dsimp only; omega)
         ·try rw [h14]
          try simp only [qB, Qo] at h14
          refine QA Z (QA Z (Qn Z Z (hK _ _ (Qb (kp6 Z Z Z Z Z Z) ?_))))
          refine Zy Z (Qu (Qg ?_))
          refine Qj (j + 1) ?_ ?_ ?_
          ·first | exact Zg (l := [4, 14, 15, 16, 28]) (lH := [28]) (kp5 rfl rfl rfl rfl rfl) (Qf rfl Qs) rfl rfl rfl | (exfalso; omega)
          ·first | exact ⟨by omega, Zh (by omega) hJ.2 (by simp [ZP]; omega)⟩ | (exfalso; omega)
          ·first | omega | (simp only; omega) | (dsimp only; omega)
       ·try rw [h11]
        try simp only [qB, Qo] at h11
        refine QA Z (QA Z (QA Z (Q0 Z (Q0 Z (QA Z (Qn Z Z (Qa Z (QA Z (QA Z (Qn Z Z (hK _ _ (Qb (kp6 Z Z Z Z Z Z) ?_))))))))))))
        refine Zy Z (Qu (Qg ?_))
        refine Qj (j + 1) ?_ ?_ ?_
        ·first | exact Zg (l := [4, 14, 15, 16, 28]) (lH := [28]) (kp5 rfl rfl rfl rfl rfl) (Qf rfl Qs) rfl rfl rfl | (exfalso; omega)
        ·first | exact ⟨by omega, Zh (by omega) hJ.2 (by simp [ZP]; omega)⟩ | (exfalso; omega)
        ·first | omega | (simp only; omega) | (dsimp only; omega)
     ·obtain ⟨cwh5, nwh5, hch5, hdh5⟩ := Qjd h4 h5
      refine Qi5 Z Z h4 hdh5 (Zi Z Z (hK _ _ (Qb (kp7 Z Z Z Z Z Z Z) ?_)))
      refine QE ?_ -- 5
      refine ZG Z (Qu (Qd (kp6 Z Z Z Z Z Z) (QG (Qe fun K hK => Zi Z Z (Qa Z (hK _ _ (Qb (kp6 Z Z Z Z Z Z) ?_)))))))
      refine Qe fun K hK => Qa Z (Yx Z Z (Qa Z ?_))
      refine QB (g := 34) Z (fun h16 => ?_) (fun h16 => ?_)
      ·try rw [h16]
       try simp only [qB, Qo] at h16
       refine QA Z (QA Z (Qn Z Z (Qa Z (Ql Z (Qa Z (Ql Z (Yx Z Z (Ql Z (Qa Z ?_)))))))))
       refine QB (g := 41) Z (fun h17 => ?_) (fun h17 => ?_)
       ·try rw [h17]
        try simp only [qB, Qo] at h17
        refine QA Z (QA Z (Ql Z (Qn Z Z (Qn Z Z (Qa Z (Ql Z (Qa Z (Ql Z (Xf Z Z (Qn Z Z (hK _ _ (Qb (kp6 Z Z Z Z Z Z) ?_))))))))))))
        refine Qy Z (fun h18 => ?_) (fun h18 => ?_)
        ·try rw [h18]
         try simp only [qB, Qo] at h18
         refine Qe fun K hK => Qa Z (hK _ _ (Qb (kp1 Z) ?_))
         refine Zk (Ze (by decide) (Qw (Ze (by decide) (Ze (by decide) (QI (Qw (QD (Qd (kp1 Z) (Qe fun K hK => Qa Z (Qa Z ?_))))))))))
         refine hK _ _ (Qb (kp1 Z) ?_)
         refine Qt (Qp Z ?_)
         first | exact (ZR (i := i) (by omega) (Xm (by first | (left; assumption) | (right; omega)))).symm | exact (ZR (i := i) (by omega) (Xl (Yh (i := j) (by omega) (by simp [ZP]; omega)))).symm | exact (YR (by omega) hI.2).symm
        ·try rw [h18]
         try simp only [qB, Qo] at h18
         refine Qu (Qg ?_)
         refine Qj (j + 1) ?_ ?_ ?_
         ·first | exact Zg (l := [4, 14, 15, 16, 28]) (lH := [28]) (kp5 rfl rfl rfl rfl rfl) (Qf rfl Qs) rfl rfl rfl | (exfalso; omega)
         ·first | exact ⟨by omega, Zh (by omega) hJ.2 (by simp [ZP]; omega)⟩ | (exfalso; omega)
         ·first | omega | (simp only; omega) | (dsimp only; omega)
       ·try rw [h17]
        try simp only [qB, Qo] at h17
        refine Ql Z (Qa Z (Ql Z (Qcp Z Z (Ql Z (Qn Z Z (Qn Z Z (Qa Z ?_)))))))
        refine QB (g := 46) Z (fun h19 => ?_) (fun h19 => ?_)
        ·try rw [h19]
         try simp only [qB, Qo] at h19
         refine Ql Z (Qa Z (Ql Z (Xf Z Z (Qn Z Z (hK _ _ (Qb (kp6 Z Z Z Z Z Z) ?_))))))
         refine Qy Z (fun h20 => ?_) (fun h20 => ?_)
         ·try rw [h20]
          try simp only [qB, Qo] at h20
          refine Qe fun K hK => Qa Z (hK _ _ (Qb (kp1 Z) ?_))
          refine Zk (Ze (by decide) (Qw (Ze (by decide) (Ze (by decide) (QI (Qw (QD (Qd (kp1 Z) (Qe fun K hK => Qa Z (Qa Z ?_))))))))))
          refine hK _ _ (Qb (kp1 Z) ?_)
          refine Qt (Qp Z ?_)
          first | exact (ZR (i := i) (by omega) (Xm (by first | (left; assumption) | (right; omega)))).symm | exact (ZR (i := i) (by omega) (Xl (Yh (i := j) (by omega) (by simp [ZP]; omega)))).symm | exact (YR (by omega) hI.2).symm
         ·try rw [h20]
          try simp only [qB, Qo] at h20
          refine Qu (Qg ?_)
          refine Qj (j + 1) ?_ ?_ ?_
          ·first | exact Zg (l := [4, 14, 15, 16, 28]) (lH := [28]) (kp5 rfl rfl rfl rfl rfl) (Qf rfl Qs) rfl rfl rfl | (exfalso; omega)
          ·first | exact ⟨by omega, Zh (by omega) hJ.2 (by simp [ZP]; omega)⟩ | (exfalso; omega)
          ·first | omega | (simp only; omega) | (dsimp only; omega)
        ·try rw [h19]
         try simp only [qB, Qo] at h19
         refine QA Z (QA Z (Qn Z Z (hK _ _ (Qb (kp6 Z Z Z Z Z Z) ?_))))
         refine Zy Z (Qu (Qg ?_))
         refine Qj (j + 1) ?_ ?_ ?_
         ·first | exact Zg (l := [4, 14, 15, 16, 28]) (lH := [28]) (kp5 rfl rfl rfl rfl rfl) (Qf rfl Qs) rfl rfl rfl | (exfalso; omega)
         ·first | exact ⟨by omega, Zh (by omega) hJ.2 (by simp [ZP]; omega)⟩ | (exfalso; omega)
         ·first | omega | (simp only; omega) | (dsimp only; omega)
      ·try rw [h16]
       try simp only [qB, Qo] at h16
       refine Ql Z (Qa Z (Ql Z (Qcp Z Z (Qn Z Z (Qa Z ?_)))))
       refine QB (g := 38) Z (fun h21 => ?_) (fun h21 => ?_)
       ·try rw [h21]
        try simp only [qB, Qo] at h21
        refine Ql Z (Qa Z (Ql Z (Yx Z Z (Ql Z (Qa Z ?_)))))
        refine QB (g := 41) Z (fun h22 => ?_) (fun h22 => ?_)
        ·try rw [h22]
         try simp only [qB, Qo] at h22
         refine QA Z (QA Z (Ql Z (Qn Z Z (Qn Z Z (Qa Z (Ql Z (Qa Z (Ql Z (Xf Z Z (Qn Z Z (hK _ _ (Qb (kp6 Z Z Z Z Z Z) ?_))))))))))))
         refine Qy Z (fun h23 => ?_) (fun h23 => ?_)
         ·try rw [h23]
          try simp only [qB, Qo] at h23
          refine Qe fun K hK => Qa Z (hK _ _ (Qb (kp1 Z) ?_))
          refine Zk (Ze (by decide) (Qw (Ze (by decide) (Ze (by decide) (QI (Qw (QD (Qd (kp1 Z) (Qe fun K hK => Qa Z (Qa Z ?_))))))))))
          refine hK _ _ (Qb (kp1 Z) ?_)
          refine Qt (Qp Z ?_)
          first | exact (ZR (i := i) (by omega) (Xm (by first | (left; assumption) | (right; omega)))).symm | exact (ZR (i := i) (by omega) (Xl (Yh (i := j) (by omega) (by simp [ZP]; omega)))).symm | exact (YR (by omega) hI.2).symm
         ·try rw [h23]
          try simp only [qB, Qo] at h23
          refine Qu (Qg ?_)
          refine Qj (j + 1) ?_ ?_ ?_
          ·first | exact Zg (l := [4, 14, 15, 16, 28]) (lH := [28]) (kp5 rfl rfl rfl rfl rfl) (Qf rfl Qs) rfl rfl rfl | (exfalso; omega)
          ·first | exact ⟨by omega, Zh (by omega) hJ.2 (by simp [ZP]; omega)⟩ | (exfalso; omega)
          ·first | omega | (simp only; omega) | (dsimp only; omega)
        ·try rw [h22]
         try simp only [qB, Qo] at h22
         refine Ql Z (Qa Z (Ql Z (Qcp Z Z (Ql Z (Qn Z Z (Qn Z Z (Qa Z ?_)))))))
         refine QB (g := 46) Z (fun h24 => ?_) (fun h24 => ?_)
         ·try rw [h24]
          try simp only [qB, Qo] at h24
          refine Ql Z (Qa Z (Ql Z (Xf Z Z (Qn Z Z (hK _ _ (Qb (kp6 Z Z Z Z Z Z) ?_))))))
          refine Qy Z (fun h25 => ?_) (fun h25 => ?_)
          ·try rw [h25]
           try simp only [qB, Qo] at h25
           refine Qe fun K hK => Qa Z (hK _ _ (Qb (kp1 Z) ?_))
           refine Zk (Ze (by decide) (Qw (Ze (by decide) (Ze (by decide) (QI (Qw (QD (Qd (kp1 Z) (Qe fun K hK => Qa Z (Qa Z ?_))))))))))
           refine hK _ _ (Qb (kp1 Z) ?_)
           refine Qt (Qp Z ?_)
           first | exact (ZR (i := i) (by omega) (Xm (by first | (left; assumption) | (right; omega)))).symm | exact (ZR (i := i) (by omega) (Xl (Yh (i := j) (by omega) (by simp [ZP]; omega)))).symm | exact (YR (by omega) hI.2).symm
          ·try rw [h25]
           try simp only [qB, Qo] at h25
           refine Qu (Qg ?_)
           refine Qj (j + 1) ?_ ?_ ?_
           ·first | exact Zg (l := [4, 14, 15, 16, 28]) (lH := [28]) (kp5 rfl rfl rfl rfl rfl) (Qf rfl Qs) rfl rfl rfl | (exfalso; omega)
           ·first | exact ⟨by omega, Zh (by omega) hJ.2 (by simp [ZP]; omega)⟩ | (exfalso; omega)
           ·first | omega | (simp only; omega) | (dsimp only; omega)
         ·try rw [h24]
          try simp only [qB, Qo] at h24
          refine QA Z (QA Z (Qn Z Z (hK _ _ (Qb (kp6 Z Z Z Z Z Z) ?_))))
          refine Zy Z (Qu (Qg ?_))
          refine Qj (j + 1) ?_ ?_ ?_
          ·first | exact Zg (l := [4, 14, 15, 16, 28]) (lH := [28]) (kp5 rfl rfl rfl rfl rfl) (Qf rfl Qs) rfl rfl rfl | (exfalso; omega)
          ·first | exact ⟨by omega, Zh (by omega) hJ.2 (by simp [ZP]; omega)⟩ | (exfalso; omega)
          ·first | omega | (simp only; omega) | (dsimp only; omega)
       ·try rw [h21]
        try simp only [qB, Qo] at h21
        refine QA Z (QA Z (QA Z (Q0 Z (Q0 Z (QA Z (Qn Z Z (Qa Z (QA Z (QA Z (Qn Z Z (hK _ _ (Qb (kp6 Z Z Z Z Z Z) ?_))))))))))))
        refine Zy Z (Qu (Qg ?_))
        refine Qj (j + 1) ?_ ?_ ?_
        ·first | exact Zg (l := [4, 14, 15, 16, 28]) (lH := [28]) (kp5 rfl rfl rfl rfl rfl) (Qf rfl Qs) rfl rfl rfl | (exfalso; omega)
        ·first | exact ⟨by omega, Zh (by omega) hJ.2 (by simp [ZP]; omega)⟩ | (exfalso; omega)
        ·first | omega | (simp only; omega) | (dsimp only; omega)
    ·refine Qhk Z Z (by omega) (Zi Z Z (hK _ _ (Qb (kp7 Z Z Z Z Z Z Z) ?_)))
     refine QE ?_ -- 5
     refine Zy Z (Zk (QI (Qw (QD (Qg (Qd (kp4 Z Z Z Z) (Q4 fun K hK => Zc Z Z (by first | exact Qr (by omega) (by omega) | exact QH (by omega) (by omega) | exact QO (by omega) (by omega) | rfl) (Qa Z (hK _ ?_)))))))))
     refine Qj (i + 1) ?_ ?_ ?_
     ·exact Zg (l := [4, 14, 15, 16]) (kp4 rfl rfl rfl rfl) Qs rfl rfl rfl
     ·exact ⟨by omega, Zh (by omega) hI.2 (QnF (by assumption) (by omega) (Xa (by omega) hJ.2))⟩
     ·first | omega | (simp only; omega) | (dsimp only; omega)
 ·try rw [h1]
  try simp only [qB, Qo] at h1
  refine Zk (QI (Qw (QD (Qd (kp1 Z) (Qe fun K hK => Qa Z (Qa Z (hK _ _ (Qb (kp1 Z) ?_))))))))
  refine Qt (Qp Z ?_)
  first | exact (ZR (i := i) (by omega) (Xm (by first | (left; assumption) | (right; omega)))).symm | exact (ZR (i := i) (by omega) (Xl (Yh (i := j) (by omega) (by simp [ZP]; omega)))).symm | exact (YR (by omega) hI.2).symm
end Go.Proofs
namespace Go.Proofs
open Go Go.Abs M3
set_option linter.unusedVariables false
set_option linter.unusedSimpArgs false
theorem Qgs {a b : List UInt8} (ha : a.length <= 1000000) (hb : b.length <= 1000000) : Ok Try.prog 70 [.str a, .str b] (.int .i64 (QfJ a b)) := by
 refine Ok.ofT Z2 Try.func70 QqR (Nat.le_of_ble_eq_true Z) ?_
 show TW _ _ tf70.body _ _
 refine Qe fun K hK => Qa Z (hK _ _ (Qb (kp2 Z Z) ?_))
 refine Qe fun K hK => Qa Z (QC (Xv (by omega)) Z Z (.inr Z) (Qa Z (QC (Xv (by omega)) Z Z (.inr Z) (Qa Z (Qa Z (hK _ _ (Qb (kp4 Z Z Z Z) ?_)))))))
 refine QE ?_ -- 0
 refine Qe fun K hK => Qa Z (Qa Z ?_)
 refine QB (g := 16) Z (fun h1 => ?_) (fun h1 => ?_)
 ·try rw [h1]
  try simp only [qB] at h1
  refine Ql Z (Qa Z (Qn Z Z (hK _ _ (Qb (kp5 Z Z Z Z Z) ?_))))
  refine Qy Z (fun h2 => ?_) (fun h2 => ?_)
  ·try rw [h2]
   try simp only [qB] at h2
   refine Qe fun K hK => Qa Z (QC (Qax (by omega)) Z Z (.inr Z) (Qa Z (Zi Z Z (Zi Z Z (Qa Z (Qa Z (hK _ _ (Qb (kp2 Z Z) ?_))))))))
   refine Qe fun K hK => Qa Z (QC (Qax (by omega)) Z Z (.inr Z) (Qa Z (Zi Z Z (Zi Z Z (Qa Z (Qa Z (hK _ _ (Qb (kp2 Z Z) ?_))))))))
   refine Qe fun K hK => Qa Z (Qa Z (QC (Z4) Z Z (.inr Z) (Qa Z (hK _ _ (Qb (kp1 Z) ?_)))))
   refine Qt (Qi (Qv Z ?_))
   (repeat clear hK K); first | (simp [QfJ, h1, h2]; done) | (simp_all [QfJ]; done)
  ·try rw [h2]
   try simp only [qB] at h2
   refine Qu (Qd (kp4 Z Z Z Z) ?_)
   refine QE ?_ -- 1
   refine Qe fun K hK => Qa Z (Qa Z (Qoq Z Z (hK _ _ (Qb (kp4 Z Z Z Z) ?_))))
   refine Qy Z (fun h3 => ?_) (fun h3 => ?_)
   ·try rw [h3]
    try simp only [qB] at h3
    refine QE ?_ -- 2
    refine Qe fun K hK => Qa Z (hK _ _ (Qb (kp1 Z) ?_))
    refine ZG Z (Qe fun K hK => Qa Z (hK _ _ (Qb (kp1 Z) ?_)))
    refine Qt (Qi (Qi (Qv Z ?_)))
    (repeat clear hK K); first | (simp [QfJ, h1, h2, h3]; done) | (simp_all [QfJ]; done)
   ·try rw [h3]
    try simp only [qB] at h3
    refine Qu (Qd (kp2 Z Z) (Qe fun K hK => Qa Z (Qa Z (QC (XN) Z Z (.inr Z) (Qa Z (hK _ _ (Qb (kp1 Z) ?_)))))))
    refine Qt (Qv Z ?_)
    (repeat clear hK K); first | (simp [QfJ, h1, h2, h3]; done) | (simp_all [QfJ]; done)
 ·try rw [h1]
  try simp only [qB] at h1
  refine QA Z (Qn Z Z (hK _ _ (Qb (kp5 Z Z Z Z Z) ?_)))
  refine Zy Z (Qu (Qd (kp4 Z Z Z Z) ?_))
  refine QE ?_ -- 1
  refine Qe fun K hK => Qa Z (Qa Z (Qoq Z Z (hK _ _ (Qb (kp4 Z Z Z Z) ?_))))
  refine Qy Z (fun h4 => ?_) (fun h4 => ?_)
  ·try rw [h4]
   try simp only [qB] at h4
   refine QE ?_ -- 2
   refine Qe fun K hK => Qa Z (hK _ _ (Qb (kp1 Z) ?_))
   refine Zy Z (Qu (Qd (QP) (Qe fun K hK => Qa Z (hK _ _ (Qb (kp1 Z) ?_)))))
   refine Qt (Qi (Qv Z ?_))
   (repeat clear hK K); first | (simp [QfJ, h1, h4]; done) | (simp_all [QfJ]; done)
  ·try rw [h4]
   try simp only [qB] at h4
   refine Qu (Qd (kp2 Z Z) (Qe fun K hK => Qa Z (Qa Z (QC (XN) Z Z (.inr Z) (Qa Z (hK _ _ (Qb (kp1 Z) ?_)))))))
   refine Qt (Qv Z ?_)
   (repeat clear hK K); first | (simp [QfJ, h1, h4]; done) | (simp_all [QfJ]; done)
theorem Qgr {s : List UInt8} (hl : s.length <= 1000000) : Ok Try.prog 85 [.str s] (.bool (QfK s)) := by
 refine Ok.ofT Z2 Try.func85 Qq6 (Nat.le_of_ble_eq_true Z) ?_
 show TW _ _ tf85.body _ _
 refine Qe fun K hK => Qa Z (hK _ _ (Qb (kp1 Z) ?_))
 refine QE ?_ -- 0
 refine Qe fun K hK => Qa Z (QC (Qaz (by omega)) Z Z (.inr Z) (Yl Z (hK _ _ (Qb (kp2 Z Z) ?_))))
 refine Qy Z (fun h1 => ?_) (fun h1 => ?_)
 ·try rw [h1]
  try simp only [qB, Qo] at h1
  refine Qe fun K hK => Qa Z (hK _ _ (Qb (kp1 Z) ?_))
  refine Qt (Qi (Qp Z ?_))
  first | (simp [QfK, h1]; done) | exact (QiK (i := i) (by omega) (by simp [Qd9, h1])).symm | exact (QgW (i := i) (by assumption) (by omega) hI.2).symm
 ·try rw [h1]
  try simp only [qB, Qo] at h1
  refine Qu (Qd (kp1 Z) ?_)
  refine QE ?_ -- 1
  refine Qe fun K hK => Qa Z (QC (XW (by omega)) Z Z (.inl Z) (QY Z Z (Qa Z (hK _ _ (Qb (kp3 Z Z Z) ?_)))))
  refine QG ?_
  refine ZL (ι := Nat) (fun i => ⟨[(11, .sl (Yf (Q7 s 46))), (12, .int .i64 (Q7 s 46).length), (13, .int .i64 i)], []⟩) (fun i => i <= (Q7 s 46).length /\ ((Q7 s 46).take i).all Qd9 = true) (fun i => (Q7 s 46).length - i) 0 ?_ ?_ ?_
  ·exact Zg (l := [11, 12, 13]) (kp3 rfl rfl rfl) Qs (by simp [Qo]) rfl rfl
  ·exact ⟨Nat.zero_le _, rfl⟩
  intro i hI
  have sl := Qdw (s := s) (c := 46)
  try dsimp only
  refine Qe fun K hK => Yx Z Z (hK _ _ (Qb (kp4 Z Z Z Z) ?_))
  refine QE ?_ -- 2
  refine Qy Z (fun h2 => ?_) (fun h2 => ?_)
  ·try rw [h2]
   try simp only [qB, Qo] at h2
   refine Qu (Qd (kp3 Z Z Z) ?_)
   refine QE ?_ -- 3
   refine QG (Qe fun K hK => QN Z Z Z (by omega) (Y6 (by omega)) Z (QF Z Z Z (Qa Z (hK _ _ (Qb (kp4 Z Z Z Z) ?_)))))
   refine Qe fun K hK => Qa Z (QC (Qax (X3 (by omega) hl)) Z Z (.inr Z) (Qa Z (Zi Z Z (Zi Z Z (Qa Z (Qa Z (hK _ _ (Qb (kp5 Z Z Z Z Z) ?_))))))))
   refine Qe fun K hK => Qa Z (QC (Xv (X3 (by omega) hl)) Z Z (.inr Z) (Qa Z ?_))
   refine QB (g := 24) Z (fun h3 => ?_) (fun h3 => ?_)
   ·try rw [h3]
    try simp only [qB, Qo] at h3
    refine Ql Z (Qa Z (Ql Z (Yl Z (Qn Z Z (hK _ _ (Qb (kp4 Z Z Z Z) ?_))))))
    refine Qy Z (fun h4 => ?_) (fun h4 => ?_)
    ·try rw [h4]
     try simp only [qB, Qo] at h4
     refine Qe fun K hK => Qa Z (hK _ _ (Qb (kp1 Z) ?_))
     refine Qt (Qq (Qi (Q1 (Qq (Qi (Qp Z ?_))))))
     first | (simp [QfK, h1, h2, h3, h4]; done) | exact (QiK (i := i) (by omega) (by simp [Qd9, h1, h2, h3, h4])).symm | exact (QgW (i := i) (by assumption) (by omega) hI.2).symm
    ·try rw [h4]
     try simp only [qB, Qo] at h4
     refine Qu (Qg (Qd (kp3 Z Z Z) (Q4 fun K hK => Zc Z Z (by first | exact Qr (by omega) (by omega) | exact QH (by omega) (by omega) | exact QO (by omega) (by omega) | rfl) (Qa Z (hK _ ?_)))))
     refine Qj (i + 1) ?_ ?_ ?_
     ·exact QU (kp3 rfl rfl rfl)
     ·exact ⟨by omega, Zh (by omega) hI.2 (by simp [Qd9, h1, h2, h3, h4])⟩
     ·first | omega | (simp only; omega) | (dsimp only; omega)
   ·try rw [h3]
    try simp only [qB, Qo] at h3
    refine QA Z (QA Z (Qn Z Z (hK _ _ (Qb (kp4 Z Z Z Z) ?_))))
    refine Zy Z (Qu (Qg (Qd (kp3 Z Z Z) (Q4 fun K hK => Zc Z Z (by first | exact Qr (by omega) (by omega) | exact QH (by omega) (by omega) | exact QO (by omega) (by omega) | rfl) (Qa Z (hK _ ?_))))))
    refine Qj (i + 1) ?_ ?_ ?_
    ·exact QU (kp3 rfl rfl rfl)
    ·exact ⟨by omega, Zh (by omega) hI.2 (by simp [Qd9, h1, h2, h3])⟩
    ·first | omega | (simp only; omega) | (dsimp only; omega)
  ·try rw [h2]
   try simp only [qB, Qo] at h2
   refine Zk (QI (Qw (QD (Qd (QP) (Qe fun K hK => Qa Z (hK _ _ (Qb (kp1 Z) ?_)))))))
   refine Qt (Qp Z ?_)
   first | (simp [QfK, h1, h2]; done) | exact (QiK (i := i) (by omega) (by simp [Qd9, h1, h2])).symm | exact (QgW (i := i) (by assumption) (by omega) hI.2).symm
theorem Qc1 {a b c : Int} {p q : List UInt8} (hp : p.length <= 1000000) (hq : q.length <= 1000000) : Ok Try.prog 65 [.agg [.int .i64 a, .int .i64 b, .int .i64 c, .str p, .str q]] (.bool (Qbu a b c p q)) := by
 refine Ok.ofT Z2 Try.func65 QqM (Nat.le_of_ble_eq_true Z) ?_
 show TW _ _ tf65.body _ _
 refine Qe fun K hK => ZK Z Z Z (Qa Z (hK _ _ (Qb (kp1 Z) ?_)))
 refine Qe fun K hK => Qm Z Z (QF Z Z Z (QC (Qay) Z Z (.inr Z) (Qa Z ?_)))
 refine QB (g := 6) Z (fun h1 => ?_) (fun h1 => ?_)
 ·try rw [h1]
  try simp only [qB] at h1
  refine Ql Z (Qm Z Z (Ql Z (QF Z Z Z (Ql Z (QC (Qay) Z Z (.inr Z) (Qn Z Z (Qa Z ?_)))))))
  refine QB (g := 11) Z (fun h2 => ?_) (fun h2 => ?_)
  ·try rw [h2]
   try simp only [qB] at h2
   refine Ql Z (Qm Z Z (Ql Z (QF Z Z Z (Ql Z (QC (Qay) Z Z (.inr Z) (Qn Z Z (Qa Z ?_)))))))
   refine QB (g := 16) Z (fun h3 => ?_) (fun h3 => ?_)
   ·try rw [h3]
    try simp only [qB] at h3
    refine Ql Z (Qm Z Z (Ql Z (QF Z Z Z (Ql Z (Qbq Z Z (Ql Z (Qa Z ?_)))))))
    refine QB (g := 20) Z (fun h4 => ?_) (fun h4 => ?_)
    ·try rw [h4]
     try simp only [qB] at h4
     refine QA Z (QA Z (QA Z (Ql Z (Qn Z Z (Qn Z Z (Qa Z (Ql Z (Qm Z Z (Ql Z (QF Z Z Z (Ql Z ?_)))))))))))
     refine Qbq Z Z (Ql Z (Qa Z ?_))
     refine QB (g := 30) Z (fun h5 => ?_) (fun h5 => ?_)
     ·try rw [h5]
      try simp only [qB] at h5
      refine QA Z (QA Z (QA Z (Ql Z (Qn Z Z (Qn Z Z (Qa Z (hK _ _ (Qb (kp1 Z) ?_))))))))
      refine Qt (Qp Z ?_)
      simp [Qbu, YO, Xe, h1, h2, h3, h4, h5]
     ·try rw [h5]
      try simp only [qB] at h5
      refine Ql Z (Qm Z Z (Ql Z (QF Z Z Z (Ql Z (QC (Qaz (by omega)) Z Z (.inr Z) (Ql Z (Qn Z Z (Qn Z Z (Qa Z (hK _ _ (Qb (kp1 Z) ?_)))))))))))
      refine Qt (Qp Z ?_)
      simp [Qbu, YO, Xe, h1, h2, h3, h4, h5]
    ·try rw [h4]
     try simp only [qB] at h4
     refine Ql Z (Qm Z Z (Ql Z (QF Z Z Z (Ql Z (QC (Qgr (by omega)) Z Z (.inr Z) (Ql Z (Qn Z Z (Qn Z Z (Qa Z ?_)))))))))
     refine QB (g := 26) Z (fun h6 => ?_) (fun h6 => ?_)
     ·try rw [h6]
      try simp only [qB] at h6
      refine Ql Z (Qm Z Z (Ql Z (QF Z Z Z (Ql Z (Qbq Z Z (Ql Z (Qa Z ?_)))))))
      refine QB (g := 30) Z (fun h7 => ?_) (fun h7 => ?_)
      ·try rw [h7]
       try simp only [qB] at h7
       refine QA Z (QA Z (QA Z (Ql Z (Qn Z Z (Qn Z Z (Qa Z (hK _ _ (Qb (kp1 Z) ?_))))))))
       refine Qt (Qp Z ?_)
       simp [Qbu, YO, Xe, h1, h2, h3, h4, h6, h7]
      ·try rw [h7]
       try simp only [qB] at h7
       refine Ql Z (Qm Z Z (Ql Z (QF Z Z Z (Ql Z (QC (Qaz (by omega)) Z Z (.inr Z) (Ql Z (Qn Z Z (Qn Z Z (Qa Z (hK _ _ (Qb (kp1 Z) ?_)))))))))))
       refine Qt (Qp Z ?_)
       simp [Qbu, YO, Xe, h1, h2, h3, h4, h6, h7]
     ·try rw [h6]
      try simp only [qB] at h6
      refine QA Z (QA Z (QA Z (QA Z (Q0 Z (Q0 Z (Q0 Z (QA Z (Qn Z Z (Qa Z (hK _ _ (Qb (kp1 Z) ?_)))))))))))
      refine Qt (Qp Z ?_)
      simp [Qbu, YO, Xe, h1, h2, h3, h4, h6]
   ·try rw [h3]
    try simp only [qB] at h3
    refine QA Z (QA Z (QA Z (QA Z (Q0 Z (Q0 Z (Q0 Z (QA Z (Qn Z Z (Qa Z (QA Z (QA Z ?_)))))))))))
    refine QA Z (QA Z (Q0 Z (Q0 Z (Q0 Z (QA Z (Qn Z Z (Qa Z (hK _ _ (Qb (kp1 Z) ?_)))))))))
    refine Qt (Qp Z ?_)
    simp [Qbu, YO, Xe, h1, h2, h3]
  ·try rw [h2]
   try simp only [qB] at h2
   refine QA Z (QA Z (QA Z (Qn Z Z (Qa Z (QA Z (QA Z (QA Z (QA Z (Q0 Z (Q0 Z (Q0 Z ?_)))))))))))
   refine QA Z (Qn Z Z (Qa Z (QA Z (QA Z (QA Z (QA Z (Q0 Z (Q0 Z (Q0 Z (QA Z (Qn Z Z ?_)))))))))))
   refine Qa Z (hK _ _ (Qb (kp1 Z) ?_))
   refine Qt (Qp Z ?_)
   simp [Qbu, YO, Xe, h1, h2]
 ·try rw [h1]
  try simp only [qB] at h1
  refine QA Z (QA Z (QA Z (Qn Z Z (Qa Z (QA Z (QA Z (QA Z (Qn Z Z (Qa Z (QA Z (QA Z ?_)))))))))))
  refine QA Z (QA Z (Q0 Z (Q0 Z (Q0 Z (QA Z (Qn Z Z (Qa Z (QA Z (QA Z (QA Z (QA Z ?_)))))))))))
  refine Q0 Z (Q0 Z (Q0 Z (QA Z (Qn Z Z (Qa Z (hK _ _ (Qb (kp1 Z) ?_)))))))
  refine Qt (Qp Z ?_)
  simp [Qbu, YO, Xe, h1]
theorem QdF {a b c : Int} {p q : List UInt8} (hp : p.length <= 1000000) (hq : q.length <= 1000000) {a' b' c' : Int} {p' q' : List UInt8} (hp' : p'.length <= 1000000) (hq' : q'.length <= 1000000) : Ok Try.prog 41 [.agg [.int .i64 a, .int .i64 b, .int .i64 c, .str p, .str q], .agg [.int .i64 a', .int .i64 b', .int .i64 c', .str p', .str q']] (.int .i64 (QcI a b c p q a' b' c' p' q')) := by
 refine Ok.ofT Z2 Try.func41 Qqr (Nat.le_of_ble_eq_true Z) ?_
 show TW _ _ tf41.body _ _
 refine Qe fun K hK => ZK Z Z Z (ZK Z Z Z (Qa Z (hK _ _ (Qb (kp2 Z Z) ?_))))
 refine QE ?_ -- 0
 refine Qe fun K hK => QX (ds0 := [13, 12, 11, 10, 9, 8, 7, 6, 5, 4, 3, 2, 1, 0]) (cs := [_, _, _, _, _]) Z Z Z Z Z Z (Zd (ds0 := [12, 11, 10, 9, 8, 7, 6, 5, 4, 3, 2, 1, 0]) (Qc1 (by omega) (by omega)) Z Z (.inr Z) Z Z (Yl Z (Qa Z ?_)))
 refine QB (g := 13) Z (fun h1 => ?_) (fun h1 => ?_)
 ·try rw [h1]
  try simp only [qB, Qo] at h1
  refine QA Z (QA Z (QA Z (Qn Z Z (Qa Z (QA Z (QA Z (QA Z (QA Z (QA Z (Qn Z Z (hK _ _ (Qb (kp3 Z Z Z) ?_))))))))))))
  refine ZG Z (Qe fun K hK => Qa Z (hK _ _ (Qb (kp1 Z) ?_)))
  refine Qt (Qi (Qv Z ?_))
  first | (simp [QcI, h1]; done) | (exact (Qc5 (by assumption) (by assumption) (by assumption)).symm) | (exact Qa1 (by assumption) (by assumption) (by assumption)) | (exact (XY (by assumption) (by assumption) (by assumption) (by assumption) (by assumption)).symm) | (exact (XZ (by assumption) (by assumption) (by assumption) (by assumption) (by assumption)).symm) | (rw [hI.2.2, Yu (by omega) (by omega) (by assumption)]) | (rw [hI.2.2, Yt (by omega) (by omega) (by omega)]; simp [Qo])
 ·try rw [h1]
  try simp only [qB, Qo] at h1
  refine Ql Z (QX (ds0 := [9, 8, 7, 6, 5, 4, 3, 2, 1, 0]) (cs := [_, _, _, _, _]) Z Z Z Z Z Z (Ql Z (Zd (ds0 := [8, 7, 6, 5, 4, 3, 2, 1, 0]) (Qc1 (by omega) (by omega)) Z Z (.inr Z) Z Z (Ql Z (Yl Z (Qn Z Z (Qa Z ?_)))))))
  refine QB (g := 18) Z (fun h2 => ?_) (fun h2 => ?_)
  ·try rw [h2]
   try simp only [qB, Qo] at h2
   refine QA Z (QA Z (QA Z (QA Z (QA Z (Qn Z Z (hK _ _ (Qb (kp3 Z Z Z) ?_)))))))
   refine ZG Z (Qe fun K hK => Qa Z (hK _ _ (Qb (kp1 Z) ?_)))
   refine Qt (Qi (Qv Z ?_))
   first | (simp [QcI, h1, h2]; done) | (exact (Qc5 (by assumption) (by assumption) (by assumption)).symm) | (exact Qa1 (by assumption) (by assumption) (by assumption)) | (exact (XY (by assumption) (by assumption) (by assumption) (by assumption) (by assumption)).symm) | (exact (XZ (by assumption) (by assumption) (by assumption) (by assumption) (by assumption)).symm) | (rw [hI.2.2, Yu (by omega) (by omega) (by assumption)]) | (rw [hI.2.2, Yt (by omega) (by omega) (by omega)]; simp [Qo])
  ·try rw [h2]
   try simp only [qB, Qo] at h2
   refine Ql Z (QX (ds0 := [4, 1, 0]) (cs := [_, _, _, _, _]) Z Z Z Z Z Z (Ql Z (Zd (ds0 := [1, 0]) (Qcr) Z Z (.inl Z) Z Z (Ql Z (QX (ds0 := [2, 1, 0]) (cs := [_, _, _, _, _]) Z Z Z Z Z Z (Ql Z (Zd (ds0 := [1, 0]) (Qcr) Z Z (.inl Z) Z Z (Ql Z (Qki Z Z Z (Qn Z Z (hK _ _ (Qb (kp3 Z Z Z) ?_))))))))))))
   refine Qy Z (fun h3 => ?_) (fun h3 => ?_)
   ·try rw [h3]
    try simp only [qB, Qo] at h3
    refine Qe fun K hK => Qa Z (hK _ _ (Qb (kp1 Z) ?_))
    refine Qt (Qi (Qv Z ?_))
    first | (simp [QcI, h1, h2, h3]; done) | (exact (Qc5 (by assumption) (by assumption) (by assumption)).symm) | (exact Qa1 (by assumption) (by assumption) (by assumption)) | (exact (XY (by assumption) (by assumption) (by assumption) (by assumption) (by assumption)).symm) | (exact (XZ (by assumption) (by assumption) (by assumption) (by assumption) (by assumption)).symm) | (rw [hI.2.2, Yu (by omega) (by omega) (by assumption)]) | (rw [hI.2.2, Yt (by omega) (by omega) (by omega)]; simp [Qo])
   ·try rw [h3]
    try simp only [qB, Qo] at h3
    refine Qu (Qd (kp2 Z Z) ?_)
    refine QE ?_ -- 1
    refine Qe fun K hK => Qm Z Z (Zq (ds0 := [13, 2, 1, 0]) Z Z Z Z Z (Qm Z Z (Zq (ds0 := [13, 2, 1, 0]) Z Z Z Z Z (Zd (ds0 := [2, 1, 0]) (Z4) Z Z (.inr Z) Z Z (Qm Z Z (Zq (ds0 := [8, 2, 1, 0]) Z Z Z Z Z (Qm Z Z (Zq (ds0 := [8, 2, 1, 0]) Z Z Z Z Z (Zd (ds0 := [2, 1, 0]) (Z4) Z Z (.inr Z) Z Z (Qm Z Z ?_))))))))))
    refine Zq (ds0 := [3, 2, 1, 0]) Z Z Z Z Z (Qm Z Z (Zq (ds0 := [3, 2, 1, 0]) Z Z Z Z Z (Zd (ds0 := [2, 1, 0]) (Z4) Z Z (.inr Z) Z Z (QL Z Z (Zd (ds0 := [0]) (Qhs (l := [ZW a a', ZW b b', ZW c c']) (by simp)) Z Z (.inr Z) Z Z (Qa Z (hK _ _ (Qb (kp3 Z Z Z) ?_))))))))
    refine Qe fun K hK => Qa Z (Xf Z Z (hK _ _ (Qb (kp4 Z Z Z Z) ?_)))
    refine Qy Z (fun h4 => ?_) (fun h4 => ?_)
    ·try rw [h4]
     try simp only [qB, Qo] at h4
     refine Qe fun K hK => Qa Z (Qa Z (hK _ _ (Qb (kp1 Z) ?_)))
     refine Qt (Qi (Qv Z ?_))
     first | (simp [QcI, h1, h2, h3, h4]; done) | (exact (Qc5 (by assumption) (by assumption) (by assumption)).symm) | (exact Qa1 (by assumption) (by assumption) (by assumption)) | (exact (XY (by assumption) (by assumption) (by assumption) (by assumption) (by assumption)).symm) | (exact (XZ (by assumption) (by assumption) (by assumption) (by assumption) (by assumption)).symm) | (rw [hI.2.2, Yu (by omega) (by omega) (by assumption)]) | (rw [hI.2.2, Yt (by omega) (by omega) (by omega)]; simp [Qo])
    ·try rw [h4]
     try simp only [qB, Qo] at h4
     refine Qu (Qd (kp2 Z Z) ?_)
     refine QE ?_ -- 2
     refine Qe fun K hK => Qm Z Z (QF Z Z Z (Qbq Z Z (hK _ _ (Qb (kp3 Z Z Z) ?_))))
     refine Qy Z (fun h5 => ?_) (fun h5 => ?_)
     ·try rw [h5]
      try simp only [qB, Qo] at h5
      refine Qe fun K hK => Qa Z (hK _ _ (Qb (kp1 Z) ?_))
      refine Qt (Qi (Qv Z ?_))
      first | (simp [QcI, h1, h2, h3, h4, h5]; done) | (exact (Qc5 (by assumption) (by assumption) (by assumption)).symm) | (exact Qa1 (by assumption) (by assumption) (by assumption)) | (exact (XY (by assumption) (by assumption) (by assumption) (by assumption) (by assumption)).symm) | (exact (XZ (by assumption) (by assumption) (by assumption) (by assumption) (by assumption)).symm) | (rw [hI.2.2, Yu (by omega) (by omega) (by assumption)]) | (rw [hI.2.2, Yt (by omega) (by omega) (by omega)]; simp [Qo])
     ·try rw [h5]
      try simp only [qB, Qo] at h5
      refine Qu (Qd (kp2 Z Z) ?_)
      refine QE ?_ -- 3
      refine Qe fun K hK => Qm Z Z (QF Z Z Z (Qbq Z Z (hK _ _ (Qb (kp3 Z Z Z) ?_))))
      refine Qy Z (fun h6 => ?_) (fun h6 => ?_)
      ·try rw [h6]
       try simp only [qB, Qo] at h6
       refine Qe fun K hK => Qa Z (hK _ _ (Qb (kp1 Z) ?_))
       refine Qt (Qi (Qv Z ?_))
       first | (simp [QcI, h1, h2, h3, h4, h5, h6]; done) | (exact (Qc5 (by assumption) (by assumption) (by assumption)).symm) | (exact Qa1 (by assumption) (by assumption) (by assumption)) | (exact (XY (by assumption) (by assumption) (by assumption) (by assumption) (by assumption)).symm) | (exact (XZ (by assumption) (by assumption) (by assumption) (by assumption) (by assumption)).symm) | (rw [hI.2.2, Yu (by omega) (by omega) (by assumption)]) | (rw [hI.2.2, Yt (by omega) (by omega) (by omega)]; simp [Qo])
      ·try rw [h6]
       try simp only [qB, Qo] at h6
       refine Qu (Qd (kp2 Z Z) (Qe fun K hK => Qm Z Z (Zq (ds0 := [5, 1]) Z Z Z Z Z (Zd (ds0 := [1]) (XW (by omega)) Z Z (.inl Z) Z Z (Qm Z Z (Zq (ds0 := [2, 0]) Z Z Z Z Z (Zd (ds0 := [0]) (XW (by omega)) Z Z (.inl Z) Z Z (Qa Z (Qa Z (hK _ _ (Qb (kp2 Z Z) ?_)))))))))))
       refine QE ?_ -- 4
       refine Qe fun K hK => Qa Z (hK _ _ (Qb (kp3 Z Z Z) ?_))
       refine QG ?_
       refine ZL (ι := Nat) (fun i => ⟨[(6, .sl (Yf (Q7 p 46))), (7, .sl (Yf (Q7 p' 46))), (8, .int .i64 i)], []⟩) (fun i => i <= (Q7 p 46).length /\ i <= (Q7 p' 46).length /\ QcI a b c p q a' b' c' p' q' = QjC ((Q7 p 46).drop i) ((Q7 p' 46).drop i)) (fun i => (Q7 p 46).length - i) 0 ?_ ?_ ?_
       ·exact Zg (l := [6, 7, 8]) (kp3 rfl rfl rfl) Qs rfl rfl rfl
       ·exact ⟨Nat.zero_le _, Nat.zero_le _, Qnq (by assumption) (by assumption) (by assumption) (by assumption) (by assumption) (by assumption)⟩
       intro i hI
       have sl := Qdw (s := p) (c := 46)
       try dsimp only
       refine QE ?_ -- 5
       refine Qe fun K hK => Qa Z (Qa Z (QY Z Z (Yx Z Z (Qa Z ?_))))
       refine QB (g := 61) Z (fun h7 => ?_) (fun h7 => ?_)
       ·try rw [h7]
        try simp only [qB, Qo] at h7
        refine Ql Z (Qa Z (Ql Z (Qa Z (Ql Z (QY Z Z (Ql Z (Yx Z Z (Qn Z Z (hK _ _ (Qb (kp4 Z Z Z Z) ?_))))))))))
        refine Qy Z (fun h8 => ?_) (fun h8 => ?_)
        ·try rw [h8]
         try simp only [qB, Qo] at h8
         refine Qu (Qd (kp3 Z Z Z) ?_)
         refine QE ?_ -- 6
         refine QG (Qe fun K hK => Qa Z (Qa Z (QN Z Z Z (by omega) (Y6 (by omega)) Z (Zq (ds0 := [1, 0]) Z Z Z Z Z (Qa Z (Qa Z (QN Z Z Z (by omega) (Y6 (by omega)) Z (Zq (ds0 := [1, 0]) Z Z Z Z Z (Zd (ds0 := [0]) (Qgs (X3 (by omega) hp) (X3 (by omega) hp')) Z Z (.inr Z) Z Z (Qa Z ?_))))))))))
         refine hK _ _ (Qb (kp4 Z Z Z Z) ?_)
         refine Qe fun K hK => Qa Z (Xf Z Z (hK _ _ (Qb (kp5 Z Z Z Z Z) ?_)))
         refine Qy Z (fun h9 => ?_) (fun h9 => ?_)
         ·try rw [h9]
          try simp only [qB, Qo] at h9
          refine Qe fun K hK => Qa Z (Qa Z (hK _ _ (Qb (kp1 Z) ?_)))
          refine Qt (Qq (Qi (Q1 (Qq (Qi (Qv Z ?_))))))
          first | (simp [QcI, h1, h2, h3, h4, h5, h6, h7, h8, h9]; done) | (exact (Qc5 (by assumption) (by assumption) (by assumption)).symm) | (exact Qa1 (by assumption) (by assumption) (by assumption)) | (exact (XY (by assumption) (by assumption) (by assumption) (by assumption) (by assumption)).symm) | (exact (XZ (by assumption) (by assumption) (by assumption) (by assumption) (by assumption)).symm) | (rw [hI.2.2, Yu (by omega) (by omega) (by assumption)]) | (rw [hI.2.2, Yt (by omega) (by omega) (by omega)]; simp [Qo])
         ·try rw [h9]
          try simp only [qB, Qo] at h9
          refine Qu (Qg (Qd (kp3 Z Z Z) (Q4 fun K hK => Qa Z (Zc Z Z (by first | exact Qr (by omega) (by omega) | exact QH (by omega) (by omega) | exact QO (by omega) (by omega) | rfl) (Qa Z (hK _ ?_))))))
          refine Qj (i + 1) ?_ ?_ ?_
          ·exact QU (kp3 rfl rfl rfl)
          ·exact ⟨by omega, by omega, by rw [hI.2.2, QhV (by omega) (by omega) (by assumption)]⟩
          ·first | omega | (simp only; omega) | (dsimp only; omega)
        ·try rw [h8]
         try simp only [qB, Qo] at h8
         refine Zk (QI (Qw (QD (Qd (kp2 Z Z) (Qe fun K hK => Qa Z (QY Z Z (Qa Z (QY Z Z (QC (Z4) Z Z (.inr Z) (Qa Z ?_))))))))))
         refine hK _ _ (Qb (kp1 Z) ?_)
         refine Qt (Qv Z ?_)
         first | (simp [QcI, h1, h2, h3, h4, h5, h6, h7, h8]; done) | (exact (Qc5 (by assumption) (by assumption) (by assumption)).symm) | (exact Qa1 (by assumption) (by assumption) (by assumption)) | (exact (XY (by assumption) (by assumption) (by assumption) (by assumption) (by assumption)).symm) | (exact (XZ (by assumption) (by assumption) (by assumption) (by assumption) (by assumption)).symm) | (rw [hI.2.2, Yu (by omega) (by omega) (by assumption)]) | (rw [hI.2.2, Yt (by omega) (by omega) (by omega)]; simp [Qo])
       ·try rw [h7]
        try simp only [qB, Qo] at h7
        refine QA Z (QA Z (QA Z (QA Z (Qn Z Z (hK _ _ (Qb (kp4 Z Z Z Z) ?_))))))
        refine Zy Z (Zk (QI (Qw (QD (Qd (kp2 Z Z) (Qe fun K hK => Qa Z (QY Z Z (Qa Z (QY Z Z (QC (Z4) Z Z (.inr Z) ?_))))))))))
        refine Qa Z (hK _ _ (Qb (kp1 Z) ?_))
        refine Qt (Qv Z ?_)
        first | (simp [QcI, h1, h2, h3, h4, h5, h6, h7]; done) | (exact (Qc5 (by assumption) (by assumption) (by assumption)).symm) | (exact Qa1 (by assumption) (by assumption) (by assumption)) | (exact (XY (by assumption) (by assumption) (by assumption) (by assumption) (by assumption)).symm) | (exact (XZ (by assumption) (by assumption) (by assumption) (by assumption) (by assumption)).symm) | (rw [hI.2.2, Yu (by omega) (by omega) (by assumption)]) | (rw [hI.2.2, Yt (by omega) (by omega) (by omega)]; simp [Qo])
end Go.Proofs
namespace M3
open Go Go.Abs
end M3
namespace M3
open Go Go.Abs
end M3
namespace M3
open Go Go.Abs
end M3
namespace M25
open Go Go.Abs M3
def Qf6 (a b c : Int) : Bool := decide (a = 0) && decide (b = 0) && decide (c = 0)
def X0 (a b c : Int) (p q : List UInt8) (part : Int) : Option (Int × Int × Int) :=
 if Qbu a b c p q = false \/ part < 0 \/ 2 < part then none
 else
  let o := if part = 0 then (a + 1, 0, 0) else if part = 1 then (a, b + 1, 0) else (a, b, c + 1)
  if Qbu o.1 o.2.1 o.2.2 [] [] = true then some o else none
def dOV (o : Option (Int × Int × Int)) : D := .tup [.agg [.int .i64 (o.getD (0, 0, 0)).1, .int .i64 (o.getD (0, 0, 0)).2.1, .int .i64 (o.getD (0, 0, 0)).2.2, .str [], .str []], .bool o.isSome]
def Xy (a b c : Int) (p q : List UInt8) : Nat -> Option (Int × Int × Int)
 | 0 => none
 | n + 1 => if (X0 a b c p q n).isSome = true then X0 a b c p q n else Xy a b c p q n
def QhU (a b c : Int) (p q : List UInt8) : Option (Int × Int × Int) :=
 if Qbu a b c p q = false then none else if p ≠ [] then some (a, b, c) else Xy a b c p q 3
theorem Qb7 {a b c : Int} {p q : List UInt8} (h : Qbu a b c p q = true) : (0 <= a /\ a <= 9999) /\ (0 <= b /\ b <= 9999) /\ (0 <= c /\ c <= 9999) := by
 simp only [Qbu, QfF, Bool.and_eq_true, decide_eq_true_eq] at h
 omega
theorem Qir {a b c : Int} {p q : List UInt8} {m : Nat} (hm : 0 < m) (h : (X0 a b c p q ((m : Int) - 1)).isSome = false) : Xy a b c p q m = Xy a b c p q (m - 1) := by
 obtain ⟨n, rfl⟩ : ∃ n, m = n + 1 := ⟨m - 1, by omega⟩
 rw [show ((n + 1 : Nat) : Int) - 1 = (n : Int) by omega] at h
 rw [Xy, if_neg (by rw [h]; simp)]; rfl
theorem Qhr {a b c : Int} {p q : List UInt8} {m : Nat} (hm : 0 < m) (h : (X0 a b c p q ((m : Int) - 1)).isSome = true) : Xy a b c p q m = X0 a b c p q ((m : Int) - 1) := by
 obtain ⟨n, rfl⟩ : ∃ n, m = n + 1 := ⟨m - 1, by omega⟩
 rw [show ((n + 1 : Nat) : Int) - 1 = (n : Int) by omega] at h ⊢
 rw [Xy, if_pos h]
def dCu (x : Cu) : List D := [.int .i64 x.e, .int .i64 x.a, .int .i64 x.b, .int .i64 x.c, .str x.p, .str x.q, .bool x.f]
def Qd6 (s : Cu × Cu) : List D := dCu s.1 ++ dCu s.2
def ZQ (l : List (Cu × Cu)) : D := .sl (l.map Qd6)
def Qhc (s : List (Cu × Cu) × List (Cu × Cu)) : D := .agg [ZQ s.1, ZQ s.2]
def Qcs : Cu := ⟨-1, 0, 0, 0, [], [], false⟩
def QfE : Cu := ⟨1, 0, 0, 0, [], [], false⟩
def Qfa (a b c : Int) : Cu := if Qf6 a b c = true then Qcs else ⟨0, a, b, c, [], [], false⟩
def Qdh (a b c : Int) : Cu := match QhU a b c [] [] with
 | none => QfE
 | some o => ⟨0, o.1, o.2.1, o.2.2, [], [], false⟩
def Xd (a b c : Int) (p q : List UInt8) : List (Cu × Cu) × List (Cu × Cu) :=
 if Qbu a b c p q = false then ([], []) else if p ≠ [] then ([], [(⟨0, a, b, c, p, [], false⟩, ⟨0, a, b, c, p, [], true⟩)]) else ([(Qfa a b c, Qdh a b c)], [])
def Qf7 (e a b c : Int) (p q : List UInt8) (f : Bool) : Bool := !decide (e = 0) || (!f && decide (p = []) && !Qf6 a b c)
def Cu.sm (x : Cu) : Prop := x.p.length <= 1000000 /\ x.q.length <= 1000000
def Sm (l : List (Cu × Cu)) : Prop := l.length <= 1000000 /\ ∀ s ∈ l, Cu.sm s.1 /\ Cu.sm s.2
theorem Sm.at {l : List (Cu × Cu)} (h : Sm l) {i : Nat} (hi : i < l.length) : (l[i].1.p.length <= 1000000 /\ l[i].1.q.length <= 1000000) /\ (l[i].2.p.length <= 1000000 /\ l[i].2.q.length <= 1000000) := h.2 _ (List.getElem_mem hi)
def Qdj (s : Cu × Cu) : Bool := QhW s.1.e s.1.a s.1.b s.1.c s.1.p s.1.q s.1.f s.2.e s.2.a s.2.b s.2.c s.2.p s.2.q s.2.f
def Qbd (x y : Cu) : Int := Qbc x.e x.a x.b x.c x.p x.q x.f y.e y.a y.b y.c y.p y.q y.f
def Qoc (l : List (Cu × Cu)) (i : Nat) : Bool := match l[i]? with
 | none => true
 | some s => Qdj s && (decide (i = 0) || match l[i - 1]? with | none => true | some r => decide (Qbd r.2 s.1 < 0))
theorem Qla {l : List (Cu × Cu)} {i : Nat} (h : i < l.length) : Qoc l i = (Qdj l[i] && (decide (i = 0) || decide (Qbd (l[i - 1]'(by omega)).2 l[i].1 < 0))) := by
 unfold Qoc
 rw [List.getElem?_eq_getElem h, List.getElem?_eq_getElem (show i - 1 < l.length by omega)]
theorem QmP {l : List (Cu × Cu)} {i : Nat} (h : i < l.length) (h1 : Qdj l[i] = true) (h2 : i = 0 \/ Qbd (l[i - 1]'(by omega)).2 l[i].1 < 0) : Qoc l i = true := by
 rw [Qla h, h1]; simpa using h2
theorem Qf9 {l : List (Cu × Cu)} {i : Nat} (h : i < l.length) (h1 : Qdj l[i] = false \/ (i ≠ 0 /\ 0 <= Qbd (l[i - 1]'(by omega)).2 l[i].1)) : Qoc l i = false := by
 rw [Qla h]
 rcases h1 with h1 | ⟨h1, h2⟩
 ·rw [h1]; rfl
 ·simp only [Bool.and_eq_false_iff, Bool.or_eq_false_iff, decide_eq_false_iff_not]
  exact .inr ⟨h1, by omega⟩
def QfH (l : List (Cu × Cu)) : Bool := (List.range l.length).all (Qoc l)
theorem Qbi {n i : Nat} {p : Nat -> Bool} (h : i < n) (hp : p i = false) : (List.range n).all p = false := by
 rw [Bool.eq_false_iff]; intro ha
 rw [List.all_eq_true] at ha
 rw [ha i (List.mem_range.2 h)] at hp; cases hp
theorem Qeo {i : Nat} {p : Nat -> Bool} (h : (List.range i).all p = true) (hp : p i = true) : (List.range (i + 1)).all p = true := by
 rw [List.range_succ, List.all_append, h]; simp [hp]
theorem QgX {i : Nat} {p : Nat -> Bool} {n : Nat} (h : (List.range i).all p = true) (hn : n <= i) : (List.range n).all p = true := by
 rw [List.all_eq_true] at h ⊢
 exact fun x hx => h x (List.mem_range.2 (Nat.lt_of_lt_of_le (List.mem_range.1 hx) hn))
def inC (x y : Cu) (s : Cu × Cu) : Bool := decide (Qbd s.1 x <= 0) && decide (Qbd y s.2 <= 0)
theorem QoK {x y : Cu} {s : Cu × Cu} (h1 : Qbd s.1 x <= 0) (h2 : Qbd y s.2 <= 0) : inC x y s = true := by simp [inC, h1, h2]
theorem QoJ {x y : Cu} {s : Cu × Cu} (h : ¬ Qbd s.1 x <= 0 \/ ¬ Qbd y s.2 <= 0) : inC x y s = false := by
 simp only [inC, Bool.and_eq_false_iff, decide_eq_false_iff_not]; exact h
def mIn (l : List (Cu × Cu)) (x y : Cu) : Bool := l.any (inC x y)
theorem Qip {α : Type} {s : List α} {p : α -> Bool} {i : Nat} (h : i < s.length) (hp : p s[i] = true) : s.any p = true := List.any_eq_true.2 ⟨_, List.getElem_mem h, hp⟩
theorem QmB {α : Type} {s : List α} {p : α -> Bool} {i : Nat} (hi : s.length <= i) (h : (s.take i).any p = false) : s.any p = false := by rwa [List.take_of_length_le hi] at h
theorem QeA {α : Type} {s : List α} {p : α -> Bool} {i : Nat} (h : i < s.length) (ha : (s.take i).any p = false) (hp : p s[i] = false) : (s.take (i + 1)).any p = false := by
 rw [List.take_succ_eq_append_getElem h, List.any_append, ha]; simp [hp]
def Qbp (x : Cu) : Bool := Qf7 x.e x.a x.b x.c x.p x.q x.f
def QfI (s : List (Cu × Cu) × List (Cu × Cu)) : Bool := QfH s.1 && QfH s.2 && s.1.all fun x => Qbp x.1 && Qbp x.2
theorem QaF {s : List (Cu × Cu) × List (Cu × Cu)} (h : QfH s.1 = false \/ QfH s.2 = false) : QfI s = false := by
 rw [QfI]; rcases h with h | h <;> simp [h]
theorem QaE {s : List (Cu × Cu) × List (Cu × Cu)} {i : Nat} (hi : i < s.1.length) (h : Qbp s.1[i].1 = false \/ Qbp s.1[i].2 = false) : QfI s = false := by
 have : (s.1.all fun x => Qbp x.1 && Qbp x.2) = false := Yh hi (by rcases h with h | h <;> simp [h])
 rw [QfI, this, Bool.and_false]
theorem Qdl {s : List (Cu × Cu) × List (Cu × Cu)} {i : Nat} (h1 : QfH s.1 = true) (h2 : QfH s.2 = true) (hi : s.1.length <= i) (h : (s.1.take i).all (fun x => Qbp x.1 && Qbp x.2) = true) : QfI s = true := by
 rw [List.take_of_length_le hi] at h
 rw [QfI, h1, h2, h]; rfl
def Qgt (l : List Cu) : D := .sl (l.map dCu)
theorem Qh8 {l : List Cu} : ∀ r ∈ l.map dCu, r.length = 7 := fun r hr => by obtain ⟨x, _, rfl⟩ := List.mem_map.1 hr; rfl
theorem Qmn {l : List Cu} {a b : Nat} : ∀ r ∈ ((l.map dCu).take a).drop b, r.length = 7 := fun r hr => Qh8 r (List.mem_of_mem_take (List.mem_of_mem_drop hr))
def QbP : List Cu -> Cu -> List Cu
 | [], c => [c]
 | x :: r, c => if Qbd x c < 0 then x :: QbP r c else if Qbd x c = 0 then x :: r else c :: x :: r
theorem Qk3 {l : List Cu} {c : Cu} {k : Nat} (hk : k < l.length) (h : Qbd l[k] c < 0) (hi : QbP l c = l.take k ++ QbP (l.drop k) c) : QbP l c = l.take (k + 1) ++ QbP (l.drop (k + 1)) c := by
 rw [hi, List.drop_eq_getElem_cons hk, QbP, if_pos h, List.take_succ_eq_append_getElem hk, List.append_assoc]; rfl
theorem Qk2 {l : List Cu} {c : Cu} {k : Nat} (hk : k < l.length) (h : Qbd l[k] c = 0) (hi : QbP l c = l.take k ++ QbP (l.drop k) c) : QbP l c = l := by
 rw [hi, List.drop_eq_getElem_cons hk, QbP, if_neg (by omega), if_pos h, <- List.drop_eq_getElem_cons hk, List.take_append_drop]
theorem QjB {l : List Cu} {c : Cu} {k : Nat} (h : l.length <= k \/ ∃ hk : k < l.length, ¬ Qbd l[k] c < 0 /\ Qbd l[k] c ≠ 0) (hi : QbP l c = l.take k ++ QbP (l.drop k) c) : QbP l c = l.take k ++ c :: l.drop k := by
 rw [hi]
 rcases h with h | ⟨hk, h1, h2⟩
 ·rw [List.drop_eq_nil_of_le h, QbP]
 ·rw [List.drop_eq_getElem_cons hk, QbP, if_neg h1, if_neg h2]
theorem Qej : ∀ (l : List Cu) (c : Cu), (QbP l c).length <= l.length + 1
 | [], c => by simp [QbP]
 | x :: r, c => by
  have := Qej r c
  simp only [QbP]
  (repeat' split) <;> simp <;> omega
theorem QgO : ∀ {l : List Cu} {c : Cu}, (∀ x ∈ l, Cu.sm x) -> Cu.sm c -> ∀ x ∈ QbP l c, Cu.sm x
 | [], c, _, hc, x, hx => by simp [QbP] at hx; exact hx ▸ hc
 | y :: r, c, hl, hc, x, hx => by
  simp only [QbP] at hx
  split at hx
  ·rcases List.mem_cons.1 hx with rfl | hx
   ·exact hl _ (by simp)
   ·exact QgO (fun z hz => hl z (by simp [hz])) hc x hx
  ·split at hx
   ·exact hl x hx
   ·rcases List.mem_cons.1 hx with rfl | hx
    ·exact hc
    ·exact hl x hx
def YV (l : List (Cu × Cu)) : List Cu := l.foldl (fun out s => QbP (QbP out s.1) s.2) [Qcs, QfE]
theorem Ql9 {l : List (Cu × Cu)} {i : Nat} (h : i < l.length) : YV (l.take (i + 1)) = QbP (QbP (YV (l.take i)) l[i].1) l[i].2 := by
 rw [List.take_succ_eq_append_getElem h, YV, List.foldl_append]; rfl
theorem Qf3 : ∀ (l : List (Cu × Cu)) (out : List Cu), (l.foldl (fun out s => QbP (QbP out s.1) s.2) out).length <= out.length + 2 * l.length
 | [], out => by simp
 | s :: l, out => by
  have h1 := Qej out s.1
  have h2 := Qej (QbP out s.1) s.2
  have := Qf3 l (QbP (QbP out s.1) s.2)
  simp only [List.foldl_cons, List.length_cons]; omega
theorem QbL (l : List (Cu × Cu)) : (YV l).length <= 2 + 2 * l.length := Qf3 l _
theorem QhR : ∀ {l : List (Cu × Cu)} {out : List Cu}, (∀ s ∈ l, Cu.sm s.1 /\ Cu.sm s.2) -> (∀ x ∈ out, Cu.sm x) -> ∀ x ∈ l.foldl (fun out s => QbP (QbP out s.1) s.2) out, Cu.sm x
 | [], _, _, h => h
 | s :: l, out, hl, h => by
  rw [List.foldl_cons]
  exact QhR (fun t ht => hl t (by simp [ht])) (QgO (QgO h (hl s (by simp)).1) (hl s (by simp)).2)
theorem Qjy {l : List (Cu × Cu)} (hl : ∀ s ∈ l, Cu.sm s.1 /\ Cu.sm s.2) : ∀ x ∈ YV l, Cu.sm x := QhR hl (by
 intro x hx
 simp only [List.mem_cons, List.not_mem_nil, or_false] at hx
 rcases hx with rfl | rfl <;> exact ⟨Nat.zero_le _, Nat.zero_le _⟩)
theorem Qei {l : List (Cu × Cu)} (hl : Sm l) (i : Nat) : (YV (l.take i)).length <= 2000002 /\ ∀ x ∈ YV (l.take i), Cu.sm x := by
 refine ⟨?_, Qjy fun s hs => hl.2 s (List.mem_of_mem_take hs)⟩
 have := QbL (l.take i)
 have h2 : (l.take i).length <= l.length := List.length_take_le' ..
 have := hl.1
 omega
def QbO (l : List (Cu × Cu)) (x y : Cu) : List (Cu × Cu) := match l.getLast? with
 | some s => if Qbd s.2 x = 0 then l.dropLast ++ [(s.1, y)] else l ++ [(x, y)]
 | none => l ++ [(x, y)]
theorem QhS {l : List (Cu × Cu)} {x y : Cu} {i : Nat} (hi : i + 1 = l.length) (h : Qbd (l[i]'(by omega)).2 x = 0) : QbO l x y = l.set i ((l[i]'(by omega)).1, y) := by
 have hg : l.getLast? = some (l[i]'(by omega)) := by
  rw [List.getLast?_eq_getElem?, show l.length - 1 = i by omega, List.getElem?_eq_getElem]
 rw [QbO, hg]
 simp only [h, if_true]
 rw [List.dropLast_eq_take, show l.length - 1 = i by omega, List.set_eq_take_append_cons_drop, if_pos (by omega), List.drop_eq_nil_of_le (by omega)]
theorem Qdi {l : List (Cu × Cu)} {x y : Cu} (h : l = [] \/ ∃ i, ∃ hi : i + 1 = l.length, Qbd (l[i]'(by omega)).2 x ≠ 0) : QbO l x y = l ++ [(x, y)] := by
 rcases h with rfl | ⟨i, hi, h⟩
 ·rfl
 ·have hg : l.getLast? = some (l[i]'(by omega)) := by
   rw [List.getLast?_eq_getElem?, show l.length - 1 = i by omega, List.getElem?_eq_getElem]
  rw [QbO, hg]
  simp only [if_neg h]
theorem QhT (l : List (Cu × Cu)) (x y : Cu) : (QbO l x y).length <= l.length + 1 := by
 unfold QbO
 split
 ·split
  ·simp
  ·simp
 ·simp
theorem Qjz {l : List (Cu × Cu)} {x y : Cu} (hl : ∀ s ∈ l, Cu.sm s.1 /\ Cu.sm s.2) (hx : Cu.sm x) (hy : Cu.sm y) : ∀ s ∈ QbO l x y, Cu.sm s.1 /\ Cu.sm s.2 := by
 intro s hs
 unfold QbO at hs
 split at hs
 ·rename_i t ht
  have ht' := List.mem_of_getLast? ht
  split at hs
  ·rcases List.mem_append.1 hs with hs | hs
   ·exact hl s (List.dropLast_subset _ hs)
   ·simp at hs; subst hs; exact ⟨(hl t ht').1, hy⟩
  ·rcases List.mem_append.1 hs with hs | hs
   ·exact hl s hs
   ·simp at hs; subst hs; exact ⟨hx, hy⟩
 ·rcases List.mem_append.1 hs with hs | hs
  ·exact hl s hs
  ·simp at hs; subst hs; exact ⟨hx, hy⟩
theorem Qjr {α β : Type} {l : List α} {f : α -> β} {i : Nat} (h : i + 1 < l.length) : (l.map f)[((i : Int) + 1).toNat]? = some (f l[i + 1]) := by
 rw [show ((i : Int) + 1).toNat = i + 1 by omega, List.getElem?_map, List.getElem?_eq_getElem h]; rfl
def QbM (f : Cu -> Cu -> Bool) : List Cu -> List (Cu × Cu) -> List (Cu × Cu)
 | x :: y :: r, out => QbM f (y :: r) (if f x y = true then QbO out x y else out)
 | _, out => out
def QiG (l : List (Cu × Cu)) : List (Cu × Cu) := if l.all Qdj = true then QbM (mIn l) (YV l) [] else []
theorem Qf4 {f : Cu -> Cu -> Bool} {c : List Cu} {out : List (Cu × Cu)} {i : Nat} (h : i + 1 < c.length) : QbM f (c.drop i) out = QbM f (c.drop (i + 1)) (if f c[i] c[i + 1] = true then QbO out c[i] c[i + 1] else out) := by
 rw [List.drop_eq_getElem_cons (show i < c.length by omega), List.drop_eq_getElem_cons h, QbM]
theorem Qk1 {f : Cu -> Cu -> Bool} {c : List Cu} {out : List (Cu × Cu)} {i : Nat} (h : c.length <= i + 1) : QbM f (c.drop i) out = out := by
 have : (c.drop i).length <= 1 := by simp; omega
 match hd : c.drop i with
 | [] => rfl
 | [x] => rfl
 | x :: y :: r => rw [hd] at this; simp at this
def FillI (f : Cu -> Cu -> Bool) (c : List Cu) (i : Nat) (out : List (Cu × Cu)) : Prop :=
 out.length <= i /\ (∀ s ∈ out, Cu.sm s.1 /\ Cu.sm s.2) /\ QbM f c [] = QbM f (c.drop i) out
theorem FillI.zero {f : Cu -> Cu -> Bool} {c : List Cu} : FillI f c 0 [] := ⟨Nat.zero_le _, by simp, by simp⟩
theorem FillI.take {f : Cu -> Cu -> Bool} {c : List Cu} {i : Nat} {out : List (Cu × Cu)} (h : FillI f c i out) (hc : ∀ x ∈ c, Cu.sm x) (hi : i + 1 < c.length) (ht : f c[i] c[i + 1] = true) : FillI f c (i + 1) (QbO out c[i] c[i + 1]) := by
 obtain ⟨h1, h2, h3⟩ := h
 refine ⟨Nat.le_trans (QhT ..) (by omega), Qjz h2 (hc _ (List.getElem_mem _)) (hc _ (List.getElem_mem _)), ?_⟩
 rw [h3, Qf4 hi, if_pos ht]
theorem FillI.skip {f : Cu -> Cu -> Bool} {c : List Cu} {i : Nat} {out : List (Cu × Cu)} (h : FillI f c i out) (hi : i + 1 < c.length) (ht : f c[i] c[i + 1] = false) : FillI f c (i + 1) out := by
 obtain ⟨h1, h2, h3⟩ := h
 exact ⟨by omega, h2, by rw [h3, Qf4 hi, if_neg (by rw [ht]; simp)]⟩
theorem FillI.done {f : Cu -> Cu -> Bool} {c : List Cu} {i : Nat} {out : List (Cu × Cu)} (h : FillI f c i out) (hi : c.length <= i + 1) : QbM f c [] = out := by rw [h.2.2, Qk1 hi]
theorem Yz {l : List (Cu × Cu)} (hl : Sm l) : ∀ x ∈ YV l, Cu.sm x := Qjy hl.2
def QmK (a b : List (Cu × Cu)) : List (Cu × Cu) := if QfH a = true /\ QfH b = true then QiG (a ++ b) else []
def QiH (a : List (Cu × Cu)) : List (Cu × Cu) := if QfH a = true then QbM (fun x y => !mIn a x y) (YV a) [] else []
theorem QmS {l : List (Cu × Cu)} : ∀ r ∈ l.map Qd6, r.length = 14 := fun r hr => by obtain ⟨x, _, rfl⟩ := List.mem_map.1 hr; rfl
theorem Sm.app {a b : List (Cu × Cu)} (ha : Sm a) (hb : Sm b) (h : a.length + b.length <= 1000000) : Sm (a ++ b) := by
 refine ⟨by simp; omega, fun s hs => ?_⟩
 rcases List.mem_append.1 hs with hs | hs
 ·exact ha.2 s hs
 ·exact hb.2 s hs
theorem Qps {H : List (Nat × Box)} {S : Nat -> Bool} {k n : Nat} {b : Box} (hS : S k = true) (hb : lk H k = some b) (hp : b.pr = true) (hn : n = b.rows.length) : (D.osl k n).fz H S = .sl b.rows := by
 simp only [D.fz, D.fzS, hS, hb, if_true, hp, hn, and_self]
abbrev Qij := List (Cu × Cu) × List (Cu × Cu)
def QmL (a b : Qij) : Qij := if QfI a = true /\ QfI b = true then (QmK a.1 b.1, QmK a.2 b.2) else ([], [])
def QgN (a : Qij) : Qij := if QfI a = true then (QiH a.1, QiH a.2) else ([], [])
def mPl (v n : Int) : Int := if n < 1 then 0 else Qfe v n
theorem Qfd {v n : Int} : 0 <= mPl v n := by
 unfold mPl; split
 ·omega
 ·exact Qmi (by omega)
theorem Qfc {v n : Int} (h : 1 <= n) : mPl v n < n := by
 rw [mPl, if_neg (by omega)]; exact Qmh (by omega)
def QlF (l : List Int) (i : Int) : Int := if i < 0 \/ (l.length : Int) <= i then i.tmod 3 else l.getD i.toNat 0
theorem Qk0 {l : List Int} {i : Int} (h0 : 0 <= i) (h : i < l.length) : QlF l i = l[i.toNat]'(by omega) := by
 rw [QlF, if_neg (by omega), List.getD_eq_getElem?_getD, List.getElem?_eq_getElem (by omega)]; rfl
def I64 (x : Int) : Prop := -9223372036854775808 <= x /\ x <= 9223372036854775807
theorem Ql8 {l : List Int} {i : Int} (hl : ∀ x ∈ l, I64 x) (hi : I64 i) : I64 (QlF l i) := by
 by_cases h : i < 0 \/ (l.length : Int) <= i
 ·rw [QlF, if_pos h]
  have h1 := Int.tmod_lt_of_pos i (show (0 : Int) < 3 by omega)
  have h2 := Int.lt_tmod_of_pos i (show (0 : Int) < 3 by omega)
  exact ⟨by omega, by omega⟩
 ·rw [Qk0 (by omega) (by omega)]
  exact hl _ (List.getElem_mem _)
theorem QlE (x : Int) : I64 (IntKind.i64.wrap x) := by
 unfold IntKind.wrap I64
 simp only [IntKind.bits, IntKind.signed, Bool.true_and]
 split
 ·rename_i h
  have := of_decide_eq_true h
  omega
 ·rename_i h
  have : ¬ (x % 2 ^ 64 >= 2 ^ (64 - 1)) := fun hh => h (decide_eq_true hh)
  omega
theorem QdN {α : Type} {k : Nat} {v : α} {l : List (Nat × α)} : lk ((k, v) :: l) k = some v := by rw [Qh, if_pos rfl]
theorem Qeh {α : Type} {k : Nat} {v : α} {l : List (Nat × α)} : (lk ((k, v) :: l) k).isSome = true := by rw [QdN]; rfl
def gB (L : List Int) (I : Int) (et : Nat) : Box := ⟨[[dInts L, .int .i64 I]], 2, et, true⟩
def nxI (I : Int) : Int := IntKind.i64.wrap (I + 1)
def nx (L : List Int) (I n : Int) : Int := mPl (QlF L (IntKind.i64.wrap (nxI I - 1))) n
def QhX (h m : Int) : Int := if QdL .and .i64 h m = h then 2 else if QdL .and .i64 h m = 0 then 0 else 1
structure Vr where
 a : Int
 b : Int
 c : Int
 p : List UInt8
 q : List UInt8
def dVr (v : Vr) : List D := [.int .i64 v.a, .int .i64 v.b, .int .i64 v.c, .str v.p, .str v.q]
def Vr.sm (v : Vr) : Prop := v.p.length <= 100 /\ v.q.length <= 100
def versions : List Vr := [⟨1, 0, 0, [], []⟩, ⟨1, 2, 0, [], []⟩, ⟨2, 0, 0, [97, 46, 49], []⟩, ⟨2, 0, 0, [], []⟩]
theorem QiZ : ∀ v ∈ versions, v.sm := by
 intro v hv
 simp only [versions, List.mem_cons, List.not_mem_nil, or_false] at hv
 rcases hv with rfl | rfl | rfl | rfl <;> exact ⟨by decide, by decide⟩
theorem Qdp {i : Nat} : ((i : Int) - 1).toNat = i - 1 := by omega
end M25
namespace Go.Proofs
open Go Go.Abs M3 M25
set_option linter.unusedVariables false
set_option linter.unusedSimpArgs false
theorem X6 {a b c : Int} {p q : List UInt8} : Ok Try.prog 76 [.agg [.int .i64 a, .int .i64 b, .int .i64 c, .str p, .str q]] (.agg [.int .i64 a, .int .i64 b, .int .i64 c, .str p, .str []]) := by
 refine Ok.ofT Z2 Try.func76 QqX (Nat.le_of_ble_eq_true Z) ?_
 show TW _ _ tf76.body _ _
 refine Qe fun K hK => ZK Z Z Z (ZF Z (hK _ _ (Qb (kp2 Z Z) ?_)))
 refine Qe fun K hK => Qm Z Z (QS Z Z Z Z Z Z Z Z (hK _ _ (Qb (kp2 Z Z) ?_)))
 refine Qe fun K hK => QM (cs := [_, _, _, _, _]) Z Z Z Z (QS Z Z Z Z Z Z Z Z (hK _ _ (Qb (kp1 Z) ?_)))
 refine Qt (ZA (cs := [_, _, _, _, _]) Z Z Z Z ?_)
 exact rfl
theorem YZ  : Ok Try.prog 78 [] (.agg [.int .i64 (-1), .int .i64 0, .int .i64 0, .int .i64 0, .str [], .str [], .bool false]) := by
 refine Ok.ofT Z2 Try.func78 QqZ (Nat.le_of_ble_eq_true Z) ?_
 show TW _ _ tf78.body _ _
 refine Qe fun K hK => ZF Z (hK _ _ (Qb (kp1 Z) ?_))
 refine Qe fun K hK => Q3 Z Z (QS Z Z Z Z Z Z Z Z (hK _ _ (Qb (kp1 Z) ?_)))
 refine Qt (ZA (cs := [_, _, _, _, _, _, _]) Z Z Z Z ?_)
 exact rfl
theorem Xb  : Ok Try.prog 80 [] (.agg [.int .i64 1, .int .i64 0, .int .i64 0, .int .i64 0, .str [], .str [], .bool false]) := by
 refine Ok.ofT Z2 Try.func80 Qq1 (Nat.le_of_ble_eq_true Z) ?_
 show TW _ _ tf80.body _ _
 refine Qe fun K hK => ZF Z (hK _ _ (Qb (kp1 Z) ?_))
 refine Qe fun K hK => Q3 Z Z (QS Z Z Z Z Z Z Z Z (hK _ _ (Qb (kp1 Z) ?_)))
 refine Qt (ZA (cs := [_, _, _, _, _, _, _]) Z Z Z Z ?_)
 exact rfl
theorem YM {a b c : Int} {p q : List UInt8} : Ok Try.prog 54 [.agg [.int .i64 a, .int .i64 b, .int .i64 c, .str p, .str q]] (.agg [.int .i64 0, .int .i64 a, .int .i64 b, .int .i64 c, .str p, .str [], .bool false]) := by
 refine Ok.ofT Z2 Try.func54 QqB (Nat.le_of_ble_eq_true Z) ?_
 show TW _ _ tf54.body _ _
 refine Qe fun K hK => ZK Z Z Z (ZF Z (hK _ _ (Qb (kp2 Z Z) ?_)))
 refine Qe fun K hK => QM (cs := [_, _, _, _, _]) Z Z Z Z (QC (X6) Z Z (.inl Z) (Q3 Z Z (QS Z Z Z Z Z Z Z Z (hK _ _ (Qb (kp1 Z) ?_)))))
 refine Qt (ZA (cs := [_, _, _, _, _, _, _]) Z Z Z Z ?_)
 exact rfl
theorem Qbz {a b c : Int} {p q : List UInt8} : Ok Try.prog 55 [.agg [.int .i64 a, .int .i64 b, .int .i64 c, .str p, .str q]] (.agg [.int .i64 0, .int .i64 a, .int .i64 b, .int .i64 c, .str p, .str [], .bool true]) := by
 refine Ok.ofT Z2 Try.func55 QqC (Nat.le_of_ble_eq_true Z) ?_
 show TW _ _ tf55.body _ _
 refine Qe fun K hK => ZK Z Z Z (ZF Z (hK _ _ (Qb (kp2 Z Z) ?_)))
 refine Qe fun K hK => QM (cs := [_, _, _, _, _]) Z Z Z Z (QC (X6) Z Z (.inl Z) (Q3 Z Z (QS Z Z Z Z Z Z Z Z (hK _ _ (Qb (kp1 Z) ?_)))))
 refine Qt (ZA (cs := [_, _, _, _, _, _, _]) Z Z Z Z ?_)
 exact rfl
theorem XQ {a b c : Int} {p q : List UInt8} : Ok Try.prog 77 [.agg [.int .i64 a, .int .i64 b, .int .i64 c, .str p, .str q]] (.bool (Qf6 a b c)) := by
 refine Ok.ofT Z2 Try.func77 QqY (Nat.le_of_ble_eq_true Z) ?_
 show TW _ _ tf77.body _ _
 refine Qe fun K hK => ZK Z Z Z (Qa Z (hK _ _ (Qb (kp1 Z) ?_)))
 refine Qe fun K hK => Qm Z Z (QF Z Z Z (YI Z Z (Qa Z ?_)))
 refine QB (g := 6) Z (fun h1 => ?_) (fun h1 => ?_)
 ·try rw [h1]
  try simp only [qB] at h1
  refine Ql Z (Qm Z Z (Ql Z (QF Z Z Z (Ql Z (YI Z Z (Qn Z Z (Qa Z ?_)))))))
  refine QB (g := 11) Z (fun h2 => ?_) (fun h2 => ?_)
  ·try rw [h2]
   try simp only [qB] at h2
   refine Ql Z (Qm Z Z (Ql Z (QF Z Z Z (Ql Z (YI Z Z (Qn Z Z (Qa Z (hK _ _ (Qb (kp1 Z) ?_)))))))))
   refine Qt (Qp Z ?_)
   (repeat clear hK K); simp_all [Qf6]
  ·try rw [h2]
   try simp only [qB] at h2
   refine QA Z (QA Z (QA Z (Qn Z Z (Qa Z (hK _ _ (Qb (kp1 Z) ?_))))))
   refine Qt (Qp Z ?_)
   (repeat clear hK K); simp_all [Qf6]
 ·try rw [h1]
  try simp only [qB] at h1
  refine QA Z (QA Z (QA Z (Qn Z Z (Qa Z (QA Z (QA Z (QA Z (Qn Z Z (Qa Z (hK _ _ (Qb (kp1 Z) ?_)))))))))))
  refine Qt (Qp Z ?_)
  (repeat clear hK K); simp_all [Qf6]
end Go.Proofs
namespace Go.Proofs
open Go Go.Abs M3 M25
set_option linter.unusedVariables false
set_option linter.unusedSimpArgs false
theorem QcC {a b c : Int} {p q : List UInt8} (hp : p.length <= 1000000) (hq : q.length <= 1000000) {part : Int} : Ok Try.prog 95 [.agg [.int .i64 a, .int .i64 b, .int .i64 c, .str p, .str q], .int .i64 part] (dOV (X0 a b c p q part)) := by
 refine Ok.ofT Z2 Try.func95 Qrg (Nat.le_of_ble_eq_true Z) ?_
 show TW _ _ tf95.body _ _
 refine Qe fun K hK => ZK Z Z Z (ZF Z (Qa Z (hK _ _ (Qb (kp3 Z Z Z) ?_))))
 refine QE ?_ -- 0
 refine Qe fun K hK => QM (cs := [_, _, _, _, _]) Z Z Z Z (QC (Zx (by omega) (by omega)) Z Z (.inr Z) (Yl Z (Qa Z ?_)))
 refine QB (g := 10) Z (fun h1 => ?_) (fun h1 => ?_)
 ·try rw [h1]
  try simp only [qB] at h1
  refine QA Z (QA Z (Qn Z Z (Qa Z (QA Z (QA Z (Qn Z Z (hK _ _ (Qb (kp4 Z Z Z Z) ?_))))))))
  refine ZG Z (Qe fun K hK => Q3 Z Z (QS Z Z Z Z Z Z Z Z (Qa Z (hK _ _ (Qb (kp2 Z Z) ?_)))))
  refine Qt (Qi (Post.eq (Xw (ds := [.int .i64 _, .int .i64 _, .int .i64 _, .str _, .str _]) (d' := .bool _) (cs := [_, _, _, _, _]) Z Z Z Z Z ⟨rfl, rfl⟩) ?_))
  (repeat clear hK K); first | (simp [X0, dOV, h1]; done) | (simp_all [X0, dOV]; done)
 ·try rw [h1]
  try simp only [qB] at h1
  refine Ql Z (Qa Z (Ql Z (Yx Z Z (Qn Z Z (Qa Z ?_)))))
  refine QB (g := 14) Z (fun h2 => ?_) (fun h2 => ?_)
  ·try rw [h2]
   try simp only [qB] at h2
   refine QA Z (QA Z (Qn Z Z (hK _ _ (Qb (kp4 Z Z Z Z) ?_))))
   refine ZG Z (Qe fun K hK => Q3 Z Z (QS Z Z Z Z Z Z Z Z (Qa Z (hK _ _ (Qb (kp2 Z Z) ?_)))))
   refine Qt (Qi (Post.eq (Xw (ds := [.int .i64 _, .int .i64 _, .int .i64 _, .str _, .str _]) (d' := .bool _) (cs := [_, _, _, _, _]) Z Z Z Z Z ⟨rfl, rfl⟩) ?_))
   (repeat clear hK K); first | (simp [X0, dOV, h1, h2]; done) | (simp_all [X0, dOV]; done)
  ·try rw [h2]
   try simp only [qB] at h2
   refine Ql Z (Qa Z (Ql Z (Qcp Z Z (Qn Z Z (hK _ _ (Qb (kp4 Z Z Z Z) ?_))))))
   refine Qy Z (fun h3 => ?_) (fun h3 => ?_)
   ·try rw [h3]
    try simp only [qB] at h3
    refine Qe fun K hK => Q3 Z Z (QS Z Z Z Z Z Z Z Z (Qa Z (hK _ _ (Qb (kp2 Z Z) ?_))))
    refine Qt (Qi (Post.eq (Xw (ds := [.int .i64 _, .int .i64 _, .int .i64 _, .str _, .str _]) (d' := .bool _) (cs := [_, _, _, _, _]) Z Z Z Z Z ⟨rfl, rfl⟩) ?_))
    (repeat clear hK K); first | (simp [X0, dOV, h1, h2, h3]; done) | (simp_all [X0, dOV]; done)
   ·try rw [h3]
    try simp only [qB] at h3
    refine Qu (Qd (kp3 Z Z Z) (Qe fun K hK => ZF Z (hK _ _ (Qb (kp4 Z Z Z Z) ?_))))
    refine QE ?_ -- 1
    refine Qe fun K hK => Qa Z (hK _ _ (Qb (kp4 Z Z Z Z) ?_))
    refine QG (Qe fun K hK => YI Z Z (Qa Z (hK _ _ (Qb (kp5 Z Z Z Z Z) ?_))))
    refine Qy Z (fun h4 => ?_) (fun h4 => ?_)
    ·try rw [h4]
     try simp only [qB] at h4
     refine Q4 fun K hK => Qm Z Z (QF Z Z Z (Zc Z Z (Qr (by have := Qb7 (by simpa using h1); omega) (by have := Qb7 (by simpa using h1); omega)) (Q3 Z Z (QS Z Z Z Z Z Z Z Z (hK _ ?_)))))
     refine Qg (Qd (kp2 Z Z) ?_)
     refine QE ?_ -- 2
     refine Qe fun K hK => QM (cs := [_, _, _, _, _]) Z Z Z Z (QC (Zx (by simp) (by simp)) Z Z (.inr Z) (Yl Z (hK _ _ (Qb (kp3 Z Z Z) ?_))))
     refine Qy Z (fun h5 => ?_) (fun h5 => ?_)
     ·try rw [h5]
      try simp only [qB] at h5
      refine Qe fun K hK => Q3 Z Z (QS Z Z Z Z Z Z Z Z (Qa Z (hK _ _ (Qb (kp2 Z Z) ?_))))
      refine Qt (Qi (Post.eq (Xw (ds := [.int .i64 _, .int .i64 _, .int .i64 _, .str _, .str _]) (d' := .bool _) (cs := [_, _, _, _, _]) Z Z Z Z Z ⟨rfl, rfl⟩) ?_))
      (repeat clear hK K); first | (simp [X0, dOV, h1, h2, h3, h4, h5]; done) | (simp_all [X0, dOV]; done)
     ·try rw [h5]
      try simp only [qB] at h5
      refine Qu (Qd (kp2 Z Z) (Qe fun K hK => QM (cs := [_, _, _, _, _]) Z Z Z Z (QS Z Z Z Z Z Z Z Z (Qa Z (hK _ _ (Qb (kp2 Z Z) ?_))))))
      refine Qt (Post.eq (Xw (ds := [.int .i64 _, .int .i64 _, .int .i64 _, .str _, .str _]) (d' := .bool _) (cs := [_, _, _, _, _]) Z Z Z Z Z ⟨rfl, rfl⟩) ?_)
      (repeat clear hK K); first | (simp [X0, dOV, h1, h2, h3, h4, h5]; done) | (simp_all [X0, dOV]; done)
    ·try rw [h4]
     try simp only [qB] at h4
     refine Qe fun K hK => YI Z Z (Qa Z (hK _ _ (Qb (kp4 Z Z Z Z) ?_)))
     refine Qy Z (fun h6 => ?_) (fun h6 => ?_)
     ·try rw [h6]
      try simp only [qB] at h6
      refine Q4 fun K hK => Qm Z Z (QF Z Z Z (Qm Z Z (QF Z Z Z (Zc Z Z (Qr (by have := Qb7 (by simpa using h1); omega) (by have := Qb7 (by simpa using h1); omega)) (Q3 Z Z (QS Z Z Z Z Z Z Z Z (hK _ ?_)))))))
      refine Qg (Qd (kp2 Z Z) ?_)
      refine QE ?_ -- 2
      refine Qe fun K hK => QM (cs := [_, _, _, _, _]) Z Z Z Z (QC (Zx (by simp) (by simp)) Z Z (.inr Z) (Yl Z (hK _ _ (Qb (kp3 Z Z Z) ?_))))
      refine Qy Z (fun h7 => ?_) (fun h7 => ?_)
      ·try rw [h7]
       try simp only [qB] at h7
       refine Qe fun K hK => Q3 Z Z (QS Z Z Z Z Z Z Z Z (Qa Z (hK _ _ (Qb (kp2 Z Z) ?_))))
       refine Qt (Qi (Post.eq (Xw (ds := [.int .i64 _, .int .i64 _, .int .i64 _, .str _, .str _]) (d' := .bool _) (cs := [_, _, _, _, _]) Z Z Z Z Z ⟨rfl, rfl⟩) ?_))
       (repeat clear hK K); first | (simp [X0, dOV, h1, h2, h3, h4, h6, h7]; done) | (simp_all [X0, dOV]; done)
      ·try rw [h7]
       try simp only [qB] at h7
       refine Qu (Qd (kp2 Z Z) (Qe fun K hK => QM (cs := [_, _, _, _, _]) Z Z Z Z (QS Z Z Z Z Z Z Z Z (Qa Z (hK _ _ (Qb (kp2 Z Z) ?_))))))
       refine Qt (Post.eq (Xw (ds := [.int .i64 _, .int .i64 _, .int .i64 _, .str _, .str _]) (d' := .bool _) (cs := [_, _, _, _, _]) Z Z Z Z Z ⟨rfl, rfl⟩) ?_)
       (repeat clear hK K); first | (simp [X0, dOV, h1, h2, h3, h4, h6, h7]; done) | (simp_all [X0, dOV]; done)
     ·try rw [h6]
      try simp only [qB] at h6
      refine Q4 fun K hK => Qm Z Z (QF Z Z Z (Qm Z Z (QF Z Z Z (Qm Z Z (QF Z Z Z (Zc Z Z (Qr (by have := Qb7 (by simpa using h1); omega) (by have := Qb7 (by simpa using h1); omega)) (Q3 Z Z (QS Z Z Z Z Z Z Z Z (hK _ ?_)))))))))
      refine Qg (Qd (kp2 Z Z) ?_)
      refine QE ?_ -- 2
      refine Qe fun K hK => QM (cs := [_, _, _, _, _]) Z Z Z Z (QC (Zx (by simp) (by simp)) Z Z (.inr Z) (Yl Z (hK _ _ (Qb (kp3 Z Z Z) ?_))))
      refine Qy Z (fun h8 => ?_) (fun h8 => ?_)
      ·try rw [h8]
       try simp only [qB] at h8
       refine Qe fun K hK => Q3 Z Z (QS Z Z Z Z Z Z Z Z (Qa Z (hK _ _ (Qb (kp2 Z Z) ?_))))
       refine Qt (Qi (Post.eq (Xw (ds := [.int .i64 _, .int .i64 _, .int .i64 _, .str _, .str _]) (d' := .bool _) (cs := [_, _, _, _, _]) Z Z Z Z Z ⟨rfl, rfl⟩) ?_))
       (repeat clear hK K); first | (simp [X0, dOV, h1, h2, h3, h4, h6, h8]; done) | (simp_all [X0, dOV]; done)
      ·try rw [h8]
       try simp only [qB] at h8
       refine Qu (Qd (kp2 Z Z) (Qe fun K hK => QM (cs := [_, _, _, _, _]) Z Z Z Z (QS Z Z Z Z Z Z Z Z (Qa Z (hK _ _ (Qb (kp2 Z Z) ?_))))))
       refine Qt (Post.eq (Xw (ds := [.int .i64 _, .int .i64 _, .int .i64 _, .str _, .str _]) (d' := .bool _) (cs := [_, _, _, _, _]) Z Z Z Z Z ⟨rfl, rfl⟩) ?_)
       (repeat clear hK K); first | (simp [X0, dOV, h1, h2, h3, h4, h6, h8]; done) | (simp_all [X0, dOV]; done)
theorem QcD {a b c : Int} {p q : List UInt8} (hp : p.length <= 1000000) (hq : q.length <= 1000000) : Ok Try.prog 79 [.agg [.int .i64 a, .int .i64 b, .int .i64 c, .str p, .str q]] (dOV (QhU a b c p q)) := by
 refine Ok.ofT Z2 Try.func79 Qq0 (Nat.le_of_ble_eq_true Z) ?_
 show TW _ _ tf79.body _ _
 refine Qe fun K hK => ZK Z Z Z (ZF Z (Qa Z (hK _ _ (Qb (kp2 Z Z) ?_))))
 refine QE ?_ -- 0
 refine Qe fun K hK => QM (cs := [_, _, _, _, _]) Z Z Z Z (QC (Zx (by omega) (by omega)) Z Z (.inr Z) (Yl Z (hK _ _ (Qb (kp3 Z Z Z) ?_))))
 refine Qy Z (fun h1 => ?_) (fun h1 => ?_)
 ·try rw [h1]
  try simp only [qB] at h1
  refine Qe fun K hK => Q3 Z Z (QS Z Z Z Z Z Z Z Z (Qa Z (hK _ _ (Qb (kp2 Z Z) ?_))))
  refine Qt (Qi (Post.eq (Xw (ds := [.int .i64 _, .int .i64 _, .int .i64 _, .str _, .str _]) (d' := .bool _) (cs := [_, _, _, _, _]) Z Z Z Z Z ⟨rfl, rfl⟩) ?_))
  simp [QhU, dOV, h1]
 ·try rw [h1]
  try simp only [qB] at h1
  refine Qu (Qd (kp2 Z Z) ?_)
  refine QE ?_ -- 1
  refine Qe fun K hK => Qm Z Z (QF Z Z Z (Qhj Z Z (hK _ _ (Qb (kp3 Z Z Z) ?_))))
  refine Qy Z (fun h2 => ?_) (fun h2 => ?_)
  ·try rw [h2]
   try simp only [qB] at h2
   refine Qe fun K hK => Qm Z Z (QF Z Z Z (Qm Z Z (QF Z Z Z (Qm Z Z (QF Z Z Z (Q3 Z Z (QS Z Z Z Z Z Z Z Z (Qa Z (hK _ _ (Qb (kp2 Z Z) ?_))))))))))
   refine Qt (Qi (Post.eq (Xw (ds := [.int .i64 _, .int .i64 _, .int .i64 _, .str _, .str _]) (d' := .bool _) (cs := [_, _, _, _, _]) Z Z Z Z Z ⟨rfl, rfl⟩) ?_))
   simp [QhU, dOV, h1, h2]
  ·try rw [h2]
   try simp only [qB] at h2
   refine Qu (Qd (kp2 Z Z) ?_)
   refine QE ?_ -- 2
   refine Qe fun K hK => Qa Z (hK _ _ (Qb (kp3 Z Z Z) ?_))
   refine QG ?_
   refine ZL (ι := Nat) (fun m => ⟨[(1, .ref 1 0 0), (2, .ref 2 0 0), (4, .int .i64 ((m : Int) - 1))], [(1, ⟨[[.int .i64 a, .int .i64 b, .int .i64 c, .str p, .str q]], 5, 49, true⟩), (2, ⟨[[.int .i64 0, .int .i64 0, .int .i64 0, .str [], .str []]], 5, 49, true⟩)]⟩) (fun m => m <= 3 /\ Xy a b c p q 3 = Xy a b c p q m) (fun m => m) 3 ?_ ?_ ?_
   ·exact Zg (l := [1, 2, 4]) (lH := [1, 2]) (kp3 rfl rfl rfl) (Qf rfl (Qf rfl Qs)) rfl rfl rfl
   ·exact ⟨by omega, rfl⟩
   intro m hI
   obtain ⟨hI1, hI2⟩ := hI
   try dsimp only
   refine QE ?_ -- 3
   refine Qe fun K hK => Qa Z (Qke Z Z (hK _ _ (Qb (kp4 Z Z Z Z) ?_)))
   refine Qy Z (fun h3 => ?_) (fun h3 => ?_)
   ·try rw [h3]
    try simp only [qB] at h3
    rcases Nat.eq_zero_or_pos m with hm | hm <;> first | omega | skip
    refine Qu (Qd (kp3 Z Z Z) ?_)
    refine QE ?_ -- 4
    refine QG (Qe fun K hK => QM (cs := [_, _, _, _, _]) Z Z Z Z (Qa Z (QC (QcC (by omega) (by omega)) Z Z (.inl Z) (Qa Z (Zi Z Z (Zi Z Z (ZF Z (QS Z Z Z Z Z Z Z Z (Qa Z (hK _ _ (Qb (kp5 Z Z Z Z Z) ?_)))))))))))
    refine Qe fun K hK => Qa Z (hK _ _ (Qb (kp5 Z Z Z Z Z) ?_))
    refine Qy Z (fun h4 => ?_) (fun h4 => ?_)
    ·try rw [h4]
     try simp only [qB] at h4
     refine Qe fun K hK => QM (cs := [_, _, _, _, _]) Z Z Z Z (QS Z Z Z Z Z Z Z Z (Qa Z (hK _ _ (Qb (kp2 Z Z) ?_))))
     refine Qt (Qq (Qi (Q1 (Qq (Qi (Post.eq (Xw (ds := [.int .i64 _, .int .i64 _, .int .i64 _, .str _, .str _]) (d' := .bool _) (cs := [_, _, _, _, _]) Z Z Z Z Z ⟨rfl, rfl⟩) ?_))))))
     subst h2
     simp [QhU, dOV, h1, hI2, Qhr hm h4, h4]
    ·try rw [h4]
     try simp only [qB] at h4
     refine Qu (Qg (Qd (kp3 Z Z Z) (Q4 fun K hK => Qa Z (QcQ Z Z (by first | exact Qr (by omega) (by omega) | rfl) (Qa Z (hK _ ?_))))))
     refine Qj (m - 1) ?_ ?_ ?_
     ·refine Zg (l := [1, 2, 4]) (lH := [1, 2]) (kp3 Z Z Z) (Qf Z (Qf Z Qs)) ?_ Z rfl; simp only [List.cons.injEq, Prod.mk.injEq, D.int.injEq, and_true, true_and]; omega
     ·exact ⟨by omega, by rw [hI2]; exact Qir hm h4⟩
     ·show m - 1 < m; omega
   ·try rw [h3]
    try simp only [qB] at h3
    rcases Nat.eq_zero_or_pos m with hm | hm <;> first | omega | skip
    refine Zk (QI (Qw (QD (Qd (kp1 Z) (Qe fun K hK => Q3 Z Z (QS Z Z Z Z Z Z Z Z (Qa Z (hK _ _ (Qb (kp2 Z Z) ?_)))))))))
    refine Qt (Post.eq (Xw (ds := [.int .i64 _, .int .i64 _, .int .i64 _, .str _, .str _]) (d' := .bool _) (cs := [_, _, _, _, _]) Z Z Z Z Z ⟨rfl, rfl⟩) ?_)
    subst h2
    subst hm
    have hb : Xy a b c [] q 3 = none := hI2
    simp [QhU, dOV, h1, hb]
end Go.Proofs
namespace Go.Proofs
open Go Go.Abs M3 M25
set_option linter.unusedVariables false
set_option linter.unusedSimpArgs false
theorem XR {e a b c : Int} {p q : List UInt8} {f : Bool} : Ok Try.prog 103 [.agg [.int .i64 e, .int .i64 a, .int .i64 b, .int .i64 c, .str p, .str q, .bool f]] (.bool (Qf7 e a b c p q f)) := by
 refine Ok.ofT Z2 Try.func103 QpE (Nat.le_of_ble_eq_true Z) ?_
 show TW _ _ tf103.body _ _
 refine Qe fun K hK => ZK Z Z Z (Qa Z (hK _ _ (Qb (kp1 Z) ?_)))
 refine Qe fun K hK => Qm Z Z (QF Z Z Z (Xf Z Z (Qa Z ?_)))
 refine QB (g := 6) Z (fun h1 => ?_) (fun h1 => ?_)
 ·try rw [h1]
  try simp only [qB] at h1
  refine QA Z (QA Z (QA Z (QA Z (Q0 Z (Q0 Z (Q0 Z (Q0 Z (QA Z (QA Z (Q0 Z (Q0 Z ?_)))))))))))
  refine Q0 Z (Q0 Z (QA Z (Qn Z Z (Qa Z (hK _ _ (Qb (kp1 Z) ?_))))))
  refine Qt (Qp Z ?_)
  (repeat clear hK K); simp_all [Qf7]
 ·try rw [h1]
  try simp only [qB] at h1
  refine Ql Z (Qm Z Z (Ql Z (QF Z Z Z (Ql Z (Yl Z (Ql Z (Qa Z ?_)))))))
  refine QB (g := 10) Z (fun h2 => ?_) (fun h2 => ?_)
  ·try rw [h2]
   try simp only [qB] at h2
   refine Ql Z (Qm Z Z (Ql Z (Qm Z Z (Ql Z (QF Z Z Z (Ql Z (Qbq Z Z (Ql Z (Qn Z Z (Ql Z (Qa Z ?_)))))))))))
   refine QB (g := 16) Z (fun h3 => ?_) (fun h3 => ?_)
   ·try rw [h3]
    try simp only [qB] at h3
    refine Ql Z (Qm Z Z (Ql Z (QM (cs := [_, _, _, _, _]) Z Z Z Z (Ql Z (QC (XQ) Z Z (.inr Z) (Ql Z (Yl Z (Ql Z (Qn Z Z (Qn Z Z (Qa Z ?_)))))))))))
    refine hK _ _ (Qb (kp1 Z) ?_)
    refine Qt (Qp Z ?_)
    (repeat clear hK K); simp_all [Qf7]
   ·try rw [h3]
    try simp only [qB] at h3
    refine QA Z (QA Z (QA Z (QA Z (Ql Z (Qn Z Z (Qn Z Z (Qa Z (hK _ _ (Qb (kp1 Z) ?_)))))))))
    refine Qt (Qp Z ?_)
    (repeat clear hK K); simp_all [Qf7]
  ·try rw [h2]
   try simp only [qB] at h2
   refine QA Z (QA Z (QA Z (QA Z (Ql Z (Qn Z Z (Ql Z (Qa Z (QA Z (QA Z (QA Z (QA Z ?_)))))))))))
   refine Ql Z (Qn Z Z (Qn Z Z (Qa Z (hK _ _ (Qb (kp1 Z) ?_)))))
   refine Qt (Qp Z ?_)
   (repeat clear hK K); simp_all [Qf7]
theorem Qcm {a b c : Int} {p q : List UInt8} : Ok Try.prog 56 [.agg [.int .i64 a, .int .i64 b, .int .i64 c, .str p, .str q]] (.agg (dCu (Qfa a b c))) := by
 refine Ok.ofT Z2 Try.func56 QqD (Nat.le_of_ble_eq_true Z) ?_
 show TW _ _ tf56.body _ _
 refine Qe fun K hK => ZK Z Z Z (ZF Z (hK _ _ (Qb (kp2 Z Z) ?_)))
 refine QE ?_ -- 0
 refine Qe fun K hK => QM (cs := [_, _, _, _, _]) Z Z Z Z (QC (XQ) Z Z (.inr Z) (hK _ _ (Qb (kp3 Z Z Z) ?_)))
 refine Qy Z (fun h1 => ?_) (fun h1 => ?_)
 ·try rw [h1]
  try simp only [qB] at h1
  refine Qe fun K hK => QC (YZ) Z Z (.inl Z) (QS Z Z Z Z Z Z Z Z (hK _ _ (Qb (kp1 Z) ?_)))
  refine Qt (Qi (Post.eq (ZA (ds := [.int .i64 _, .int .i64 _, .int .i64 _, .int .i64 _, .str _, .str _, .bool _]) (cs := [_, _, _, _, _, _, _]) Z Z Z Z Z) ?_))
  simp [Qfa, dCu, Qcs, h1]
 ·try rw [h1]
  try simp only [qB] at h1
  refine Qu (Qd (kp2 Z Z) (Qe fun K hK => Qm Z Z (QF Z Z Z (Qm Z Z (QF Z Z Z (Qm Z Z (QF Z Z Z (Q3 Z Z (QC (YM) Z Z (.inl Z) (QS Z Z Z Z Z Z Z Z ?_))))))))))
  refine hK _ _ (Qb (kp1 Z) ?_)
  refine Qt (Post.eq (ZA (ds := [.int .i64 _, .int .i64 _, .int .i64 _, .int .i64 _, .str _, .str _, .bool _]) (cs := [_, _, _, _, _, _, _]) Z Z Z Z Z) ?_)
  simp [Qfa, dCu, Qcs, h1]
theorem QbA {a b c : Int} {p q : List UInt8} : Ok Try.prog 57 [.agg [.int .i64 a, .int .i64 b, .int .i64 c, .str p, .str q]] (.agg (dCu (Qdh a b c))) := by
 refine Ok.ofT Z2 Try.func57 QqE (Nat.le_of_ble_eq_true Z) ?_
 show TW _ _ tf57.body _ _
 refine Qe fun K hK => ZK Z Z Z (ZF Z (hK _ _ (Qb (kp2 Z Z) ?_)))
 refine Qe fun K hK => Qm Z Z (QF Z Z Z (Qm Z Z (QF Z Z Z (Qm Z Z (QF Z Z Z (Q3 Z Z (QC (QcD (by simp) (by simp)) Z Z (.inl Z) (Qa Z (Zi Z Z (Zi Z Z ?_))))))))))
 refine ZF Z (QS Z Z Z Z Z Z Z Z (Qa Z (hK _ _ (Qb (kp3 Z Z Z) ?_))))
 refine QE ?_ -- 0
 refine Qe fun K hK => Qa Z (Yl Z (hK _ _ (Qb (kp3 Z Z Z) ?_)))
 refine Qy Z (fun h1 => ?_) (fun h1 => ?_)
 ·try rw [h1]
  try simp only [qB] at h1
  refine Qe fun K hK => QC (Xb) Z Z (.inl Z) (QS Z Z Z Z Z Z Z Z (hK _ _ (Qb (kp1 Z) ?_)))
  refine Qt (Qi (Post.eq (ZA (ds := [.int .i64 _, .int .i64 _, .int .i64 _, .int .i64 _, .str _, .str _, .bool _]) (cs := [_, _, _, _, _, _, _]) Z Z Z Z Z) ?_))
  cases hn : QhU a b c [] [] <;> simp [Qdh, dCu, QfE, hn] at *
 ·try rw [h1]
  try simp only [qB] at h1
  refine Qu (Qd (kp2 Z Z) (Qe fun K hK => QM (cs := [_, _, _, _, _]) Z Z Z Z (QC (YM) Z Z (.inl Z) (QS Z Z Z Z Z Z Z Z (hK _ _ (Qb (kp1 Z) ?_))))))
  refine Qt (Post.eq (ZA (ds := [.int .i64 _, .int .i64 _, .int .i64 _, .int .i64 _, .str _, .str _, .bool _]) (cs := [_, _, _, _, _, _, _]) Z Z Z Z Z) ?_)
  cases hn : QhU a b c [] [] <;> simp [Qdh, dCu, QfE, hn] at *
theorem XS  : Ok Try.prog 98 [] (ZQ [(Qcs, QfE)]) := by
 refine Ok.ofT Z2 Try.func98 Qrj (Nat.le_of_ble_eq_true Z) ?_
 show TW _ _ tf98.body _ _
 refine Qe fun K hK => Qa Z (hK _ _ (Qb (QP) ?_))
 refine Qe fun K hK => QC (YZ) Z Z (.inl Z) (QC (Xb) Z Z (.inl Z) (Q3 Z Z (QL Z Z (Qa Z (hK _ _ (Qb (kp1 Z) ?_))))))
 refine Qt (ZS Z ?_)
 rfl
theorem Z6  : Ok Try.prog 53 [] (Qhc ([], [])) := by
 refine Ok.ofT Z2 Try.func53 QqA (Nat.le_of_ble_eq_true Z) ?_
 show TW _ _ tf53.body _ _
 refine Qe fun K hK => ZF Z (hK _ _ (Qb (kp1 Z) ?_))
 refine Qe fun K hK => Q3 Z Z (QS Z Z Z Z Z Z Z Z (hK _ _ (Qb (kp1 Z) ?_)))
 refine Qt (Post.eq (ZA (ds := [.sl _, .sl _]) (cs := [_, _]) Z Z Z Z Z) ?_)
 rfl
theorem QcZ  : Ok Try.prog 82 [] (Qhc ([(Qcs, QfE)], [(Qcs, QfE)])) := by
 refine Ok.ofT Z2 Try.func82 Qq3 (Nat.le_of_ble_eq_true Z) ?_
 show TW _ _ tf82.body _ _
 refine Qe fun K hK => ZF Z (hK _ _ (Qb (kp1 Z) ?_))
 refine Qe fun K hK => QC (XS) Z Z (.inl Z) (QC (XS) Z Z (.inl Z) (Q3 Z Z (QS Z Z Z Z Z Z Z Z (hK _ _ (Qb (kp1 Z) ?_)))))
 refine Qt (Post.eq (ZA (ds := [.sl _, .sl _]) (cs := [_, _]) Z Z Z Z Z) ?_)
 rfl
theorem XP {a b c : Int} {p q : List UInt8} (hp : p.length <= 1000000) (hq : q.length <= 1000000) : Ok Try.prog 27 [.agg [.int .i64 a, .int .i64 b, .int .i64 c, .str p, .str q]] (Qhc (Xd a b c p q)) := by
 refine Ok.ofT Z2 Try.func27 Qqd (Nat.le_of_ble_eq_true Z) ?_
 show TW _ _ tf27.body _ _
 refine Qe fun K hK => ZK Z Z Z (ZF Z (hK _ _ (Qb (kp2 Z Z) ?_)))
 refine QE ?_ -- 0
 refine Qe fun K hK => QM (cs := [_, _, _, _, _]) Z Z Z Z (QC (Zx (by omega) (by omega)) Z Z (.inr Z) (Yl Z (hK _ _ (Qb (kp3 Z Z Z) ?_))))
 refine Qy Z (fun h1 => ?_) (fun h1 => ?_)
 ·try rw [h1]
  try simp only [qB] at h1
  refine Qe fun K hK => QC (Z6) Z Z (.inl Z) (QS Z Z Z Z Z Z Z Z (hK _ _ (Qb (kp1 Z) ?_)))
  refine Qt (Qi (Post.eq (ZA (ds := [.sl _, .sl _]) (cs := [_, _]) Z Z Z Z Z) ?_))
  simp [Xd, Qhc, ZQ, Qd6, dCu, h1]
 ·try rw [h1]
  try simp only [qB] at h1
  refine Qu (Qd (kp2 Z Z) ?_)
  refine QE ?_ -- 1
  refine Qe fun K hK => Qm Z Z (QF Z Z Z (Qhj Z Z (hK _ _ (Qb (kp3 Z Z Z) ?_))))
  refine Qy Z (fun h2 => ?_) (fun h2 => ?_)
  ·try rw [h2]
   try simp only [qB] at h2
   refine Qe fun K hK => QX (ds0 := [6, 3, 2, 1, 0]) (cs := [_, _, _, _, _]) Z Z Z Z Z Z (Zd (ds0 := [3, 2, 1, 0]) (YM) Z Z (.inl Z) Z Z (QX (ds0 := [4, 3, 2, 1, 0]) (cs := [_, _, _, _, _]) Z Z Z Z Z Z (Zd (ds0 := [3, 2, 1, 0]) (Qbz) Z Z (.inl Z) Z Z (Q3 Z Z (QL Z Z (Q3 Z Z (Y5 (ds0 := []) Z Z Z Z Z Z Z Z Z Z (hK _ _ (Qb (kp1 Z) ?_)))))))))
   refine Qt (Qi (Post.eq (ZA (ds := [.sl _, .sl _]) (cs := [_, _]) Z Z Z Z Z) ?_))
   simp [Xd, Qhc, ZQ, Qd6, dCu, h1, h2]
  ·try rw [h2]
   try simp only [qB] at h2
   refine Qu (Qd (kp2 Z Z) (Qe fun K hK => QX (ds0 := [6, 3, 2, 1, 0]) (cs := [_, _, _, _, _]) Z Z Z Z Z Z (Zd (ds0 := [3, 2, 1, 0]) (Qcm) Z Z (.inl Z) Z Z (QX (ds0 := [4, 3, 2, 1, 0]) (cs := [_, _, _, _, _]) Z Z Z Z Z Z (Zd (ds0 := [3, 2, 1, 0]) (QbA) Z Z (.inl Z) Z Z (Q3 Z Z (QL Z Z (Q3 Z Z (Y5 (ds0 := []) Z Z Z Z Z Z Z Z Z Z (hK _ _ (Qb (kp1 Z) ?_)))))))))))
   refine Qt (Post.eq (ZA (ds := [.sl _, .sl _]) (cs := [_, _]) Z Z Z Z Z) ?_)
   subst h2
   simp [Xd, Qhc, ZQ, Qd6, dCu, h1]
end Go.Proofs
namespace Go.Proofs
open Go Go.Abs M3 M25
set_option linter.unusedVariables false
set_option linter.unusedSimpArgs false
theorem Ya {l : List (Cu × Cu)} (hl : Sm l) : Ok Try.prog 102 [ZQ l] (.bool (QfH l)) := by
 refine Ok.ofT Z2 Try.func102 QpD (Nat.le_of_ble_eq_true Z) ?_
 show TW _ _ tf102.body _ _
 have hn := hl.1
 refine Qe fun K hK => Qa Z (hK _ _ (Qb (kp1 Z) ?_))
 refine QE ?_ -- 0
 refine Qe fun K hK => Qa Z (hK _ _ (Qb (kp2 Z Z) ?_))
 refine QG ?_
 refine ZL (ι := Nat) (fun i => ⟨[(0, ZQ l), (3, .int .i64 i)], []⟩) (fun i => i <= l.length /\ (List.range i).all (Qoc l) = true) (fun i => l.length - i) 0 ?_ ?_ ?_
 ·exact QU (kp2 rfl rfl)
 ·exact ⟨Nat.zero_le _, rfl⟩
 intro i hI
 try dsimp only
 refine QE ?_ -- 1
 refine Qe fun K hK => Qa Z (Qa Z (QY Z Z (Yx Z Z (hK _ _ (Qb (kp3 Z Z Z) ?_)))))
 refine Qy Z (fun h1 => ?_) (fun h1 => ?_)
 ·try rw [h1]
  try simp only [qA] at h1
  refine Qu (Qd (kp2 Z Z) ?_)
  refine QE ?_ -- 2
  refine QG (Qe fun K hK => Qa Z (Qa Z (QN Z Z Z (by omega) (Zf (by omega)) Z (QX (ds0 := [20, 19, 18, 17, 16, 15, 14, 13, 12, 11, 10, 9, 8, 7, 6, 5, 4, 3, 2, 1, 0]) (cs := [_, _, _, _, _, _, _, _, _, _, _, _, _, _]) Z Z Z Z Z Z (Zd (ds0 := [19, 18, 17, 16, 15, 14, 13, 12, 11, 10, 9, 8, 7, 6, 5, 4, 3, 2, 1, 0]) (Xt (hl.at (i := i) (by omega)).1.1 (hl.at (i := i) (by omega)).1.2 (hl.at (i := i) (by omega)).2.1 (hl.at (i := i) (by omega)).2.2) Z Z (.inr Z) Z Z (Yl Z (Qa Z ?_)))))))
  refine QB (g := 16) Z (fun h2 => ?_) (fun h2 => ?_)
  ·try rw [h2]
   try simp only [qA] at h2
   refine QA Z (QA Z (QA Z (Q0 Z (Q0 Z (Q0 Z (Q0 Z (Q0 Z (Q0 Z (Q0 Z (Q0 Z (Q0 Z ?_)))))))))))
   refine Q0 Z (Q0 Z (Q0 Z (Q0 Z (QA Z (Qn Z Z (hK _ _ (Qb (kp3 Z Z Z) ?_)))))))
   refine ZG Z (Qe fun K hK => Qa Z (hK _ _ (Qb (kp1 Z) ?_)))
   refine Qt (Qq (Qi (Q1 (Qq (Qi (Qp Z ?_))))))
   first
    | exact (QgX hI.2 (by omega)).symm
    | exact (Qbi (i := i) (by omega) (Qf9 (by omega) (.inl h2))).symm
    | (simp only [Qdp] at *; exact (Qbi (i := i) (by omega) (Qf9 (by omega) (.inr ⟨by omega, h4⟩))).symm)
  ·try rw [h2]
   try simp only [qA] at h2
   refine Ql Z (Qa Z (Ql Z (Qcp Z Z (Ql Z (Qa Z ?_)))))
   refine QB (g := 19) Z (fun h3 => ?_) (fun h3 => ?_)
   ·try rw [h3]
    try simp only [qA] at h3
    refine Ql Z (Qa Z (Ql Z (Qa Z (Ql Z (QcQ Z Z (by first | exact Qr (by omega) (by omega) | rfl) (Ql Z (QN Z Z Z (by omega) (Xk (by omega) (by omega)) Z (Ql Z (Yo Z Z (Ql Z (QX (ds0 := [3, 2, 1, 0]) (cs := [_, _, _, _, _, _, _]) Z Z Z Z Z Z ?_)))))))))))
    refine Ql Z (Qa Z (Ql Z (Qa Z (Ql Z (QN Z Z Z (by omega) (Zf (by omega)) Z (Ql Z (Yo Z Z (Ql Z (QX (ds0 := [3, 2, 1, 0]) (cs := [_, _, _, _, _, _, _]) Z Z Z Z Z Z (Ql Z (Zd (ds0 := [2, 1, 0]) (Zv (hl.at (i := ((i : Int) - 1).toNat) (by omega)).2.1 (hl.at (i := ((i : Int) - 1).toNat) (by omega)).2.2 (hl.at (i := i) (by omega)).1.1 (hl.at (i := i) (by omega)).1.2) Z Z (.inr Z) Z Z ?_)))))))))))
    refine Ql Z (Qke Z Z (Ql Z (Qn Z Z (Qn Z Z (hK _ _ (Qb (kp3 Z Z Z) ?_))))))
    refine Qy Z (fun h4 => ?_) (fun h4 => ?_)
    ·try rw [h4]
     try simp only [qA] at h4
     refine Qe fun K hK => Qa Z (hK _ _ (Qb (kp1 Z) ?_))
     refine Qt (Qq (Qi (Q1 (Qq (Qi (Qp Z ?_))))))
     first
      | exact (QgX hI.2 (by omega)).symm
      | exact (Qbi (i := i) (by omega) (Qf9 (by omega) (.inl h2))).symm
      | (simp only [Qdp] at *; exact (Qbi (i := i) (by omega) (Qf9 (by omega) (.inr ⟨by omega, h4⟩))).symm)
    ·try rw [h4]
     try simp only [qA] at h4
     refine Qu (Qg (Qd (kp2 Z Z) (Q4 fun K hK => Qa Z (Zc Z Z (by first | exact Qr (by omega) (by omega) | rfl) (Qa Z (hK _ ?_))))))
     refine Qj (i + 1) ?_ ?_ ?_
     ·exact QU (kp2 rfl rfl)
     ·exact ⟨by omega, Qeo hI.2 (QmP (by omega) h2 (by first | exact .inl (by omega) | (simp only [Qdp] at *; exact .inr (Int.not_le.1 h4))))⟩
     ·first | omega | (simp only; omega) | (dsimp only; omega)
   ·try rw [h3]
    try simp only [qA] at h3
    refine QA Z (QA Z (QA Z (QA Z (QA Z (QA Z (QA Z (QA Z (QA Z (QA Z (QA Z (QA Z ?_)))))))))))
    refine QA Z (Ql Z (Qn Z Z (Qn Z Z (hK _ _ (Qb (kp3 Z Z Z) ?_)))))
    refine Zy Z (Qu (Qg (Qd (kp2 Z Z) (Q4 fun K hK => Qa Z (Zc Z Z (by first | exact Qr (by omega) (by omega) | rfl) (Qa Z (hK _ ?_)))))))
    refine Qj (i + 1) ?_ ?_ ?_
    ·exact QU (kp2 rfl rfl)
    ·exact ⟨by omega, Qeo hI.2 (QmP (by omega) h2 (by first | exact .inl (by omega) | (simp only [Qdp] at *; exact .inr (Int.not_le.1 h4))))⟩
    ·first | omega | (simp only; omega) | (dsimp only; omega)
 ·try rw [h1]
  try simp only [qA] at h1
  refine Zk (QI (Qw (QD (Qd (QP) (Qe fun K hK => Qa Z (hK _ _ (Qb (kp1 Z) ?_)))))))
  refine Qt (Qp Z ?_)
  first
   | exact (QgX hI.2 (by omega)).symm
   | exact (Qbi (i := i) (by omega) (Qf9 (by omega) (.inl h2))).symm
   | (simp only [Qdp] at *; exact (Qbi (i := i) (by omega) (Qf9 (by omega) (.inr ⟨by omega, h4⟩))).symm)
theorem QaM {l : List (Cu × Cu)} (hl : Sm l) {x y : Cu} (hx : Cu.sm x) (hy : Cu.sm y) : Ok Try.prog 106 [ZQ l, .agg (dCu x), .agg (dCu y)] (.bool (mIn l x y)) := by
 refine Ok.ofT Z2 Try.func106 QpH (Nat.le_of_ble_eq_true Z) ?_
 show TW _ _ tf106.body _ _
 have hn := hl.1
 refine Qe fun K hK => ZK Z Z Z (ZK Z Z Z (Qa Z (hK _ _ (Qb (kp3 Z Z Z) ?_))))
 refine QE ?_ -- 0
 refine Qe fun K hK => Qa Z (hK _ _ (Qb (kp4 Z Z Z Z) ?_))
 refine QG ?_
 refine ZL (ι := Nat) (fun i => ⟨[(0, ZQ l), (4, .ref 4 0 0), (5, .ref 5 0 0), (7, .int .i64 i)], [(4, ⟨[dCu x], 7, 96, true⟩), (5, ⟨[dCu y], 7, 96, true⟩)]⟩) (fun i => i <= l.length /\ (l.take i).any (inC x y) = false) (fun i => l.length - i) 0 ?_ ?_ ?_
 ·exact Zg (l := [0, 4, 5, 7]) (lH := [4, 5]) (kp4 rfl rfl rfl rfl) (Qf rfl (Qf rfl Qs)) rfl rfl rfl
 ·exact ⟨Nat.zero_le _, by simp⟩
 intro i hI
 try dsimp only
 refine QE ?_ -- 1
 refine Qe fun K hK => Qa Z (Qa Z (QY Z Z (Yx Z Z (hK _ _ (Qb (kp5 Z Z Z Z Z) ?_)))))
 refine Qy Z (fun h1 => ?_) (fun h1 => ?_)
 ·try rw [h1]
  try simp only [qA] at h1
  refine Qu (Qd (kp4 Z Z Z Z) ?_)
  refine QE ?_ -- 2
  refine QG (Qe fun K hK => Qa Z (Qa Z (QN Z Z Z (by omega) (Zf (by omega)) Z (Yo Z Z (QX (ds0 := [11, 10, 9, 8, 7, 6, 5, 4, 3, 2, 1, 0]) (cs := [_, _, _, _, _, _, _]) Z Z Z Z Z Z (QX (ds0 := [11, 10, 9, 8, 7, 6, 5, 4, 3, 2, 1, 0]) (cs := [_, _, _, _, _, _, _]) Z Z Z Z Z Z (Zd (ds0 := [10, 9, 8, 7, 6, 5, 4, 3, 2, 1, 0]) (Zv (hl.at (i := i) (by omega)).1.1 (hl.at (i := i) (by omega)).1.2 hx.1 hx.2) Z Z (.inr Z) Z Z (QlK Z Z (Qa Z ?_)))))))))
  refine QB (g := 22) Z (fun h2 => ?_) (fun h2 => ?_)
  ·try rw [h2]
   try simp only [qA] at h2
   refine Ql Z (QX (ds0 := [2, 1, 0]) (cs := [_, _, _, _, _, _, _]) Z Z Z Z Z Z (Ql Z (Qa Z (Ql Z (Qa Z (Ql Z (QN Z Z Z (by omega) (Zf (by omega)) Z (Ql Z (Yo Z Z (Ql Z (QX (ds0 := [2, 1, 0]) (cs := [_, _, _, _, _, _, _]) Z Z Z Z Z Z ?_)))))))))))
   refine Ql Z (Zd (ds0 := [1, 0]) (Zv hy.1 hy.2 (hl.at (i := i) (by omega)).2.1 (hl.at (i := i) (by omega)).2.2) Z Z (.inr Z) Z Z (Ql Z (QlK Z Z (Qn Z Z (hK _ _ (Qb (kp5 Z Z Z Z Z) ?_))))))
   refine Qy Z (fun h3 => ?_) (fun h3 => ?_)
   ·try rw [h3]
    try simp only [qA] at h3
    refine Qe fun K hK => Qa Z (hK _ _ (Qb (kp1 Z) ?_))
    refine Qt (Qq (Qi (Q1 (Qq (Qi (Qp Z ?_))))))
    first
     | exact (QmB (i := i) (by omega) hI.2).symm
     | exact (Qip (i := i) (by omega) (QoK h2 h3)).symm
   ·try rw [h3]
    try simp only [qA] at h3
    refine Qu (Qg (Qd (kp4 Z Z Z Z) (Q4 fun K hK => Qa Z (Zc Z Z (by first | exact Qr (by omega) (by omega) | rfl) (Qa Z (hK _ ?_))))))
    refine Qj (i + 1) ?_ ?_ ?_
    ·exact Zg (l := [0, 4, 5, 7]) (lH := [4, 5]) (kp4 rfl rfl rfl rfl) (Qf rfl (Qf rfl Qs)) rfl rfl rfl
    ·exact ⟨by omega, QeA (by omega) hI.2 (QoJ (by first | exact .inl h2 | exact .inr h3))⟩
    ·first | omega | (simp only; omega) | (dsimp only; omega)
  ·try rw [h2]
   try simp only [qA] at h2
   refine QA Z (QA Z (QA Z (QA Z (QA Z (QA Z (QA Z (QA Z (Qn Z Z (hK _ _ (Qb (kp5 Z Z Z Z Z) ?_))))))))))
   refine Zy Z (Qu (Qg (Qd (kp4 Z Z Z Z) (Q4 fun K hK => Qa Z (Zc Z Z (by first | exact Qr (by omega) (by omega) | rfl) (Qa Z (hK _ ?_)))))))
   refine Qj (i + 1) ?_ ?_ ?_
   ·exact Zg (l := [0, 4, 5, 7]) (lH := [4, 5]) (kp4 rfl rfl rfl rfl) (Qf rfl (Qf rfl Qs)) rfl rfl rfl
   ·exact ⟨by omega, QeA (by omega) hI.2 (QoJ (by first | exact .inl h2 | exact .inr h3))⟩
   ·first | omega | (simp only; omega) | (dsimp only; omega)
 ·try rw [h1]
  try simp only [qA] at h1
  refine Zk (QI (Qw (QD (Qd (QP) (Qe fun K hK => Qa Z (hK _ _ (Qb (kp1 Z) ?_)))))))
  refine Qt (Qp Z ?_)
  first
   | exact (QmB (i := i) (by omega) hI.2).symm
   | exact (Qip (i := i) (by omega) (QoK h2 h3)).symm
end Go.Proofs
namespace Go.Proofs
open Go Go.Abs M3 M25
set_option linter.unusedVariables false
set_option linter.unusedSimpArgs false
theorem Xi {s : List (Cu × Cu) × List (Cu × Cu)} (h1s : Sm s.1) (h2s : Sm s.2) : Ok Try.prog 96 [Qhc s] (.bool (QfI s)) := by
 refine Ok.ofT Z2 Try.func96 Qrh (Nat.le_of_ble_eq_true Z) ?_
 show TW _ _ tf96.body _ _
 have hn := h1s.1
 refine Qe fun K hK => ZK Z Z Z (Qa Z (hK _ _ (Qb (kp1 Z) ?_)))
 refine QE ?_ -- 0
 refine Qe fun K hK => Qm Z Z (QF Z Z Z (QC (Ya h1s) Z Z (.inr Z) (Yl Z (Qa Z ?_))))
 refine QB (g := 8) Z (fun h1 => ?_) (fun h1 => ?_)
 ·try rw [h1]
  try simp only [qA] at h1
  refine QA Z (QA Z (QA Z (QA Z (Qn Z Z (hK _ _ (Qb (kp2 Z Z) ?_))))))
  refine ZG Z (Qe fun K hK => Qa Z (hK _ _ (Qb (kp1 Z) ?_)))
  refine Qt (Qi (Qp Z ?_))
  first
   | exact (Qdl (i := i) h1 h2 (by omega) hI.2).symm
   | exact (QaE (i := i) (by omega) (.inl h4)).symm
   | exact (QaE (i := i) (by omega) (.inr h5)).symm
   | exact (QaF (.inl h1)).symm
   | exact (QaF (.inr h2)).symm
 ·try rw [h1]
  try simp only [qA] at h1
  refine Ql Z (Qm Z Z (Ql Z (QF Z Z Z (Ql Z (QC (Ya h2s) Z Z (.inr Z) (Ql Z (Yl Z (Qn Z Z (hK _ _ (Qb (kp2 Z Z) ?_))))))))))
  refine Qy Z (fun h2 => ?_) (fun h2 => ?_)
  ·try rw [h2]
   try simp only [qA] at h2
   refine Qe fun K hK => Qa Z (hK _ _ (Qb (kp1 Z) ?_))
   refine Qt (Qi (Qp Z ?_))
   first
    | exact (Qdl (i := i) h1 h2 (by omega) hI.2).symm
    | exact (QaE (i := i) (by omega) (.inl h4)).symm
    | exact (QaE (i := i) (by omega) (.inr h5)).symm
    | exact (QaF (.inl h1)).symm
    | exact (QaF (.inr h2)).symm
  ·try rw [h2]
   try simp only [qA] at h2
   refine Qu (Qd (kp1 Z) ?_)
   refine QE ?_ -- 1
   refine Qe fun K hK => Qa Z (hK _ _ (Qb (kp2 Z Z) ?_))
   refine QG ?_
   refine ZL (ι := Nat) (fun i => ⟨[(1, .ref 1 0 0), (3, .int .i64 i)], [(1, ⟨[[ZQ s.1, ZQ s.2]], 2, 74, true⟩)]⟩) (fun i => i <= s.1.length /\ (s.1.take i).all (fun x => Qbp x.1 && Qbp x.2) = true) (fun i => s.1.length - i) 0 ?_ ?_ ?_
   ·exact Zg (l := [1, 3]) (lH := [1]) (kp2 rfl rfl) (Qf rfl Qs) rfl rfl rfl
   ·exact ⟨Nat.zero_le _, by simp⟩
   intro i hI
   try dsimp only
   refine QE ?_ -- 2
   refine Qe fun K hK => Qa Z (Qm Z Z (QF Z Z Z (QY Z Z (Yx Z Z (hK _ _ (Qb (kp3 Z Z Z) ?_))))))
   refine Qy Z (fun h3 => ?_) (fun h3 => ?_)
   ·try rw [h3]
    try simp only [qA] at h3
    refine Qu (Qd (kp2 Z Z) ?_)
    refine QE ?_ -- 3
    refine QG (Qe fun K hK => Qm Z Z (QF Z Z Z (Qa Z (QN Z Z Z (by omega) (Zf (by omega)) Z (Yo Z Z (QM (cs := [_, _, _, _, _, _, _]) Z Z Z Z (QC (XR) Z Z (.inr Z) (Yl Z (Qa Z ?_)))))))))
    refine QB (g := 29) Z (fun h4 => ?_) (fun h4 => ?_)
    ·try rw [h4]
     try simp only [qA] at h4
     refine QA Z (QA Z (QA Z (QA Z (QA Z (QA Z (QA Z (QA Z (Qn Z Z (hK _ _ (Qb (kp3 Z Z Z) ?_))))))))))
     refine ZG Z (Qe fun K hK => Qa Z (hK _ _ (Qb (kp1 Z) ?_)))
     refine Qt (Qq (Qi (Q1 (Qq (Qi (Qp Z ?_))))))
     first
      | exact (Qdl (i := i) h1 h2 (by omega) hI.2).symm
      | exact (QaE (i := i) (by omega) (.inl h4)).symm
      | exact (QaE (i := i) (by omega) (.inr h5)).symm
      | exact (QaF (.inl h1)).symm
      | exact (QaF (.inr h2)).symm
    ·try rw [h4]
     try simp only [qA] at h4
     refine Ql Z (Qm Z Z (Ql Z (QF Z Z Z (Ql Z (Qa Z (Ql Z (QN Z Z Z (by omega) (Zf (by omega)) Z (Ql Z (Yo Z Z (Ql Z (QM (cs := [_, _, _, _, _, _, _]) Z Z Z Z ?_)))))))))))
     refine Ql Z (QC (XR) Z Z (.inr Z) (Ql Z (Yl Z (Qn Z Z (hK _ _ (Qb (kp3 Z Z Z) ?_))))))
     refine Qy Z (fun h5 => ?_) (fun h5 => ?_)
     ·try rw [h5]
      try simp only [qA] at h5
      refine Qe fun K hK => Qa Z (hK _ _ (Qb (kp1 Z) ?_))
      refine Qt (Qq (Qi (Q1 (Qq (Qi (Qp Z ?_))))))
      first
       | exact (Qdl (i := i) h1 h2 (by omega) hI.2).symm
       | exact (QaE (i := i) (by omega) (.inl h4)).symm
       | exact (QaE (i := i) (by omega) (.inr h5)).symm
       | exact (QaF (.inl h1)).symm
       | exact (QaF (.inr h2)).symm
     ·try rw [h5]
      try simp only [qA] at h5
      refine Qu (Qg (Qd (kp2 Z Z) (Q4 fun K hK => Qa Z (Zc Z Z (by first | exact Qr (by omega) (by omega) | rfl) (Qa Z (hK _ ?_))))))
      refine Qj (i + 1) ?_ ?_ ?_
      ·exact Zg (l := [1, 3]) (lH := [1]) (kp2 rfl rfl) (Qf rfl Qs) rfl rfl rfl
      ·exact ⟨by omega, Zh (by omega) hI.2 (by rw [show Qbp s.1[i].1 = true from h4, show Qbp s.1[i].2 = true from h5]; rfl)⟩
      ·first | omega | (simp only; omega) | (dsimp only; omega)
   ·try rw [h3]
    try simp only [qA] at h3
    refine Zk (QI (Qw (QD (Qd (QP) (Qe fun K hK => Qa Z (hK _ _ (Qb (kp1 Z) ?_)))))))
    refine Qt (Qp Z ?_)
    first
     | exact (Qdl (i := i) h1 h2 (by omega) hI.2).symm
     | exact (QaE (i := i) (by omega) (.inl h4)).symm
     | exact (QaE (i := i) (by omega) (.inr h5)).symm
     | exact (QaF (.inl h1)).symm
     | exact (QaF (.inr h2)).symm
end Go.Proofs
namespace Go.Proofs
open Go Go.Abs M3 M25
set_option linter.unusedVariables false
set_option linter.unusedSimpArgs false
theorem Qap {l : List Cu} {c : Cu} (hl : l.length <= 3000000) (hs : ∀ x ∈ l, Cu.sm x) (hc : Cu.sm c) : Ok Try.prog 110 [Qgt l, .agg (dCu c)] (Qgt (QbP l c)) := by
 refine Ok.ofT Z2 Try.func110 QpL (Nat.le_of_ble_eq_true Z) ?_
 show TW _ _ tf110.body _ _
 refine Qe fun K hK => ZK Z Z Z (Qa Z (hK _ _ (Qb (kp2 Z Z) ?_)))
 refine Qe fun K hK => Qa Z (hK _ _ (Qb (kp3 Z Z Z) ?_))
 refine QE ?_ -- 0
 refine QG ?_
 refine ZL (ι := Nat) (fun k => ⟨[(0, Qgt l), (3, .ref 3 0 0), (5, .int .i64 k)], [(3, ⟨[dCu c], 7, 96, true⟩)]⟩) (fun k => k <= l.length /\ QbP l c = l.take k ++ QbP (l.drop k) c) (fun k => l.length - k) 0 ?_ ?_ ?_
 ·exact Zg (l := [0, 3, 5]) (lH := [3]) (kp3 rfl rfl rfl) (Qf rfl Qs) rfl rfl rfl
 ·exact ⟨Nat.zero_le _, by simp⟩
 intro k hI
 try dsimp only
 refine QE ?_ -- 1
 refine Qe fun K hK => Qa Z (Qa Z (QY Z Z (Yx Z Z (Qa Z ?_))))
 refine QB (g := 10) Z (fun h1 => ?_) (fun h1 => ?_)
 ·try rw [h1]
  try simp only [qA] at h1
  refine Ql Z (Qa Z (Ql Z (Qa Z (Ql Z (QN Z Z Z (by omega) (Zf (by omega)) Z (Ql Z (QX (ds0 := [2, 1, 0]) (cs := [_, _, _, _, _, _, _]) Z Z Z Z Z Z (Ql Z (QX (ds0 := [2, 1, 0]) (cs := [_, _, _, _, _, _, _]) Z Z Z Z Z Z (Ql Z (Zd (ds0 := [1, 0]) (Zv (hs _ (List.getElem_mem (by omega))).1 (hs _ (List.getElem_mem (by omega))).2 hc.1 hc.2) Z Z (.inr Z) Z Z ?_)))))))))))
  refine Ql Z (Yx Z Z (Qn Z Z (hK _ _ (Qb (kp4 Z Z Z Z) ?_))))
  refine Qy Z (fun h2 => ?_) (fun h2 => ?_)
  ·try rw [h2]
   try simp only [qA] at h2
   refine Qu (Qd (kp3 Z Z Z) (QG (Q4 fun K hK => Qa Z (Zc Z Z (by first | exact Qr (by omega) (by omega) | rfl) (Qa Z (hK _ ?_))))))
   refine Qg ?_
   refine Qj (k + 1) ?_ ?_ ?_
   ·exact Zg (l := [0, 3, 5]) (lH := [3]) (kp3 rfl rfl rfl) (Qf rfl Qs) rfl rfl rfl
   ·exact ⟨by omega, Qk3 (by omega) h2 hI.2⟩
   ·first | omega | (simp only; omega) | (dsimp only; omega)
  ·try rw [h2]
   try simp only [qA] at h2
   refine Zk (QI (Qw (QD (Qd (kp3 Z Z Z) ?_))))
   refine QE ?_ -- 2
   refine Qe fun K hK => Qa Z (Qa Z (QY Z Z (Yx Z Z (Qa Z ?_))))
   refine QB (g := 25) Z (fun h3 => ?_) (fun h3 => ?_)
   ·try rw [h3]
    try simp only [qA] at h3
    refine Ql Z (Qa Z (Ql Z (Qa Z (Ql Z (QN Z Z Z (by omega) (Zf (by omega)) Z (Ql Z (QX (ds0 := [2, 1, 0]) (cs := [_, _, _, _, _, _, _]) Z Z Z Z Z Z (Ql Z (QX (ds0 := [2, 1, 0]) (cs := [_, _, _, _, _, _, _]) Z Z Z Z Z Z (Ql Z (Zd (ds0 := [1, 0]) (Zv (hs _ (List.getElem_mem (by omega))).1 (hs _ (List.getElem_mem (by omega))).2 hc.1 hc.2) Z Z (.inr Z) Z Z ?_)))))))))))
    refine Ql Z (YI Z Z (Qn Z Z (hK _ _ (Qb (kp4 Z Z Z Z) ?_))))
    refine Qy Z (fun h4 => ?_) (fun h4 => ?_)
    ·try rw [h4]
     try simp only [qA] at h4
     refine Qe fun K hK => Qa Z (Qa Z (hK _ _ (Qb (kp1 Z) ?_)))
     refine Qt (Qi (ZS Z ?_))
     rw [Qk2 (k := k) (by omega) (by assumption) hI.2]; rfl
    ·try rw [h4]
     try simp only [qA] at h4
     refine Qu (Qd (kp3 Z Z Z) (Qe fun K hK => Qa Z (Qa Z (Qew Z Z Z Z (by omega) (by omega) (by simp; omega) Qh8 Z (Qin (ds0 := [5, 1, 0]) Z Z (fun _ h => ⟨Qmn, h⟩) Z (.inl Z) (by simp) (by simp; omega) (by simp; omega) Z Z (QX (ds0 := [6, 5, 1, 0]) (cs := [_, _, _, _, _, _, _]) Z Z Z Z Z Z (QL Z Z (Qev (ds0 := [1, 0]) Z Z (by simp [D.ids, D.sid]) ⟨_, rfl, rfl, rfl, rfl, rfl⟩ Z Z (by simp) Z Z (by simp; omega) (by simp; omega) Z Z (Qa Z (Qa Z ?_))))))))))
     refine Qew Z Z Z Z (by omega) (by simp; omega) (by simp) Qh8 Z (Qev (ds0 := [0]) Z Z (by simp [D.ids, D.sid]) ⟨rfl, Qmn, rfl⟩ Z Z (by simp) Z Z (by simp; omega) (by simp; omega) Z Z (Qa Z (hK _ _ (Qb (kp1 Z) ?_))))
     refine Qt (ZS Z ?_)
     rw [QjB (k := k) (by first | exact .inl (by omega) | exact .inr ⟨by omega, by assumption, by assumption⟩) hI.2]; simp [Qai, D.fz, D.fzS, Qdz, lk, D.can, D.canS, Qgt, D.sid, (show ∀ a b : Nat, a + 1 + b = a + (b + 1) from fun a b => by omega), List.take_of_length_le (show (l.map dCu).length <= l.length by simp)] <;> rfl
   ·try rw [h3]
    try simp only [qA] at h3
    exact absurd h1 h3
 ·try rw [h1]
  try simp only [qA] at h1
  refine QA Z (QA Z (QA Z (QA Z (QA Z (QA Z (QA Z (Qn Z Z (hK _ _ (Qb (kp4 Z Z Z Z) ?_)))))))))
  refine Zy Z (Zk (QI (Qw (QD (Qd (kp3 Z Z Z) ?_)))))
  refine QE ?_ -- 2
  refine Qe fun K hK => Qa Z (Qa Z (QY Z Z (Yx Z Z (Qa Z ?_))))
  refine QB (g := 25) Z (fun h5 => ?_) (fun h5 => ?_)
  ·try rw [h5]
   try simp only [qA] at h5
   exact absurd h5 h1
  ·try rw [h5]
   try simp only [qA] at h5
   refine QA Z (QA Z (QA Z (QA Z (QA Z (QA Z (QA Z (Qn Z Z (hK _ _ (Qb (kp4 Z Z Z Z) ?_)))))))))
   refine Zy Z (Qu (Qd (kp3 Z Z Z) (Qe fun K hK => Qa Z (Qa Z (Qew Z Z Z Z (by omega) (by omega) (by simp; omega) Qh8 Z (Qin (ds0 := [5, 1, 0]) Z Z (fun _ h => ⟨Qmn, h⟩) Z (.inl Z) (by simp) (by simp; omega) (by simp; omega) Z Z (QX (ds0 := [6, 5, 1, 0]) (cs := [_, _, _, _, _, _, _]) Z Z Z Z Z Z (QL Z Z (Qev (ds0 := [1, 0]) Z Z (by simp [D.ids, D.sid]) ⟨_, rfl, rfl, rfl, rfl, rfl⟩ Z Z (by simp) Z Z (by simp; omega) (by simp; omega) Z Z (Qa Z ?_))))))))))
   refine Qa Z (Qew Z Z Z Z (by omega) (by simp; omega) (by simp) Qh8 Z (Qev (ds0 := [0]) Z Z (by simp [D.ids, D.sid]) ⟨rfl, Qmn, rfl⟩ Z Z (by simp) Z Z (by simp; omega) (by simp; omega) Z Z (Qa Z (hK _ _ (Qb (kp1 Z) ?_)))))
   refine Qt (ZS Z ?_)
   rw [QjB (k := k) (by first | exact .inl (by omega) | exact .inr ⟨by omega, by assumption, by assumption⟩) hI.2]; simp [Qai, D.fz, D.fzS, Qdz, lk, D.can, D.canS, Qgt, D.sid, (show ∀ a b : Nat, a + 1 + b = a + (b + 1) from fun a b => by omega), List.take_of_length_le (show (l.map dCu).length <= l.length by simp)] <;> rfl
theorem X9 {l : List (Cu × Cu)} (hl : Sm l) : Ok Try.prog 105 [ZQ l] (Qgt (YV l)) := by
 refine Ok.ofT Z2 Try.func105 QpG (Nat.le_of_ble_eq_true Z) ?_
 show TW _ _ tf105.body _ _
 have hn := hl.1
 refine Qe fun K hK => Qa Z (hK _ _ (Qb (kp1 Z) ?_))
 refine Qe fun K hK => QC (YZ) Z Z (.inl Z) (QC (Xb) Z Z (.inl Z) (QL Z Z (Qa Z (hK _ _ (Qb (kp2 Z Z) ?_)))))
 refine QE ?_ -- 0
 refine Qe fun K hK => Qa Z (hK _ _ (Qb (kp3 Z Z Z) ?_))
 refine QG ?_
 refine ZL (ι := Nat) (fun i => ⟨[(0, ZQ l), (3, Qgt (YV (l.take i))), (4, .int .i64 i)], []⟩) (fun i => i <= l.length) (fun i => l.length - i) 0 ?_ ?_ ?_
 ·exact le_trans (QkW 7 _ (by decide)) (Zg (l := [0, 3, 4]) (lH := []) (kp3 rfl rfl rfl) Qs rfl rfl rfl)
 ·exact Nat.zero_le _
 intro i hI
 try dsimp only
 refine QE ?_ -- 1
 refine Qe fun K hK => Qa Z (Qa Z (QY Z Z (Yx Z Z (hK _ _ (Qb (kp4 Z Z Z Z) ?_)))))
 refine Qy Z (fun h1 => ?_) (fun h1 => ?_)
 ·try rw [h1]
  try simp only [qA] at h1
  refine Qu (Qd (kp3 Z Z Z) ?_)
  refine QE ?_ -- 2
  refine QG (Q4 fun K hK => Qa Z (Qa Z (Qa Z (QN Z Z Z (by omega) (Zf (by omega)) Z (Yo Z Z (QX (ds0 := [7, 1, 0]) (cs := [_, _, _, _, _, _, _]) Z Z Z Z Z Z (Zd (ds0 := [1, 0]) (Qap (Nat.le_trans (Qei hl i).1 (by omega)) (Qei hl i).2 (hl.2 _ (List.getElem_mem (by omega))).1) Z Z (.inl Z) Z Z (Qa Z (Qa Z (QN Z Z Z (by omega) (Zf (by omega)) Z ?_))))))))))
  refine Yo Z Z (QX (ds0 := [1, 0]) (cs := [_, _, _, _, _, _, _]) Z Z Z Z Z Z (Zd (ds0 := [0]) (Qap (Nat.le_trans (Qej _ _) (by have := (Qei hl i).1; omega)) (QgO (Qei hl i).2 (hl.2 _ (List.getElem_mem (by omega))).1) (hl.2 _ (List.getElem_mem (by omega))).2) Z Z (.inl Z) Z Z (Qa Z (hK _ ?_))))
  refine Qg (Qd (kp3 Z Z Z) (Q4 fun K hK => Qa Z (Zc Z Z (by first | exact Qr (by omega) (by omega) | rfl) (Qa Z (hK _ ?_)))))
  refine Qj (i + 1) ?_ ?_ ?_
  ·exact Zg (l := [0, 3, 4]) (lH := []) (kp3 rfl rfl rfl) Qs (by rw [Ql9 (by omega)]; rfl) rfl rfl
  ·omega
  ·first | omega | (simp only; omega) | (dsimp only; omega)
 ·try rw [h1]
  try simp only [qA] at h1
  refine Zk (QI (Qw (QD (Qd (kp1 Z) (Qe fun K hK => Qa Z (Qa Z (hK _ _ (Qb (kp1 Z) ?_))))))))
  refine Qt (ZS Z ?_)
  rw [List.take_of_length_le (show l.length <= i by omega)]; rfl
end Go.Proofs
namespace Go.Proofs
open Go Go.Abs M3 M25
set_option linter.unusedVariables false
set_option linter.unusedSimpArgs false
theorem Qaa {l : List (Cu × Cu)} {x y : Cu} (hn : l.length <= 3000000) (hl : ∀ s ∈ l, Cu.sm s.1 /\ Cu.sm s.2) (hx : Cu.sm x) (hy : Cu.sm y) : OkH Try.prog 107 [.osl 500000 l.length, .agg (dCu x), .agg (dCu y)] [(500000, ⟨l.map Qd6, 14, 99, true⟩)] (.osl 500000 (QbO l x y).length) [(500000, ⟨(QbO l x y).map Qd6, 14, 99, true⟩)] := by
 refine OkH.mv Z2 Try.func107 QpI (Nat.le_of_ble_eq_true Z) Z ?_
 show TW _ _ tf107.body _ _
 refine Qe fun K hK => ZK Z Z Z (ZK Z Z Z (Qa Z (hK _ _ (Qb (kp3 Z Z Z) ?_))))
 refine QE ?_ -- 0
 refine Qe fun K hK => Qa Z (QY Z Z (QcQ Z Z (by first | exact Qr (by omega) (by omega) | rfl) (Qa Z (hK _ _ (Qb (kp4 Z Z Z Z) ?_)))))
 refine Qe fun K hK => Qa Z (Qke Z Z (Qa Z ?_))
 refine QB (g := 13) Z (fun h1 => ?_) (fun h1 => ?_)
 ·try rw [h1]
  try simp only [qA] at h1
  refine Ql Z (Qa Z (Ql Z (Qa Z (Ql Z (XC (ds0 := [5, 4, 2, 1, 0]) Z Z Z (by simp) (by omega) (by omega) Z Z Z (Ql Z (Qm Z Z (Ql Z (QX (ds0 := [2, 1, 0]) (cs := [_, _, _, _, _, _, _]) Z (Z5 Z (Xk (by omega) (by omega))) Z Z Z Z (Ql Z (QX (ds0 := [2, 1, 0]) (cs := [_, _, _, _, _, _, _]) Z Z Z Z Z Z ?_)))))))))))
  refine Ql Z (Zd (ds0 := [1, 0]) (Zv (hl _ (List.getElem_mem (by omega))).2.1 (hl _ (List.getElem_mem (by omega))).2.2 hx.1 hx.2) Z Z (.inr Z) Z Z (Ql Z (YI Z Z (Qn Z Z (hK _ _ (Qb (kp5 Z Z Z Z Z) ?_))))))
  refine Qy Z (fun h2 => ?_) (fun h2 => ?_)
  ·try rw [h2]
   try simp only [qA] at h2
   refine Qe fun K hK => Qa Z (Qa Z (QM (cs := [_, _, _, _, _, _, _]) Z Z Z Z (Y4 Z Z Z (by simp) (by omega) (by omega) Z (Qm Z Z (QS Z Z (Xk (by omega) (by omega)) Z Z Z Z Z (hK _ _ (Qb (kp1 Z) ?_)))))))
   refine Qe fun K hK => Qa Z (Qa Z (hK _ _ (Qb (kp1 Z) ?_)))
   refine Qt (Qi ?_)
   refine XI Z ?_ (QiS ?_)
   ·rw [QhS (i := ((l.length : Int) - 1).toNat) (by omega) h2]; simp [Qko, D.fz, D.fzS, Qfs, D.can, D.canS]
   ·rw [QhS (i := ((l.length : Int) - 1).toNat) (by omega) h2]; simp [lk, List.map_set, Qd6, dCu, setRow, D.sid]
  ·try rw [h2]
   try simp only [qA] at h2
   refine Qu (Qd (kp3 Z Z Z) (Qe fun K hK => Qa Z (QM (cs := [_, _, _, _, _, _, _]) Z Z Z Z (QM (cs := [_, _, _, _, _, _, _]) Z Z Z Z (Q3 Z Z (QL Z Z (QaK Z Z (fun _ h => Qau Z Z Z h) Z (by simp) Z Z Z (by simp; omega) (by simp; omega) (Qa Z (hK _ _ (Qb (kp1 Z) ?_))))))))))
   refine Qt ?_
   refine XI Z ?_ (QiS ?_)
   ·rw [Qdi (.inr ⟨((l.length : Int) - 1).toNat, by omega, h2⟩)]; simp [Qko, D.fz, D.fzS, Qfs, D.can, D.canS]
   ·rw [Qdi (.inr ⟨((l.length : Int) - 1).toNat, by omega, h2⟩)]; simp [lk, Qd6, dCu, D.sid]
 ·try rw [h1]
  try simp only [qA] at h1
  refine QA Z (QA Z (QA Z (QA Z (QA Z (QA Z (QA Z (QA Z (Qn Z Z (hK _ _ (Qb (kp5 Z Z Z Z Z) ?_))))))))))
  refine Zy Z (Qu (Qd (kp3 Z Z Z) (Qe fun K hK => Qa Z (QM (cs := [_, _, _, _, _, _, _]) Z Z Z Z (QM (cs := [_, _, _, _, _, _, _]) Z Z Z Z (Q3 Z Z (QL Z Z (QaK Z Z (fun _ h => Qau Z Z Z h) Z (by simp) Z Z Z (by simp; omega) (by simp; omega) (Qa Z (hK _ _ (Qb (kp1 Z) ?_)))))))))))
  refine Qt ?_
  have h0 : l = [] := List.eq_nil_of_length_eq_zero (by omega)
  refine XI Z ?_ (QiS ?_)
  ·rw [Qdi (.inl h0)]; simp [Qko, D.fz, D.fzS, Qfs, D.can, D.canS]
  ·rw [Qdi (.inl h0)]; simp [lk, Qd6, dCu, D.sid]
end Go.Proofs
namespace Go.Proofs
open Go Go.Abs M3 M25
set_option linter.unusedVariables false
set_option linter.unusedSimpArgs false
theorem QcF {l : List (Cu × Cu)} (hl : Sm l) : Ok Try.prog 104 [ZQ l] (.tup [ZQ (QiG l), .bool (l.all Qdj)]) := by
  refine Ok.ofT Z2 Try.func104 QpF (Nat.le_of_ble_eq_true Z) ?_
  show TW _ _ tf104.body _ _
  have hn := hl.1
  have hc1 := QbL l
  refine Qe fun K hK => Qa Z (Qa Z (hK _ _ (Qb (kp1 Z) ?_)))
  refine QE ?_ -- 0
  refine Qe fun K hK => Qa Z (hK _ _ (Qb (kp2 Z Z) ?_))
  refine QG ?_
  refine ZL (ι := Nat) (fun i => ⟨[(0, ZQ l), (4, .int .i64 i)], []⟩) (fun i => i <= l.length /\ (l.take i).all Qdj = true) (fun i => l.length - i) 0 ?_ ?_ ?_
  · exact QU (kp2 rfl rfl)
  · exact ⟨Nat.zero_le _, by simp⟩
  intro i hI
  try dsimp only
  refine QE ?_ -- 1
  refine Qe fun K hK => Qa Z (Qa Z (QY Z Z (Yx Z Z (hK _ _ (Qb (kp3 Z Z Z) ?_)))))
  refine Qy Z (fun h1 => ?_) (fun h1 => ?_)
  · try rw [h1]
    try simp only [qA] at h1
    refine Qu (Qd (kp2 Z Z) ?_)
    refine QE ?_ -- 2
    refine QG (Qe fun K hK => Qa Z (Qa Z (QN Z Z Z (by omega) (Zf (by omega)) Z (QM (cs := [_, _, _, _, _, _, _, _, _, _, _, _, _, _]) Z Z Z Z (QC (Xt (hl.at (i := i) (by omega)).1.1 (hl.at (i := i) (by omega)).1.2 (hl.at (i := i) (by omega)).2.1 (hl.at (i := i) (by omega)).2.2) Z Z (.inr Z) (Yl Z (hK _ _ (Qb (kp3 Z Z Z) ?_))))))))
    refine Qy Z (fun h2 => ?_) (fun h2 => ?_)
    · try rw [h2]
      try simp only [qA] at h2
      refine Qe fun K hK => Qa Z (Qa Z (hK _ _ (Qb (kp2 Z Z) ?_)))
      refine Qt (Qq (Qi (Q1 (Qq (Qi ?_)))))
      first
        | exact ZT rfl rfl ⟨by rw [QiG, if_neg (by rw [Yh (i := i) (by omega) (by assumption)]; simp)]; rfl, by rw [Yh (i := i) (by omega) (by assumption)]; rfl⟩
        | (have ha : l.all Qdj = true := Xa (by omega) hI.2
           exact ZT rfl rfl ⟨by rw [QiG, if_pos ha, hI2.done (by omega)]; simp [Qai, D.fz, D.fzS, Qdz, lk, D.can, D.canS, ZQ], by rw [ha]; rfl⟩)
    · try rw [h2]
      try simp only [qA] at h2
      refine Qu (Qg (Qd (kp2 Z Z) (Q4 fun K hK => Qa Z (Zc Z Z (by first | exact Qr (by omega) (by omega) | rfl) (Qa Z (hK _ ?_))))))
      refine Qj (i + 1) ?_ ?_ ?_
      · exact QU (kp2 rfl rfl)
      · exact ⟨by omega, Zh (by omega) hI.2 (by assumption)⟩
      · first | omega | (simp only; omega) | (dsimp only; omega)
  · try rw [h1]
    try simp only [qA] at h1
    refine Zk (QI (Qw (QD (Qd (kp1 Z) (Qe fun K hK => Qa Z (hK _ _ (Qb (kp2 Z Z) ?_)))))))
    refine Qe fun K hK => Qa Z (QC (X9 hl) Z Z (.inl Z) (Qa Z (hK _ _ (Qb (kp3 Z Z Z) ?_))))
    refine QE ?_ -- 3
    refine Qe fun K hK => Qa Z (hK _ _ (Qb (kp4 Z Z Z Z) ?_))
    refine QG ?_
    refine ZL (ι := Nat × List (Cu × Cu)) (fun ⟨i, out⟩ => ⟨[(0, ZQ l), (5, .osl 5 out.length), (6, Qgt (YV l)), (7, .int .i64 i)], [(5, ⟨out.map Qd6, 14, 99, true⟩)]⟩) (fun ⟨i, out⟩ => i <= (YV l).length /\ FillI (mIn l) (YV l) i out) (fun ⟨i, out⟩ => (YV l).length - i) (0, []) ?_ ?_ ?_
    · exact le_trans (XF 5 5 14 99 rfl rfl) (Zg (l := [0, 5, 6, 7]) (lH := [5]) (kp4 rfl rfl rfl rfl) (Qf rfl Qs) rfl rfl rfl)
    · exact ⟨Nat.zero_le _, FillI.zero⟩
    intro ⟨i, out⟩ hI
    obtain ⟨hI1, hI2⟩ := hI
    have hI3 := hI2.1
    try dsimp only
    refine QE ?_ -- 4
    refine Qe fun K hK => Qa Z (Zc Z Z (by first | exact Qr (by omega) (by omega) | rfl) (Qa Z (QY Z Z (Yx Z Z (hK _ _ (Qb (kp5 Z Z Z Z Z) ?_))))))
    refine Qy Z (fun h3 => ?_) (fun h3 => ?_)
    · try rw [h3]
      try simp only [qA] at h3
      refine Qu (Qd (kp4 Z Z Z Z) ?_)
      refine QE ?_ -- 5
      refine QG (Qe fun K hK => Qa Z (Qa Z (Qa Z (QN Z Z Z (by omega) (Zf (by omega)) Z (QX (ds0 := [0]) (cs := [_, _, _, _, _, _, _]) Z Z Z Z Z Z (Qa Z (Qa Z (Zc Z Z (by first | exact Qr (by omega) (by omega) | rfl) (QN Z Z Z (by omega) (Qjr (by omega)) Z (QX (ds0 := [0]) (cs := [_, _, _, _, _, _, _]) Z Z Z Z Z Z ?_))))))))))
      refine Zd (ds0 := []) (QaM hl (Yz hl _ (List.getElem_mem (by omega))) (Yz hl _ (List.getElem_mem (by omega)))) Z Z (.inr Z) Z Z (hK _ _ (Qb (kp5 Z Z Z Z Z) ?_))
      refine Qy Z (fun h4 => ?_) (fun h4 => ?_)
      · try rw [h4]
        try simp only [qA] at h4
        refine Q4 fun K hK => Qa rfl (Qa rfl (Qa rfl (QN rfl rfl rfl (by omega) (Zf (by omega)) rfl (QX (ds0 := [1, 0]) (cs := [_, _, _, _, _, _, _]) rfl rfl rfl rfl rfl rfl (Qa rfl (Qa rfl (Zc rfl rfl (by first | exact Qr (by omega) (by omega) | rfl) (QN rfl rfl rfl (by omega) (Qjr (by omega)) rfl (QX (ds0 := [1, 0]) (cs := [_, _, _, _, _, _, _]) rfl rfl rfl rfl rfl rfl (Qi3 (ds0 := [0]) (QmE (k := 5) rfl rfl rfl (by decide) rfl (by decide) (by simp [D.ids, D.sid, dCu]) ⟨.osl 5 out.length, by simp, by simp [D.ids, D.sid]⟩ rfl rfl (Qaa (by omega) hI2.2.1 (Yz hl _ (List.getElem_mem (by omega))) (Yz hl _ (List.getElem_mem (by omega))))) (fun _ h => by cases h) rfl rfl ?_))))))))))
        refine Qa Z (hK _ ?_)
        refine Qg (Qd (kp4 Z Z Z Z) (Q4 fun K hK => Qa Z (Zc Z Z (by first | exact Qr (by omega) (by omega) | rfl) (Qa Z (hK _ ?_)))))
        refine Qj (i + 1, QbO out (YV l)[i] (YV l)[i + 1]) ?_ ?_ ?_
        · exact le_trans (QkT (l := [0, 6, 7]) (t := 50) (u := 5) 5 (kp3 rfl rfl rfl) rfl rfl rfl rfl) (Zg (l := [0, 5, 6, 7]) (lH := [5]) (kp4 rfl rfl rfl rfl) (Qf rfl Qs) rfl rfl rfl)
        · exact ⟨by omega, hI2.take (Yz hl) (by omega) (by assumption)⟩
        · show (YV l).length - (i + 1) < (YV l).length - i; omega
      · try rw [h4]
        try simp only [qA] at h4
        refine Qu (Qg (Qd (kp4 Z Z Z Z) (Q4 fun K hK => Qa Z (Zc Z Z (by first | exact Qr (by omega) (by omega) | rfl) (Qa Z (hK _ ?_))))))
        refine Qj (i + 1, out) ?_ ?_ ?_
        · exact Zg (l := [0, 5, 6, 7]) (lH := [5]) (kp4 rfl rfl rfl rfl) (Qf rfl Qs) rfl rfl rfl
        · exact ⟨by omega, hI2.skip (by omega) (by assumption)⟩
        · show (YV l).length - (i + 1) < (YV l).length - i; omega
    · try rw [h3]
      try simp only [qA] at h3
      refine Zk (QI (Qw (QD (Qd (kp1 Z) (Qe fun K hK => Qa Z (Qa Z (Qa Z (hK _ _ (Qb (kp2 Z Z) ?_)))))))))
      refine Qt ?_
      first
        | exact ZT rfl rfl ⟨by rw [QiG, if_neg (by rw [Yh (i := i) (by omega) (by assumption)]; simp)]; rfl, by rw [Yh (i := i) (by omega) (by assumption)]; rfl⟩
        | (have ha : l.all Qdj = true := Xa (by omega) hI.2
           exact ZT rfl rfl ⟨by rw [QiG, if_pos ha, hI2.done (by omega)]; simp [Qai, D.fz, D.fzS, Qdz, lk, D.can, D.canS, ZQ], by rw [ha]; rfl⟩)
end Go.Proofs
namespace Go.Proofs
open Go Go.Abs M3 M25
set_option linter.unusedVariables false
set_option linter.unusedSimpArgs false
theorem QaL {a b : List (Cu × Cu)} (ha : Sm a) (hb : Sm b) (hab : a.length + b.length <= 1000000) : Ok Try.prog 97 [ZQ a, ZQ b] (ZQ (QmK a b)) := by
 refine Ok.ofT Z2 Try.func97 Qri (Nat.le_of_ble_eq_true Z) ?_
 show TW _ _ tf97.body _ _
 refine Qe fun K hK => Qa Z (hK _ _ (Qb (kp2 Z Z) ?_))
 refine QE ?_ -- 0
 refine Qe fun K hK => Qa Z (QC (Ya ha) Z Z (.inr Z) (Yl Z (Qa Z ?_)))
 refine QB (g := 10) Z (fun h1 => ?_) (fun h1 => ?_)
 ·try rw [h1]
  try simp only [qB] at h1
  refine QA Z (QA Z (QA Z (Qn Z Z (hK _ _ (Qb (kp3 Z Z Z) ?_)))))
  refine ZG Z (Qe fun K hK => Qa Z (hK _ _ (Qb (kp1 Z) ?_)))
  refine Qt (Qi (ZS Z ?_))
  rw [QmK, if_neg (by simp [h1])]; rfl
 ·try rw [h1]
  try simp only [qB] at h1
  refine Ql Z (Qa Z (Ql Z (QC (Ya hb) Z Z (.inr Z) (Ql Z (Yl Z (Qn Z Z (hK _ _ (Qb (kp3 Z Z Z) ?_))))))))
  refine Qy Z (fun h2 => ?_) (fun h2 => ?_)
  ·try rw [h2]
   try simp only [qB] at h2
   refine Qe fun K hK => Qa Z (hK _ _ (Qb (kp1 Z) ?_))
   refine Qt (Qi (ZS Z ?_))
   rw [QmK, if_neg (by simp [h1, h2])]; rfl
  ·try rw [h2]
   try simp only [qB] at h2
   refine Qu (Qd (kp2 Z Z) (Qe fun K hK => Qa Z (Qom Z Z (fun _ h => QmY QmS h) Z (.inl Z) (by simp) (by simp; omega) (by simp; omega) (Qa Z (QaK Z Z (fun _ h => QmY QmS h) Z (by simp) Z Z Z (by simp; omega) (by simp; omega) ?_)))))
   apply Qgh [17] (by simp)
   ·simp [St.freezeL, St.freeze, rem, D.fz, D.fzS, Box.fz, lk, D.scrub]; exact ⟨rfl, rfl⟩
   ·exact QcF (ha.app hb hab)
   ·rfl
   ·simp [Qai, D.fz, D.fzS, Qdz, D.can, D.canS, ZQ]
   ·exact .inl rfl
   refine Qa Z (Zi Z Z (Zi Z Z (Qa Z (Qa Z (hK _ _ (Qb (kp1 Z) ?_))))))
   refine Qe fun K hK => Qa Z (Qa Z (hK _ _ (Qb (kp1 Z) ?_)))
   refine Qt (ZS Z ?_)
   rw [QmK, if_pos ⟨h1, h2⟩]; rfl
theorem Qao {a : List (Cu × Cu)} (ha : Sm a) : Ok Try.prog 99 [ZQ a] (ZQ (QiH a)) := by
 refine Ok.ofT Z2 Try.func99 Qrk (Nat.le_of_ble_eq_true Z) ?_
 show TW _ _ tf99.body _ _
 have hn := ha.1
 have hc1 := QbL a
 refine Qe fun K hK => Qa Z (hK _ _ (Qb (kp1 Z) ?_))
 refine QE ?_ -- 0
 refine Qe fun K hK => Qa Z (QC (Ya ha) Z Z (.inr Z) (Yl Z (hK _ _ (Qb (kp2 Z Z) ?_))))
 refine Qy Z (fun h1 => ?_) (fun h1 => ?_)
 ·try rw [h1]
  try simp only [qA] at h1
  refine Qe fun K hK => Qa Z (hK _ _ (Qb (kp1 Z) ?_))
  refine Qt (Qi (ZS Z ?_))
  rw [QiH, if_neg (by simp [h1])]; rfl
 ·try rw [h1]
  try simp only [qA] at h1
  refine Qu (Qd (kp1 Z) (Qe fun K hK => Qa Z (hK _ _ (Qb (kp2 Z Z) ?_))))
  refine Qe fun K hK => Qa Z (QC (X9 ha) Z Z (.inl Z) (Qa Z (hK _ _ (Qb (kp3 Z Z Z) ?_))))
  refine QE ?_ -- 1
  refine Qe fun K hK => Qa Z (hK _ _ (Qb (kp4 Z Z Z Z) ?_))
  refine QG ?_
  refine ZL (ι := Nat × List (Cu × Cu)) (fun ⟨i, out⟩ => ⟨[(0, ZQ a), (3, .osl 3 out.length), (4, Qgt (YV a)), (5, .int .i64 i)], [(3, ⟨out.map Qd6, 14, 99, true⟩)]⟩) (fun ⟨i, out⟩ => i <= (YV a).length /\ FillI (fun x y => !mIn a x y) (YV a) i out) (fun ⟨i, out⟩ => (YV a).length - i) (0, []) ?_ ?_ ?_
  ·exact le_trans (XF 3 3 14 99 rfl rfl) (Zg (l := [0, 3, 4, 5]) (lH := [3]) (kp4 rfl rfl rfl rfl) (Qf rfl Qs) rfl rfl rfl)
  ·exact ⟨Nat.zero_le _, FillI.zero⟩
  intro ⟨i, out⟩ hI
  obtain ⟨hI1, hI2⟩ := hI
  have hI3 := hI2.1
  try dsimp only
  refine QE ?_ -- 2
  refine Qe fun K hK => Qa Z (Zc Z Z (by first | exact Qr (by omega) (by omega) | rfl) (Qa Z (QY Z Z (Yx Z Z (hK _ _ (Qb (kp5 Z Z Z Z Z) ?_))))))
  refine Qy Z (fun h2 => ?_) (fun h2 => ?_)
  ·try rw [h2]
   try simp only [qA] at h2
   refine Qu (Qd (kp4 Z Z Z Z) ?_)
   refine QE ?_ -- 3
   refine QG (Qe fun K hK => Qa Z (Qa Z (Qa Z (QN Z Z Z (by omega) (Zf (by omega)) Z (QX (ds0 := [1, 0]) (cs := [_, _, _, _, _, _, _]) Z Z Z Z Z Z (Qa Z (Qa Z (Zc Z Z (by first | exact Qr (by omega) (by omega) | rfl) (QN Z Z Z (by omega) (Qjr (by omega)) Z (QX (ds0 := [1, 0]) (cs := [_, _, _, _, _, _, _]) Z Z Z Z Z Z ?_))))))))))
   refine Zd (ds0 := [0]) (QaM ha (Yz ha _ (List.getElem_mem (by omega))) (Yz ha _ (List.getElem_mem (by omega)))) Z Z (.inr Z) Z Z (Yl Z (hK _ _ (Qb (kp5 Z Z Z Z Z) ?_)))
   refine Qy Z (fun h3 => ?_) (fun h3 => ?_)
   ·try rw [h3]
    try simp only [qA] at h3
    refine Q4 fun K hK => Qa rfl (Qa rfl (Qa rfl (QN rfl rfl rfl (by omega) (Zf (by omega)) rfl (QX (ds0 := [1, 0]) (cs := [_, _, _, _, _, _, _]) rfl rfl rfl rfl rfl rfl (Qa rfl (Qa rfl (Zc rfl rfl (by first | exact Qr (by omega) (by omega) | rfl) (QN rfl rfl rfl (by omega) (Qjr (by omega)) rfl (QX (ds0 := [1, 0]) (cs := [_, _, _, _, _, _, _]) rfl rfl rfl rfl rfl rfl (Qi3 (ds0 := [0]) (QmE (k := 3) rfl rfl rfl (by decide) rfl (by decide) (by simp [D.ids, D.sid, dCu]) ⟨.osl 3 out.length, by simp, by simp [D.ids, D.sid]⟩ rfl rfl (Qaa (by omega) hI2.2.1 (Yz ha _ (List.getElem_mem (by omega))) (Yz ha _ (List.getElem_mem (by omega))))) (fun _ h => by cases h) rfl rfl ?_))))))))))
    refine Qa Z (hK _ ?_)
    refine Qg (Qd (kp4 Z Z Z Z) (Q4 fun K hK => Qa Z (Zc Z Z (by first | exact Qr (by omega) (by omega) | rfl) (Qa Z (hK _ ?_)))))
    refine Qj (i + 1, QbO out (YV a)[i] (YV a)[i + 1]) ?_ ?_ ?_
    ·exact le_trans (QkT (l := [0, 4, 5]) (t := 40) (u := 3) 3 (kp3 rfl rfl rfl) rfl rfl rfl rfl) (Zg (l := [0, 3, 4, 5]) (lH := [3]) (kp4 rfl rfl rfl rfl) (Qf rfl Qs) rfl rfl rfl)
    ·exact ⟨by omega, hI2.take (Yz ha) (by omega) (by simp; assumption)⟩
    ·show (YV a).length - (i + 1) < (YV a).length - i; omega
   ·try rw [h3]
    try simp only [qA] at h3
    refine Qu (Qg (Qd (kp4 Z Z Z Z) (Q4 fun K hK => Qa Z (Zc Z Z (by first | exact Qr (by omega) (by omega) | rfl) (Qa Z (hK _ ?_))))))
    refine Qj (i + 1, out) ?_ ?_ ?_
    ·exact Zg (l := [0, 3, 4, 5]) (lH := [3]) (kp4 rfl rfl rfl rfl) (Qf rfl Qs) rfl rfl rfl
    ·exact ⟨by omega, hI2.skip (by omega) (by simp; assumption)⟩
    ·show (YV a).length - (i + 1) < (YV a).length - i; omega
  ·try rw [h2]
   try simp only [qA] at h2
   refine Zk (QI (Qw (QD (Qd (kp1 Z) (Qe fun K hK => Qa Z (Qa Z (hK _ _ (Qb (kp1 Z) ?_))))))))
   refine Qt (ZS Z ?_)
   rw [QiH, if_pos h1, hI2.done (by omega)]; simp [Qai, D.fz, D.fzS, Qdz, lk, D.can, D.canS, ZQ]
end Go.Proofs
namespace Go.Proofs
open Go Go.Abs M3 M25
set_option linter.unusedVariables false
set_option linter.unusedSimpArgs false
theorem QdE {a b : Qij} (h1a : Sm a.1) (h2a : Sm a.2) (h1b : Sm b.1) (h2b : Sm b.2) (hl1 : a.1.length + b.1.length <= 1000000) (hl2 : a.2.length + b.2.length <= 1000000) : Ok Try.prog 81 [Qhc a, Qhc b] (Qhc (QmL a b)) := by
 refine Ok.ofT Z2 Try.func81 Qq2 (Nat.le_of_ble_eq_true Z) ?_
 show TW _ _ tf81.body _ _
 refine Qe fun K hK => ZK Z Z Z (ZK Z Z Z (ZF Z (hK _ _ (Qb (kp3 Z Z Z) ?_))))
 refine QE ?_ -- 0
 refine Qe fun K hK => QM (cs := [_, _]) Z Z Z Z (QC (Xi h1a h2a) Z Z (.inr Z) (Yl Z (Qa Z ?_)))
 refine QB (g := 8) Z (fun h1 => ?_) (fun h1 => ?_)
 ·try rw [h1]
  try simp only [qB] at h1
  refine QA Z (QA Z (QA Z (Qn Z Z (hK _ _ (Qb (kp4 Z Z Z Z) ?_)))))
  refine ZG Z (Qe fun K hK => QC (Z6) Z Z (.inl Z) (QS Z Z Z Z Z Z Z Z (hK _ _ (Qb (kp1 Z) ?_))))
  refine Qt (Qi (Post.eq (ZA (ds := [.sl _, .sl _]) (cs := [_, _]) Z Z Z Z Z) ?_))
  rw [QmL, if_neg (by simp [h1])]; rfl
 ·try rw [h1]
  try simp only [qB] at h1
  refine Ql Z (QM (cs := [_, _]) Z Z Z Z (Ql Z (QC (Xi h1b h2b) Z Z (.inr Z) (Ql Z (Yl Z (Qn Z Z (hK _ _ (Qb (kp4 Z Z Z Z) ?_))))))))
  refine Qy Z (fun h2 => ?_) (fun h2 => ?_)
  ·try rw [h2]
   try simp only [qB] at h2
   refine Qe fun K hK => QC (Z6) Z Z (.inl Z) (QS Z Z Z Z Z Z Z Z (hK _ _ (Qb (kp1 Z) ?_)))
   refine Qt (Qi (Post.eq (ZA (ds := [.sl _, .sl _]) (cs := [_, _]) Z Z Z Z Z) ?_))
   rw [QmL, if_neg (by simp [h1, h2])]; rfl
  ·try rw [h2]
   try simp only [qB] at h2
   refine Qu (Qd (kp3 Z Z Z) (Qe fun K hK => Qm Z Z (Zq (ds0 := [7, 1, 0]) Z Z Z Z Z (Qm Z Z (Zq (ds0 := [7, 1, 0]) Z Z Z Z Z (Zd (ds0 := [1, 0]) (QaL h1a h1b hl1) Z Z (.inl Z) Z Z (Qm Z Z (Zq (ds0 := [2, 1, 0]) Z Z Z Z Z (Qm Z Z (Zq (ds0 := [2, 1, 0]) Z Z Z Z Z ?_))))))))))
   refine Zd (ds0 := [1, 0]) (QaL h2a h2b hl2) Z Z (.inl Z) Z Z (Q3 Z Z (Y5 (ds0 := []) Z Z Z Z Z Z Z Z Z Z (hK _ _ (Qb (kp1 Z) ?_))))
   refine Qt (Post.eq (ZA (ds := [.sl _, .sl _]) (cs := [_, _]) Z Z Z Z Z) ?_)
   rw [QmL, if_pos ⟨h1, h2⟩]; rfl
theorem Qc0 {a : Qij} (h1a : Sm a.1) (h2a : Sm a.2) : Ok Try.prog 83 [Qhc a] (Qhc (QgN a)) := by
 refine Ok.ofT Z2 Try.func83 Qq4 (Nat.le_of_ble_eq_true Z) ?_
 show TW _ _ tf83.body _ _
 refine Qe fun K hK => ZK Z Z Z (ZF Z (hK _ _ (Qb (kp2 Z Z) ?_)))
 refine QE ?_ -- 0
 refine Qe fun K hK => QM (cs := [_, _]) Z Z Z Z (QC (Xi h1a h2a) Z Z (.inr Z) (Yl Z (hK _ _ (Qb (kp3 Z Z Z) ?_))))
 refine Qy Z (fun h1 => ?_) (fun h1 => ?_)
 ·try rw [h1]
  try simp only [qB] at h1
  refine Qe fun K hK => QC (Z6) Z Z (.inl Z) (QS Z Z Z Z Z Z Z Z (hK _ _ (Qb (kp1 Z) ?_)))
  refine Qt (Qi (Post.eq (ZA (ds := [.sl _, .sl _]) (cs := [_, _]) Z Z Z Z Z) ?_))
  rw [QgN, if_neg (by simp [h1])]; rfl
 ·try rw [h1]
  try simp only [qB] at h1
  refine Qu (Qd (kp2 Z Z) (Qe fun K hK => Qm Z Z (Zq (ds0 := [5, 1, 0]) Z Z Z Z Z (Zd (ds0 := [1, 0]) (Qao h1a) Z Z (.inl Z) Z Z (Qm Z Z (Zq (ds0 := [2, 1, 0]) Z Z Z Z Z (Zd (ds0 := [1, 0]) (Qao h2a) Z Z (.inl Z) Z Z (Q3 Z Z (Y5 (ds0 := []) Z Z Z Z Z Z Z Z Z Z (hK _ _ (Qb (kp1 Z) ?_)))))))))))
  refine Qt (Post.eq (ZA (ds := [.sl _, .sl _]) (cs := [_, _]) Z Z Z Z Z) ?_)
  rw [QgN, if_pos h1]; rfl
end Go.Proofs
namespace Go.Proofs
open Go Go.Abs M3 M25
set_option linter.unusedVariables false
set_option linter.unusedSimpArgs false
theorem Z0 {v n : Int} (hn : n <= 9223372036854775807) (hv : I64 v) : Ok Try.prog 11 [.int .i64 v, .int .i64 n] (.int .i64 (mPl v n)) := by
 refine Ok.ofT Z2 Try.func11 Qp0 (Nat.le_of_ble_eq_true Z) ?_
 show TW _ _ tf11.body _ _
 refine Qe fun K hK => Qa Z (hK _ _ (Qb (kp2 Z Z) ?_))
 refine QE ?_ -- 0
 refine Qe fun K hK => Qa Z (Yx Z Z (hK _ _ (Qb (kp3 Z Z Z) ?_)))
 refine Qy Z (fun h1 => ?_) (fun h1 => ?_)
 ·try rw [h1]
  try simp only [qB] at h1
  refine Qe fun K hK => Qa Z (hK _ _ (Qb (kp1 Z) ?_))
  refine Qt (Qi (Qv Z ?_))
  rw [mPl, if_pos h1]
 ·try rw [h1]
  try simp only [qB] at h1
  refine Qu (Qd (kp2 Z Z) (Qe fun K hK => Qa Z (Qa Z (Qm7 Z Z (by omega) (Qa Z (hK _ _ (Qb (kp2 Z Z) ?_)))))))
  refine QE ?_ -- 1
  refine Qe fun K hK => Qa Z (Yx Z Z (hK _ _ (Qb (kp3 Z Z Z) ?_)))
  refine Qy Z (fun h2 => ?_) (fun h2 => ?_)
  ·try rw [h2]
   try simp only [qB] at h2
   refine Qe fun K hK => Qa Z (Qa Z (Zc Z Z (Qr (by have := Int.lt_tmod_of_pos v (show 0 < n by omega); omega) (by have := Int.tmod_lt_of_pos v (show 0 < n by omega); omega)) (Qa Z (hK _ _ (Qb (kp1 Z) ?_)))))
   refine Qt (Qi (Qv Z ?_))
   rw [mPl, if_neg h1, Qfe, if_pos h2]
  ·try rw [h2]
   try simp only [qB] at h2
   refine Qu (Qd (kp1 Z) (Qe fun K hK => Qa Z (Qa Z (hK _ _ (Qb (kp1 Z) ?_)))))
   refine Qt (Qv Z ?_)
   rw [mPl, if_neg h1, Qfe, if_neg h2]
theorem QdD {l : List Int} {i : Int} : Ok Try.prog 58 [dInts l, .int .i64 i] (.int .i64 (QlF l i)) := by
 refine Ok.ofT Z2 Try.func58 QqF (Nat.le_of_ble_eq_true Z) ?_
 show TW _ _ tf58.body _ _
 refine Qe fun K hK => Qa Z (hK _ _ (Qb (kp2 Z Z) ?_))
 refine QE ?_ -- 0
 refine Qe fun K hK => Qa Z (Yx Z Z (Qa Z ?_))
 refine QB (g := 7) Z (fun h1 => ?_) (fun h1 => ?_)
 ·try rw [h1]
  try simp only [qA] at h1
  refine QA Z (QA Z (QA Z (QA Z (Qn Z Z (hK _ _ (Qb (kp3 Z Z Z) ?_))))))
  refine ZG Z (Qe fun K hK => Qa Z (Qm7 Z Z (by omega) (Qa Z (hK _ _ (Qb (kp1 Z) ?_)))))
  refine Qt (Qi (Qv Z ?_))
  rw [QlF, if_pos (by omega)]
 ·try rw [h1]
  try simp only [qA] at h1
  refine Ql Z (Qa Z (Ql Z (Qa Z (Ql Z (QY Z Z (Ql Z (Qke Z Z (Qn Z Z (hK _ _ (Qb (kp3 Z Z Z) ?_))))))))))
  refine Qy Z (fun h2 => ?_) (fun h2 => ?_)
  ·try rw [h2]
   try simp only [qA] at h2
   refine Qe fun K hK => Qa Z (Qm7 Z Z (by omega) (Qa Z (hK _ _ (Qb (kp1 Z) ?_))))
   refine Qt (Qi (Qv Z ?_))
   rw [QlF, if_pos (by omega)]
  ·try rw [h2]
   try simp only [qA] at h2
   refine Qu (Qd (kp2 Z Z) (Qe fun K hK => Qa Z (Qa Z (QN Z Z Z (by omega) (Xk (by omega) (by omega)) Z (QF Z Z Z (Qa Z (hK _ _ (Qb (kp1 Z) ?_))))))))
   refine Qt (Qv Z ?_)
   exact (Qk0 (by omega) (by omega)).symm
theorem XE {k : Nat} {L : List Int} {I n : Int} (hk : 1000000 <= k) (hL : ∀ x ∈ L, I64 x) (hn : n <= 9223372036854775807) (et : Nat) : OkH Try.prog 28 [.ref k 0 0, .int .i64 n] [(k, gB L I et)] (.int .i64 (nx L I n)) ((k, gB L (nxI I) et) :: [(k, gB L I et)]) := by
 refine OkH.lent hk Z2 Try.func28 Qqe (Nat.le_of_ble_eq_true Z) Z ?_
 show TW _ _ tf28.body _ _
 refine Qe fun K hK => Qa Z (hK _ _ (Qb (kp2 Z Z) ?_))
 refine Qe fun K hK => Qa Z (Z9 Z Z (Qm Z Qeh (QF Z (Z5 QdN Z) Z (Zc Z Z Z (Z9 Z Z (Qm Z Qeh (QS Z QdN Z Z Z Z Z Z (hK _ _ (Qb (kp2 Z Z) ?_)))))))))
 refine Qe fun K hK => Qa Z (Z9 Z Z (Qm Z Qeh (Zq (ds0 := [3, 1, 0]) Z (Z5 QdN Z) Z Z Z (Qa Z (Z9 Z Z (Qm Z Qeh (Zq (ds0 := [4, 3, 1, 0]) Z (Z5 QdN Z) Z Z Z (QcQ Z Z Z (Zd (ds0 := [1, 0]) (QdD) Z Z (.inr Z) Z Z (Qa Z ?_))))))))))
 refine Zd (ds0 := [0]) (Z0 hn (Ql8 hL (QlE _))) Z Z (.inr Z) Z Z (Qa Z (hK _ _ (Qb (kp1 Z) ?_)))
 refine Qt ?_
 exact XI rfl rfl (QnZ QdN)
end Go.Proofs
namespace Go.Proofs
open Go Go.Abs M3 M25
set_option linter.unusedVariables false
set_option linter.unusedSimpArgs false
theorem Yq  : Ok Try.prog 23 [] (.sl (versions.map dVr)) := by
 refine Ok.ofT Z2 Try.func23 Qp9 (Nat.le_of_ble_eq_true Z) ?_
 show TW _ _ tf23.body _ _
 refine Qe fun K hK => Qa Z (hK _ _ (Qb (QP) ?_))
 refine Qe fun K hK => Q3 Z Z (Q3 Z Z (Q3 Z Z (Q3 Z Z (QL Z Z (Qa Z (hK _ _ (Qb (kp1 Z) ?_)))))))
 refine Qt (ZS Z ?_)
 rfl
end Go.Proofs
namespace M25
open Go Go.Abs M3
structure WantT where
 u : Int
 s : Qij
structure CandT where
 v : Vr
 sh : Int
 ns : List (List WantT)
 bs : List WantT
structure YA where
 n : List UInt8
 f : List UInt8
 cs : List CandT
abbrev Zp := List YA
def Qfz (x : WantT) : List D := [.int .i64 x.u, ZQ x.s.1, ZQ x.s.2]
def Q9 (l : List WantT) : D := .sl (l.map Qfz)
def QR (l : List (List WantT)) : D := .sl (l.map fun r => [Q9 r])
def Qpq (c : CandT) : List D := [.int .i64 c.v.a, .int .i64 c.v.b, .int .i64 c.v.c, .str c.v.p, .str c.v.q, .int .i64 c.sh, QR c.ns, Q9 c.bs]
def Qjc (l : List CandT) : D := .sl (l.map Qpq)
def Yy (u : YA) : List D := [.str u.n, .str u.f, Qjc u.cs]
def QbD (w : Zp) : D := .agg [.sl (w.map Yy)]
structure Qfw where
 u : Int
 m : Int
 deriving DecidableEq
structure Qbr where
 u : Int
 m : Int
 l : Int
 c : Int
 deriving DecidableEq
structure RowT where
 k : Int
 u : Int
 a : Int
 b : Int
 t : List Qfw
abbrev QpW (a b : Int) : Int := QdL .andNot .i64 a b
def uAt (w : Zp) (u : Int) : Option YA := if u < 0 then none else w[u.toNat]?
def QoP (w : Zp) (u : Int) : Int := match uAt w u with
 | none => 0
 | some x => 2 ^ (min x.cs.length 16 + 1) - 1
def QcR (v : Vr) : Prop := v.p.length <= 1000000 /\ v.q.length <= 1000000
structure WSm (w : Zp) : Prop where
 len : w.length <= 48
 cs : ∀ u ∈ w, u.cs.length <= 16
 vs : ∀ u ∈ w, ∀ c ∈ u.cs, QcR c.v
 ns : ∀ u ∈ w, ∀ c ∈ u.cs, c.ns.length <= 1000 /\ c.bs.length <= 1000
 nl : ∀ u ∈ w, ∀ c ∈ u.cs, ∀ r ∈ c.ns, r.length <= 1000
 nw : ∀ u ∈ w, ∀ c ∈ u.cs, ∀ r ∈ c.ns, ∀ x ∈ r, Sm x.s.1 /\ Sm x.s.2
 bw : ∀ u ∈ w, ∀ c ∈ u.cs, ∀ x ∈ c.bs, Sm x.s.1 /\ Sm x.s.2
def inW (w : Zp) (u : Int) : Bool := decide (0 <= u) && decide (u < w.length)
/-! ### Trails -/
def QfG (w : Zp) (l : List Qbr) (u : Int) : Int := l.foldl (fun a s => if s.u = u /\ inW w u = true then s.m else a) (QoP w u)
def QoQ (l : List Qbr) : Int := match l.getLast? with
 | none => 0
 | some s => s.l
def Qma (l : List Qbr) (u : Int) : Bool := l.any fun s => decide (s.u = u) && decide (s.c = -1)
def Qpw (w : Zp) (l : List Qbr) (inc : List Qfw) : Bool := inc.all fun t => decide (QhX (QfG w l t.u) t.m = 2)
def QgS (have_ : Int -> Int) : List Qfw -> Int -> Int
 | [], at_ => at_
 | t :: r, at_ => if QhX (have_ t.u) t.m = 0 then -1 else if QhX (have_ t.u) t.m = 1 then (if 0 <= at_ then -1 else QgS have_ r t.u) else QgS have_ r at_
def QoR (w : Zp) (l : List Qbr) (inc : List Qfw) : Int := QgS (QfG w l) inc (-1)
def QjP (w : Zp) (l : List Qbr) : Nat -> List (List Qfw) -> Int × Int
 | _, [] => (-1, -1)
 | i, x :: r => if Qpw w l x = true then (i, -1) else if 0 <= QoR w l x then (i, QoR w l x) else QjP w l (i + 1) r
def Qpv (w : Zp) (db : List (List Qfw)) (l : List Qbr) : Int × Int := QjP w l 0 db
end M25
namespace M25
open Go Go.Abs M3
section
variable {fr : List (Nat × D)} {H : List (Nat × Box)} {t u : Nat}
theorem QlM {k n : Nat} {b : Box} {d : D} (hb : lk H k = some b) (hp : b.pr = true) (hn : n = b.rows.length) (hd : .sl b.rows = d) : Qai ⟨fr, H⟩ (.osl k n) = d := by
 unfold Qai; rw [Qps (S := Qdz) rfl hb hp hn]; exact hd
theorem Qdo {e : Yn} {k n : Nat} {b : Box} {d : D} (h : lk fr t = some (.osl k n)) (hb : lk H k = some b) (hp : b.pr = true) (hn : n = b.rows.length) (hd : .sl b.rows = d) (he : e = .ret \/ e = .normal := by first | exact .inl rfl | exact .inr rfl) : Post [.tmp t] d e ⟨fr, H⟩ :=
 ZS h (QlM hb hp hn hd) he
end
theorem Qih {α : Type} {a b : List α} {i : Nat} (ha : i < a.length) (hb : i < b.length) (h : a.take i = b.take i) (he : a[i] = b[i]) : a.take (i + 1) = b.take (i + 1) := by
 rw [List.take_succ_eq_append_getElem ha, List.take_succ_eq_append_getElem hb, h, he]
theorem Qls {α : Type} [DecidableEq α] {a b : List α} {i : Nat} (ha : i < a.length) (hb : i < b.length) (he : ¬ a[i] = b[i]) : decide (a = b) = false := decide_eq_false fun e => he (by subst e; rfl)
theorem QjU {e : Int} (h1 : 0 <= e) (h2 : e <= 18446744073709551615) : IntKind.u64.wrap e = e := by
 unfold IntKind.wrap
 simp only [IntKind.bits, IntKind.signed, Bool.false_and, Bool.false_eq_true, if_false]
 omega
end M25
namespace M25
open Go Go.Abs M3
end M25
namespace M25
open Go Go.Abs M3
/-! ### Bits of numbers -/
def tb (x : Int) (i : Nat) : Bool := (BitVec.ofInt 64 x).getLsbD i
def Lo (x : Int) : Prop := 0 <= x /\ x < 131072
end M25
namespace M25
open Go Go.Abs M3
/-! ### Trails: the loops' laws -/
def Qok (w : Zp) (l : List Qbr) : Prop := ∀ s ∈ l, Lo s.m
end M25
namespace M25
open Go Go.Abs M3
end M25
namespace Go.Proofs
open Go Go.Abs M3 M25
set_option linter.unusedVariables false
set_option linter.unusedSimpArgs false
end Go.Proofs
namespace M25
open Go Go.Abs M3
/-! ### prop: what is left of each unit, scans -/
structure Qoj (w : Zp) (db : List (List Qfw)) (l : List Qbr) (a : Nat) (k : Nat) : Prop where
  ha : a < db.length
  hk : k < db[a].length
  eq : Qpv w db l = ((a : Int), db[a][k].u)
  one : QhX (QfG w l db[a][k].u) db[a][k].m = 1
  two : ∀ j, ∀ hj : j < db[a].length, j ≠ k -> QhX (QfG w l db[a][j].u) db[a][j].m = 2
def QpX (w : Zp) (l : List Qbr) (t : Qfw) (c : Int) : Qbr := ⟨t.u, QpW (QfG w l t.u) t.m, QoQ l, c⟩
end M25
namespace M25
open Go Go.Abs M3
/-! ### Sets that are made: moderate sizes -/
theorem QlZ (l : List (Cu × Cu)) (x y : Cu) : (QbO l x y).length <= l.length + 1 := QhT l x y
theorem Qgx (f : Cu -> Cu -> Bool) : ∀ (c : List Cu) (out : List (Cu × Cu)), (∀ x ∈ c, Cu.sm x) -> (∀ s ∈ out, Cu.sm s.1 /\ Cu.sm s.2) -> (QbM f c out).length <= out.length + c.length /\ ∀ s ∈ QbM f c out, Cu.sm s.1 /\ Cu.sm s.2
 | [], out, _, h => ⟨by simp [QbM], by simpa [QbM] using h⟩
 | [x], out, _, h => ⟨by simp [QbM], by simpa [QbM] using h⟩
 | x :: y :: r, out, hc, h => by
  rw [QbM]
  have hxy := QlZ out x y
  split
  ·obtain ⟨h1, h2⟩ := Qgx f (y :: r) (QbO out x y) (fun z hz => hc z (by simp at hz ⊢; exact .inr hz)) (Qjz h (hc x (by simp)) (hc y (by simp)))
   exact ⟨by simp only [List.length_cons] at h1 ⊢; omega, h2⟩
  ·obtain ⟨h1, h2⟩ := Qgx f (y :: r) out (fun z hz => hc z (by simp at hz ⊢; exact .inr hz)) h
   exact ⟨by simp only [List.length_cons] at h1 ⊢; omega, h2⟩
def SmN (n : Nat) (l : List (Cu × Cu)) : Prop := l.length <= n /\ ∀ s ∈ l, Cu.sm s.1 /\ Cu.sm s.2
theorem SmN.sm {n : Nat} {l : List (Cu × Cu)} (h : SmN n l) (hn : n <= 1000000) : Sm l := ⟨Nat.le_trans h.1 hn, h.2⟩
theorem SmN.up {n m : Nat} {l : List (Cu × Cu)} (h : SmN n l) (hn : n <= m) : SmN m l := ⟨Nat.le_trans h.1 hn, h.2⟩
theorem SmN.nil (n : Nat) : SmN n [] := ⟨Nat.zero_le _, by simp⟩
theorem QmQ {a b : List (Cu × Cu)} {n m : Nat} (ha : SmN n a) (hb : SmN m b) (h : n + m <= 1000000) : SmN (2 + 2 * (n + m)) (QmK a b) := by
 unfold QmK
 split
 ·have hab : Sm (a ++ b) := (ha.sm (by omega)).app (hb.sm (by omega)) (by have := ha.1; have := hb.1; omega)
  unfold QiG
  split
  ·obtain ⟨h1, h2⟩ := Qgx (mIn (a ++ b)) (YV (a ++ b)) [] (Yz hab) (by simp)
   have := QbL (a ++ b)
   have := ha.1
   have := hb.1
   exact ⟨by simp only [List.length_nil, List.length_append] at *; omega, h2⟩
  ·exact SmN.nil _
 ·exact SmN.nil _
theorem Qk6 {a : List (Cu × Cu)} {n : Nat} (ha : SmN n a) (h : n <= 1000000) : SmN (2 + 2 * n) (QiH a) := by
 unfold QiH
 split
 ·obtain ⟨h1, h2⟩ := Qgx (fun x y => !mIn a x y) (YV a) [] (Yz (ha.sm h)) (by simp)
  have := QbL a
  have := ha.1
  exact ⟨by simp only [List.length_nil] at *; omega, h2⟩
 ·exact SmN.nil _
def QjY (n : Nat) (s : Qij) : Prop := SmN n s.1 /\ SmN n s.2
theorem QoT {a b : Qij} {n m : Nat} (ha : QjY n a) (hb : QjY m b) (h : n + m <= 1000000) : QjY (2 + 2 * (n + m)) (QmL a b) := by
 unfold QmL
 split
 ·exact ⟨QmQ ha.1 hb.1 h, QmQ ha.2 hb.2 h⟩
 ·exact ⟨SmN.nil _, SmN.nil _⟩
theorem Qk7 {a : Qij} {n : Nat} (ha : QjY n a) (h : n <= 1000000) : QjY (2 + 2 * n) (QgN a) := by
 unfold QgN
 split
 ·exact ⟨Qk6 ha.1 h, Qk6 ha.2 h⟩
 ·exact ⟨SmN.nil _, SmN.nil _⟩
theorem Qcd (e a b c : Int) (f : Bool) : Cu.sm ⟨e, a, b, c, [], [], f⟩ := ⟨Nat.zero_le _, Nat.zero_le _⟩
theorem Qb4 {a b c : Int} {p q : List UInt8} (hp : p.length <= 1000000) : QjY 1 (Xd a b c p q) := by
 unfold Xd
 split
 ·exact ⟨SmN.nil _, SmN.nil _⟩
 ·split
  ·refine ⟨SmN.nil _, ⟨Nat.le_refl _, fun s hs => ?_⟩⟩
   simp only [List.mem_singleton] at hs; subst hs
   exact ⟨⟨hp, Nat.zero_le _⟩, ⟨hp, Nat.zero_le _⟩⟩
  ·refine ⟨⟨Nat.le_refl _, fun s hs => ?_⟩, SmN.nil _⟩
   simp only [List.mem_singleton] at hs; subst hs
   constructor
   ·unfold Qfa; split
    ·exact Qcd ..
    ·exact Qcd ..
   ·unfold Qdh; split
    ·exact Qcd ..
    ·exact Qcd ..
def Qkn : Qij := ([(Qcs, QfE)], [(Qcs, QfE)])
theorem QmA : QjY 1 Qkn := by
 have h : SmN 1 [(Qcs, QfE)] := ⟨Nat.le_refl _, fun s hs => by simp only [List.mem_singleton] at hs; subst hs; exact ⟨Qcd .., Qcd ..⟩⟩
 exact ⟨h, h⟩
def bnd (i : Nat) : Nat := 4 * 2 ^ i
theorem QmD {i : Nat} (h : i <= 16) : bnd i <= 262144 := by
 have : 2 ^ i <= 2 ^ 16 := Nat.pow_le_pow_right (by omega) h
 have e : (2 : Nat) ^ 16 = 65536 := by decide
 unfold bnd; omega
theorem Qo0 {s : Qij} {i : Nat} (h : QjY (bnd i - 4) s) {a b c : Int} {p q : List UInt8} (hp : p.length <= 1000000) (hi : i <= 16) : QjY (bnd (i + 1) - 4) (QmL s (Xd a b c p q)) := by
 have h1 := QmD hi
 have h4 : 4 <= bnd i := by unfold bnd; have := Nat.one_le_two_pow (n := i); omega
 have := QoT h (Qb4 (a := a) (b := b) (c := c) (q := q) hp) (by omega)
 have e : bnd (i + 1) = 2 * bnd i := by unfold bnd; rw [Nat.pow_succ]; omega
 exact ⟨this.1.up (by omega), this.2.up (by omega)⟩
theorem Qmq {s : Qij} {i : Nat} (h : QjY (bnd i - 4) s) : QjY (bnd (i + 1) - 4) s := by
 have e : bnd (i + 1) = 2 * bnd i := by unfold bnd; rw [Nat.pow_succ]; omega
 exact ⟨h.1.up (by omega), h.2.up (by omega)⟩
def SetOk (s : Qij) : Prop := QjY 600000 s
theorem SetOk.sm {s : Qij} (h : SetOk s) : Sm s.1 /\ Sm s.2 := ⟨h.1.sm (by omega), h.2.sm (by omega)⟩
structure CR where
 v : Vr
 x : D
 y : D
 z : D
def dCR (r : CR) : List D := [.int .i64 r.v.a, .int .i64 r.v.b, .int .i64 r.v.c, .str r.v.p, .str r.v.q, r.x, r.y, r.z]
def CR.ren (r : CR) : CR := ⟨r.v, r.x.renS upN, r.y.renS upN, r.z.renS upN⟩
theorem Qku (l : List CR) : (l.map dCR).map (fun r => r.map (D.renS upN)) = (l.map CR.ren).map dCR := by
 rw [List.map_map, List.map_map]; rfl
structure UR where
 n : List UInt8
 f : List UInt8
 k : Nat
 cs : List CR
def dUR (u : UR) : List D := [.str u.n, .str u.f, .osl u.k u.cs.length]
def UR.ren (u : UR) : UR := ⟨u.n, u.f, upN u.k, u.cs.map CR.ren⟩
theorem Qnt (l : List UR) : (l.map dUR).map (fun r => r.map (D.renS upN)) = (l.map UR.ren).map dUR := by
 rw [List.map_map, List.map_map]
 refine List.map_congr_left fun u _ => ?_
 simp [dUR, UR.ren, D.renS]
structure Fam (H : List (Nat × Box)) (kg ku eu ec : Nat) (us : List UR) : Prop where
 ne : ku ≠ kg
 u : ∃ pr, lk H ku = some ⟨us.map dUR, 3, eu, pr⟩
 c : ∀ y ∈ us, y.k ≠ kg /\ ∃ pr, lk H y.k = some ⟨y.cs.map dCR, 8, ec, pr⟩
 v : ∀ y ∈ us, y.cs.length <= 16 /\ ∀ z ∈ y.cs, QcR z.v
theorem Fam.up {H : List (Nat × Box)} {kg ku eu ec : Nat} {us : List UR} (h : Fam H kg ku eu ec us) : Fam (upH H) (upN kg) (upN ku) eu ec (us.map UR.ren) := by
 obtain ⟨h1, ⟨pu, h2⟩, h3, h4⟩ := h
 refine ⟨fun e => h1 (QiY e), ⟨pu, ?_⟩, fun y hy => ?_, fun y hy => ?_⟩
 ·rw [Qas, h2, Option.map_some, Box.ren, Qnt]
 ·obtain ⟨u, hu, rfl⟩ := List.mem_map.1 hy
  obtain ⟨q1, pr, q2⟩ := h3 u hu
  refine ⟨fun e => q1 (QiY e), pr, ?_⟩
  show lk (upH H) (upN u.k) = _
  rw [Qas, q2, Option.map_some, Box.ren, Qku]; rfl
 ·obtain ⟨u, hu, rfl⟩ := List.mem_map.1 hy
  obtain ⟨q1, q2⟩ := h4 u hu
  refine ⟨by simpa [UR.ren] using q1, fun z hz => ?_⟩
  obtain ⟨z0, hz0, rfl⟩ := List.mem_map.1 hz
  exact q2 z0 hz0
theorem Fam.cons {H : List (Nat × Box)} {kg ku eu ec : Nat} {us : List UR} (h : Fam H kg ku eu ec us) {b : Box} : Fam ((kg, b) :: H) kg ku eu ec us := by
 obtain ⟨h1, ⟨pu, h2⟩, h3, h4⟩ := h
 exact ⟨h1, ⟨pu, Qk (Ne.symm h1) h2⟩, fun y hy => let ⟨q1, pr, q2⟩ := h3 y hy; ⟨q1, pr, Qk (Ne.symm q1) q2⟩, h4⟩
def WantIn (n : Nat) (x : WantT) : Prop := 1 <= x.u /\ x.u < n /\ SetOk x.s
def Qhl (n : Nat) (r : List WantT) : Prop := r.length <= 2 /\ ∀ x ∈ r, WantIn n x
def Qeu (n : Nat) (m : Int) (ns : List (List WantT)) : Prop := (ns.length : Int) <= m /\ ∀ r ∈ ns, Qhl n r
theorem QnS {n : Nat} {x : WantT} (h : WantIn n x) : Qhl n [x] := ⟨by simp, by intro y hy; simp only [List.mem_singleton] at hy; subst hy; exact h⟩
theorem QnT {n : Nat} {x y : WantT} (h : WantIn n x) (h' : WantIn n y) : Qhl n [x, y] := ⟨by simp, by
 intro z hz
 simp only [List.mem_cons, List.not_mem_nil, or_false] at hz
 rcases hz with rfl | rfl
 ·exact h
 ·exact h'⟩
theorem Qlo {n : Nat} {ns : List (List WantT)} {r : List WantT} (h : ∀ r ∈ ns, Qhl n r) (hr : Qhl n r) : ∀ x ∈ ns ++ [r], Qhl n x := fun x hx => by
 rcases List.mem_append.1 hx with hx | hx
 ·exact h x hx
 ·simp only [List.mem_singleton] at hx; subst hx; exact hr
end M25
namespace M25
open Go Go.Abs M3
/-! ### The boxes of a world under way -/
def fbx (ec : Nat) (us : List UR) : List (Nat × Box) := us.map fun u => (u.k, ⟨u.cs.map dCR, 8, ec, true⟩)
def Z8 (us : List UR) : Prop := ∀ j, ∀ h : j < us.length, us[j].k = 500001 + j
theorem QhP {us : List UR} {u : UR} (h : Z8 us) (hu : u.k = 500001 + us.length) : Z8 (us ++ [u]) := fun j hj => by
 rw [List.length_append, List.length_singleton] at hj
 by_cases e : j < us.length
 ·rw [List.getElem_append_left e]; exact h j e
 ·have : j = us.length := by omega
  subst this
  rw [List.getElem_append_right (Nat.le_refl _)]; simpa using hu
theorem QeT (ec : Nat) (us : List UR) : QlJ (fbx ec us) := fun p hp => by
 obtain ⟨u, _, rfl⟩ := List.mem_map.1 hp; rfl
theorem Qf2 {ec : Nat} : ∀ {us : List UR} {k : Nat} {b : Box}, lk (fbx ec us) k = some b -> ∃ u ∈ us, k = u.k /\ b = ⟨u.cs.map dCR, 8, ec, true⟩
 | [], _, _, h => by cases h
 | u :: us, k, b, h => by
  simp only [fbx, List.map_cons] at h
  rw [Qh] at h
  split at h
  ·rename_i e; cases h; exact ⟨u, by simp, e.symm, rfl⟩
  ·obtain ⟨v, hv, q⟩ := Qf2 (us := us) h
   exact ⟨v, by simp [hv], q⟩
theorem Qa8 {us : List UR} (h : Z8 us) {u : UR} (hu : u ∈ us) : 500001 <= u.k /\ u.k < 500001 + us.length := by
 obtain ⟨j, hj, rfl⟩ := List.getElem_of_mem hu
 have := h j hj
 omega
theorem Qgv {ec : Nat} {us : List UR} (h : Z8 us) : QpP 500001 (fbx ec us) := fun k b hk => by
 obtain ⟨u, hu, rfl, _⟩ := Qf2 hk
 exact (Qa8 h hu).1
theorem YS {ec : Nat} {us : List UR} (h : Z8 us) {k : Nat} (hk : k < 500001 \/ 500001 + us.length <= k) : lk (fbx ec us) k = none := by
 cases hh : lk (fbx ec us) k with
 | none => rfl
 | some b =>
  obtain ⟨u, hu, rfl, _⟩ := Qf2 hh
  have := Qa8 h hu
  omega
theorem QkA {ec : Nat} : ∀ {us : List UR} {n : Nat}, (∀ j, ∀ h : j < us.length, us[j].k = n + j) -> ∀ j, ∀ h : j < us.length, lk (fbx ec us) (n + j) = some ⟨us[j].cs.map dCR, 8, ec, true⟩
 | [], _, _, j, hj => by simp at hj
 | u :: us, n, hk, 0, _ => by
  have := hk 0 (by simp)
  simp only [List.getElem_cons_zero, Nat.add_zero] at this
  simp only [fbx, List.map_cons, Nat.add_zero]
  rw [Qh, if_pos this]; rfl
 | u :: us, n, hk, j + 1, hj => by
  have h0 := hk 0 (by simp)
  simp only [List.getElem_cons_zero, Nat.add_zero] at h0
  simp only [fbx, List.map_cons]
  rw [Qh, if_neg (by omega)]
  have := QkA (ec := ec) (us := us) (n := n + 1) (fun i hi => by
   have := hk (i + 1) (by simpa using hi)
   simp only [List.getElem_cons_succ] at this
   omega) j (by simpa using hj)
  rw [show n + 1 + j = n + (j + 1) by omega] at this
  simp only [List.getElem_cons_succ]
  exact this
theorem Qkz {ec : Nat} {us : List UR} (h : Z8 us) {j : Nat} (hj : j < us.length) : lk (fbx ec us) (500001 + j) = some ⟨us[j].cs.map dCR, 8, ec, true⟩ := QkA h j hj
theorem Qji (ec : Nat) (us : List UR) (u : UR) : fbx ec (us ++ [u]) = fbx ec us ++ [(u.k, ⟨u.cs.map dCR, 8, ec, true⟩)] := by simp [fbx]
theorem QlS {ec : Nat} {us : List UR} (h : Z8 us) {kg : Nat} {x y : Box} {u : UR} (hu : u.k = 500001 + us.length) (hkg : u.k ≠ kg) (k : Nat) :
  lk ((u.k, ⟨u.cs.map dCR, 8, ec, true⟩) :: (500000, x) :: (kg, y) :: fbx ec us) k = lk ((500000, x) :: (kg, y) :: fbx ec (us ++ [u])) k := by
 rw [Qji]
 by_cases e : u.k = k
 ·subst e
  rw [Qx, Qh, if_neg (by omega), Qh, if_neg (Ne.symm hkg), YU (YS h (.inr (by omega))), Qx]
 ·rw [Qh, if_neg e, Qh, Qh, Qh, Qh]
  split
  ·rfl
  ·split
   ·rfl
   ·rw [ZM]
    cases h2 : lk (fbx ec us) k with
    | some v => rfl
    | none => rw [Qh, if_neg e]; rfl
def zr (v : Vr) (sh : Int) : CR := ⟨v, .int .i64 sh, .fsl [], .fsl []⟩
def Qoh (u : UR) : Prop := u.cs.length <= 4 /\ ∀ z ∈ u.cs, ∃ v sh, z = zr v sh /\ QcR v
theorem QmH {u : UR} : (dUR u).flatMap D.sid = [u.k] := by simp [dUR, D.sid]
theorem Qbl {us : List UR} {e et : Nat} {k : Nat} (h : k ∈ (Box.ids ⟨us.map dUR, e, et, false⟩)) : ∃ u ∈ us, k = u.k := by
 simp only [Box.ids, Bool.false_eq_true, if_false, List.mem_flatMap, List.mem_map] at h
 obtain ⟨r, ⟨u, hu, rfl⟩, hk⟩ := h
 have : k ∈ (dUR u).flatMap D.sid := List.mem_flatMap.2 hk
 rw [QmH] at this
 exact ⟨u, hu, by simpa using this⟩
theorem Qn3 {us : List UR} (h : Z8 us) : ∀ r ∈ us.map dUR, ∀ d ∈ r, 500000 ∉ d.sid := fun r hr d hd hk => by
 obtain ⟨u, hu, rfl⟩ := List.mem_map.1 hr
 have : 500000 ∈ (dUR u).flatMap D.sid := List.mem_flatMap.2 ⟨d, hd, hk⟩
 rw [QmH] at this
 have h2 := Qa8 h hu
 simp only [List.mem_singleton] at this
 omega
theorem Qgi {B F : List (Nat × Box)} {j : Nat} (h : (lk F j).isSome = true) : (lk (B ++ F) j).isSome = true := by
 rw [ZM]; split
 ·rfl
 ·exact h
theorem Qc8 {ec : Nat} {us : List UR} (h : Z8 us) {u : UR} (hu : u ∈ us) : (lk (fbx ec us) u.k).isSome = true := by
 obtain ⟨j, hj, rfl⟩ := List.getElem_of_mem hu
 rw [h j hj, Qkz h hj]; rfl
theorem Qgw {ec : Nat} {us : List UR} {u : UR} (h : Z8 us) (hu : u.k = 500001 + us.length) : lk (fbx ec (us ++ [u])) (500001 + us.length) = some ⟨u.cs.map dCR, 8, ec, true⟩ := by
 rw [Qji, YU (YS h (.inr (Nat.le_refl _))), <- hu, Qx]
section
variable {l : List Nat} {fr fr1 fr' : List (Nat × D)} {B : List (Nat × Box)} {kg eg eu ec : Nat} {L : List Int} {J : Int} {us : List UR}
theorem QpU (hf : Q8 l fr = fr1) (ef : fr1 = fr') (hK : Z8 us) (hu : lk B 500000 = some ⟨us.map dUR, 3, eu, false⟩) (hg : lk B kg = some (gB L J eg)) (hB : ∀ p ∈ B, 500001 <= p.1 -> p.1 = kg) (hkg : kg ≠ 500000)
  (hfr : ∀ p ∈ fr', ∀ k ∈ p.2.ids, k = 500000 \/ k = kg \/ ∃ u ∈ us, k = u.k) : St.le ⟨fr, B ++ fbx ec us⟩ ⟨fr', [(500000, ⟨us.map dUR, 3, eu, false⟩), (kg, gB L J eg)] ++ fbx ec us⟩ := by
 have s0 : ∀ k, (k = 500000 \/ k = kg \/ ∃ u ∈ us, k = u.k) -> (lk ([(500000, (⟨us.map dUR, 3, eu, false⟩ : Box)), (kg, gB L J eg)] ++ fbx ec us) k).isSome = true := fun k hk => by
  rcases hk with rfl | rfl | ⟨u, hu, rfl⟩
  ·exact QZ
  ·exact QT QZ
  ·exact Qgi (Qc8 hK hu)
 refine QiE (N := 500001) hf ef (fun p hp => ?_) rfl (fun p hp j hj => s0 j ?_) (fun p hp h => ?_) (Qgv hK) (QeT ec us) (fun p hp k hk => s0 k (hfr p hp k hk))
 ·simp only [List.mem_cons, List.not_mem_nil, or_false] at hp
  rcases hp with rfl | rfl
  ·exact hu
  ·exact hg
 ·simp only [List.mem_cons, List.not_mem_nil, or_false] at hp
  rcases hp with rfl | rfl
  ·exact .inr (.inr (Qbl hj))
  ·simp [Box.ids, gB] at hj
 ·rw [hB p hp h]; exact QT QZ
theorem Qof {cs : List CR} (hf : Q8 l fr = fr1) (ef : fr1 = fr') (hK : Z8 us) (hc : lk B (500001 + us.length) = some ⟨cs.map dCR, 8, ec, true⟩) (hu : lk B 500000 = some ⟨us.map dUR, 3, eu, false⟩) (hg : lk B kg = some (gB L J eg)) (hB : ∀ p ∈ B, 500001 <= p.1 -> p.1 = kg \/ p.1 = 500001 + us.length)
  (hfr : ∀ p ∈ fr', ∀ k ∈ p.2.ids, k = 500000 \/ k = kg \/ k = 500001 + us.length \/ ∃ u ∈ us, k = u.k) : St.le ⟨fr, B ++ fbx ec us⟩ ⟨fr', [(500001 + us.length, ⟨cs.map dCR, 8, ec, true⟩), (500000, ⟨us.map dUR, 3, eu, false⟩), (kg, gB L J eg)] ++ fbx ec us⟩ := by
 have s0 : ∀ k, (k = 500000 \/ k = kg \/ k = 500001 + us.length \/ ∃ u ∈ us, k = u.k) -> (lk ([(500001 + us.length, (⟨cs.map dCR, 8, ec, true⟩ : Box)), (500000, (⟨us.map dUR, 3, eu, false⟩ : Box)), (kg, gB L J eg)] ++ fbx ec us) k).isSome = true := fun k hk => by
  rcases hk with rfl | rfl | rfl | ⟨u, hu, rfl⟩
  ·exact QT QZ
  ·exact QT (QT QZ)
  ·exact QZ
  ·exact Qgi (Qc8 hK hu)
 refine QiE (N := 500001) hf ef (fun p hp => ?_) rfl (fun p hp j hj => s0 j ?_) (fun p hp h => ?_) (Qgv hK) (QeT ec us) (fun p hp k hk => s0 k (hfr p hp k hk))
 ·simp only [List.mem_cons, List.not_mem_nil, or_false] at hp
  rcases hp with rfl | rfl | rfl
  ·exact hc
  ·exact hu
  ·exact hg
 ·simp only [List.mem_cons, List.not_mem_nil, or_false] at hp
  rcases hp with rfl | rfl | rfl
  ·simp [Box.ids] at hj
  ·exact .inr (.inr (.inr (Qbl hj)))
  ·simp [Box.ids, gB] at hj
 ·rcases hB p hp h with e | e
  ·rw [e]; exact QT (QT QZ)
  ·rw [e]; exact QZ
theorem Qo6 {u : UR} (hf : Q8 l fr = fr1) (ef : fr1 = fr') (hK : Z8 us) (huk : u.k = 500001 + us.length) (hc : lk B (500001 + us.length) = some ⟨u.cs.map dCR, 8, ec, true⟩) (hu : lk B 500000 = some ⟨(us ++ [u]).map dUR, 3, eu, false⟩) (hg : lk B kg = some (gB L J eg)) (hB : ∀ p ∈ B, 500001 <= p.1 -> p.1 = kg \/ p.1 = 500001 + us.length) (hkg : 1000000 <= kg) (hlen : us.length <= 100)
  (hfr : ∀ p ∈ fr', ∀ k ∈ p.2.ids, k = 500000 \/ k = kg \/ ∃ v ∈ us ++ [u], k = v.k) : St.le ⟨fr, B ++ fbx ec us⟩ ⟨fr', [(500000, ⟨(us ++ [u]).map dUR, 3, eu, false⟩), (kg, gB L J eg)] ++ fbx ec (us ++ [u])⟩ := by
 have hK1 := QhP hK huk
 have mv := fun k => QlS (ec := ec) hK (kg := kg) (x := ⟨(us ++ [u]).map dUR, 3, eu, false⟩) (y := gB L J eg) huk (by omega) k
 have s0 : ∀ k, (k = 500000 \/ k = kg \/ ∃ v ∈ us ++ [u], k = v.k) -> (lk ([(u.k, (⟨u.cs.map dCR, 8, ec, true⟩ : Box)), (500000, (⟨(us ++ [u]).map dUR, 3, eu, false⟩ : Box)), (kg, gB L J eg)] ++ fbx ec us) k).isSome = true := fun k hk => by
  show (lk ((u.k, _) :: (500000, _) :: (kg, _) :: fbx ec us) k).isSome = true
  rw [mv]
  rcases hk with rfl | rfl | ⟨v, hv, rfl⟩
  ·exact QZ
  ·exact QT QZ
  ·exact QT (QT (Qc8 hK1 hv))
 refine le_trans (QiE (N := 500001) (A' := [(u.k, ⟨u.cs.map dCR, 8, ec, true⟩), (500000, ⟨(us ++ [u]).map dUR, 3, eu, false⟩), (kg, gB L J eg)]) hf ef (fun p hp => ?_) rfl (fun p hp j hj => s0 j ?_) (fun p hp h => ?_) (Qgv hK) (QeT ec us) (fun p hp k hk => s0 k (hfr p hp k hk))) (QgI ⟨fun _ => rfl, mv⟩)
 ·simp only [List.mem_cons, List.not_mem_nil, or_false] at hp
  rcases hp with rfl | rfl | rfl
  ·rw [huk]; exact hc
  ·exact hu
  ·exact hg
 ·simp only [List.mem_cons, List.not_mem_nil, or_false] at hp
  rcases hp with rfl | rfl | rfl
  ·simp [Box.ids] at hj
  ·exact .inr (.inr (Qbl hj))
  ·simp [Box.ids, gB] at hj
 ·rcases hB p hp h with e | e
  ·rw [e]; exact QT (QT QZ)
  ·rw [e, <- huk]; exact QZ
end
def u0 (v : Vr) : UR := ⟨[], [], 500001, [zr v (-1)]⟩
def v0 : Vr := ⟨0, 0, 0, [], []⟩
theorem Qmt {kg a b : Nat} (h : 1000000 <= kg) (ha : a < 1000000) (hb : b < 1000000) : Qag a b kg = kg := by
 unfold Qag; rw [if_neg (by omega), if_neg (by omega)]
theorem QkY {l : List Nat} {fr fr1 fr' : List (Nat × D)} {kg eg eu ec : Nat} {L : List Int} {I : Int} (hkg : 1000000 <= kg) (hf : Q8 l fr = fr1) (ef : fr1.map (fun p => (p.1, (p.2.ren (Qag 18 500000)).ren (Qag 16 500001))) = fr') :
  St.le ⟨fr, [(18, ⟨[[.str [], .str [], .osl 16 1]], 3, eu, false⟩), (16, ⟨[dCR (zr v0 (-1))], 8, ec, true⟩), (kg, gB L I eg)]⟩ ⟨fr', [(500000, ⟨[u0 v0].map dUR, 3, eu, false⟩), (kg, gB L I eg)] ++ fbx ec [u0 v0]⟩ := by
 subst hf ef
 have k1 := Qmt (a := 18) (b := 500000) hkg (by decide) (by decide)
 have k2 := Qmt (a := 16) (b := 500001) hkg (by decide) (by decide)
 refine le_trans (Qa9 l fr _) (le_trans (QgK 18 500000 (by decide) (by decide) _) (le_trans (QgK 16 500001 (by decide) (by decide) _) ?_))
 have hH : ∀ k, lk ([(500000, (⟨[u0 v0].map dUR, 3, eu, false⟩ : Box)), (kg, gB L I eg)] ++ fbx ec [u0 v0]) k = lk (QgZ (Qag 16 500001) (QgZ (Qag 18 500000) [(18, ⟨[[.str [], .str [], .osl 16 1]], 3, eu, false⟩), (16, ⟨[dCR (zr v0 (-1))], 8, ec, true⟩), (kg, gB L I eg)])) k := fun k => by
  have e : QgZ (Qag 16 500001) (QgZ (Qag 18 500000) [(18, (⟨[[.str [], .str [], .osl 16 1]], 3, eu, false⟩ : Box)), (16, ⟨[dCR (zr v0 (-1))], 8, ec, true⟩), (kg, gB L I eg)]) = [(500000, ⟨[u0 v0].map dUR, 3, eu, false⟩), (500001, ⟨[dCR (zr v0 (-1))], 8, ec, true⟩), (kg, gB L I eg)] := by
   simp only [QgZ, List.map_cons, List.map_nil, k1, k2]; rfl
  rw [e]
  show lk ((500000, _) :: (kg, _) :: (500001, _) :: []) k = _
  rw [Qh, Qh, Qh, Qh, Qh, Qh]
  by_cases h1 : 500000 = k
  ·rw [if_pos h1, if_pos h1]
  ·rw [if_neg h1, if_neg h1]
   by_cases h2 : kg = k
   ·rw [if_pos h2, if_neg (by omega), if_pos h2]
   ·rw [if_neg h2, if_neg h2]; rfl
 refine Qba (by simp only [St.ren, List.map_map]; rfl) fun k => (hH k).symm
def names5 : List (List UInt8) := [[97, 110, 116], [98, 101, 101], [99, 111, 119], [100, 111, 103], [101, 108, 107]]
theorem Za : names5.length = 5 := rfl
theorem QbZ : versions.length = 4 := rfl
theorem Qlz {i : Nat} (h : i < versions.length) : QcR versions[i] := by
 have := QiZ _ (List.getElem_mem h)
 exact ⟨Nat.le_trans this.1 (by omega), Nat.le_trans this.2 (by omega)⟩
structure UnitsIn (us : List UR) : Prop where
 keys : Z8 us
 fresh : ∀ u ∈ us, Qoh u
 first : ∃ z rest, us = ⟨[], [], 500001, [z]⟩ :: rest
theorem UnitsIn.zero : UnitsIn [u0 v0] := by
 refine ⟨fun j hj => ?_, fun u hu => ?_, ⟨zr v0 (-1), [], rfl⟩⟩
 ·have : j = 0 := by simp at hj; exact hj
  subst this; rfl
 ·simp only [List.mem_singleton] at hu; subst hu
  refine ⟨by simp [u0], fun z hz => ?_⟩
  simp only [u0, List.mem_singleton] at hz; subst hz
  exact ⟨v0, -1, rfl, ⟨Nat.zero_le _, Nat.zero_le _⟩⟩
theorem UnitsIn.snoc {us : List UR} (h : UnitsIn us) {n f : List UInt8} {cs : List CR} (hc : cs.length <= 4) (hz : ∀ z ∈ cs, ∃ v sh, z = zr v sh /\ QcR v) : UnitsIn (us ++ [⟨n, f, 500001 + us.length, cs⟩]) := by
 obtain ⟨h1, h2, z, rest, h3⟩ := h
 refine ⟨QhP h1 rfl, fun u hu => ?_, z, rest ++ [⟨n, f, 500001 + us.length, cs⟩], by rw [h3]; rfl⟩
 rcases List.mem_append.1 hu with hu | hu
 ·exact h2 u hu
 ·simp only [List.mem_singleton] at hu; subst hu; exact ⟨hc, hz⟩
def CsIn (n : Nat) (cs : List CR) : Prop := cs.length <= n /\ ∀ z ∈ cs, ∃ v sh, z = zr v sh /\ QcR v
theorem CsIn.nil (n : Nat) : CsIn n [] := ⟨Nat.zero_le _, by simp⟩
theorem CsIn.keep {n : Nat} {cs : List CR} (h : CsIn n cs) : CsIn (n + 1) cs := ⟨Nat.le_succ_of_le h.1, h.2⟩
theorem CsIn.snoc {n : Nat} {cs : List CR} (h : CsIn n cs) {v : Vr} (hv : QcR v) {sh : Int} : CsIn (n + 1) (cs ++ [zr v sh]) := by
 refine ⟨by simp; exact h.1, fun z hz => ?_⟩
 rcases List.mem_append.1 hz with hz | hz
 ·exact h.2 z hz
 ·simp only [List.mem_singleton] at hz; subst hz; exact ⟨v, sh, rfl, hv⟩
theorem CsIn.at {n : Nat} {cs : List CR} (h : CsIn n cs) {i : Nat} (hi : i < cs.length) : QcR cs[i].v := by
 obtain ⟨v, sh, e, hv⟩ := h.2 _ (List.getElem_mem hi)
 rw [e]; exact hv
theorem Qjx {α : Type} {k : Nat} {v v' : α} {l : List (Nat × α)} (h : v = v') : lk ((k, v) :: l) k = some v' := by rw [Qx, h]
theorem Qic {us : List UR} {e et : Nat} (h : Z8 us) : Box.scrub (500001 + us.length) ⟨us.map dUR, e, et, false⟩ = ⟨us.map dUR, e, et, false⟩ := Qib fun hk => by
 obtain ⟨u, hu, e⟩ := Qbl hk
 have := Qa8 h hu
 omega
theorem QjS {us : List UR} (h : Z8 us) {n f : List UInt8} {k m : Nat} (hk : k ≠ 500000) : ∀ r ∈ us.map dUR ++ [[D.str n, D.str f, D.osl k m]], ∀ d ∈ r, 500000 ∉ d.sid := fun r hr d hd => by
 rcases List.mem_append.1 hr with hr | hr
 ·exact Qn3 h r hr d hd
 ·simp only [List.mem_singleton] at hr; subst hr
  simp only [List.mem_cons, List.not_mem_nil, or_false] at hd
  rcases hd with rfl | rfl | rfl <;> simp [D.sid]
  exact Ne.symm hk
theorem Qn2 {us : List UR} {u : UR} : (us ++ [u]).map dUR = us.map dUR ++ [dUR u] := by simp
theorem Qns {cs : List CR} {z : CR} : (cs ++ [z]).map dCR = cs.map dCR ++ [dCR z] := by simp
theorem QaW {us : List UR} (h : Z8 us) {kg eu ec : Nat} {g1 g2 g3 : Box} (hkg : 1000000 <= kg) (h1 : g1.pr = true) (h2 : g2.pr = true) (hlen : us.length <= 100) :
  (∀ k, 1000000 <= k -> (lk [(kg, g1)] k).isSome = true -> (lk (((500000, (⟨us.map dUR, 3, eu, false⟩ : Box)) :: fbx ec us) ++ [(kg, g2), (kg, g1)]) k).isSome = true) /\
  (∀ k b, lk (((500000, (⟨us.map dUR, 3, eu, false⟩ : Box)) :: fbx ec us) ++ [(kg, g2), (kg, g1)]) k = some b -> 500000 <= k /\ ∀ j ∈ b.ids, (lk (((500000, (⟨us.map dUR, 3, eu, false⟩ : Box)) :: fbx ec us) ++ [(kg, g2), (kg, g1)]) j).isSome = true) /\
  (∀ k b, lk (((500000, (⟨us.map dUR, 3, eu, false⟩ : Box)) :: fbx ec us) ++ [(kg, g2), (kg, g1)]) k = some b -> lk ((kg, g2) :: (500000, ⟨us.map dUR, 3, eu, false⟩) :: (kg, g3) :: fbx ec us) k = some b) := by
 have cs : ∀ k b, lk (((500000, (⟨us.map dUR, 3, eu, false⟩ : Box)) :: fbx ec us) ++ [(kg, g2), (kg, g1)]) k = some b -> (k = 500000 /\ b = ⟨us.map dUR, 3, eu, false⟩) \/ (∃ u ∈ us, k = u.k /\ b = ⟨u.cs.map dCR, 8, ec, true⟩) \/ (k = kg /\ b = g2) := fun k b hk => by
  rw [List.cons_append, Qh] at hk
  split at hk
  ·rename_i e; cases hk; exact .inl ⟨e.symm, rfl⟩
  ·rw [ZM] at hk
   cases hh : lk (fbx ec us) k with
   | some v =>
    rw [hh] at hk; cases hk
    exact .inr (.inl (Qf2 hh))
   | none =>
    rw [hh] at hk
    simp only at hk
    rw [Qh] at hk
    split at hk
    ·rename_i e; cases hk; exact .inr (.inr ⟨e.symm, rfl⟩)
    ·rename_i e
     rw [Qh, if_neg e] at hk; cases hk
 refine ⟨fun k _ hk => ?_, fun k b hk => ?_, fun k b hk => ?_⟩
 ·obtain ⟨b, hb⟩ := Option.isSome_iff_exists.1 hk
  obtain ⟨rfl, _⟩ := XU hb
  exact Qgi QZ
 ·rcases cs k b hk with ⟨rfl, rfl⟩ | ⟨u, hu, rfl, rfl⟩ | ⟨rfl, rfl⟩
  ·refine ⟨Nat.le_refl _, fun j hj => ?_⟩
   obtain ⟨u, hu, rfl⟩ := Qbl hj
   rw [List.cons_append]
   refine QT ?_
   obtain ⟨b, hb⟩ := Option.isSome_iff_exists.1 (Qc8 (ec := ec) h hu)
   rw [Ys hb]; rfl
  ·have := Qa8 h hu
   exact ⟨by omega, fun j hj => by simp [Box.ids] at hj⟩
  ·exact ⟨by omega, fun j hj => by rw [XB h2] at hj; cases hj⟩
 ·rcases cs k b hk with ⟨rfl, rfl⟩ | ⟨u, hu, rfl, rfl⟩ | ⟨rfl, rfl⟩
  ·exact Qk (by omega) Qx
  ·have hm := Qa8 h hu
   obtain ⟨j, hj, rfl⟩ := List.getElem_of_mem hu
   refine Qk (by omega) (Qk (by omega) (Qk (by omega) ?_))
   rw [h j hj]; exact Qkz h hj
  ·exact Qx
end M25
namespace M25
open Go Go.Abs M3
/-! ### A world under way: one candidate after the other is filled -/
def PureC (z : CR) : Prop := z.x.sid = [] /\ z.y.sid = [] /\ z.z.sid = []
theorem PureC.all {z : CR} (h : PureC z) : ∀ d ∈ dCR z, d.sid = [] := fun d hd => by
 simp only [dCR, List.mem_cons, List.not_mem_nil, or_false] at hd
 rcases hd with rfl | rfl | rfl | rfl | rfl | rfl | rfl | rfl
 ·rfl
 ·rfl
 ·rfl
 ·rfl
 ·rfl
 ·exact h.1
 ·exact h.2.1
 ·exact h.2.2
def QdW (u : UR) (k : Nat) (z : CR) : UR := { u with cs := u.cs.set k z }
def Qcc (us : List UR) (i k : Nat) (z : CR) : List UR := us.modify i fun u => QdW u k z
theorem Zt (us : List UR) (i k : Nat) (z : CR) : (Qcc us i k z).length = us.length := List.length_modify ..
theorem QjR (us : List UR) (i k : Nat) (z : CR) : (Qcc us i k z).map dUR = us.map dUR := by
 refine List.ext_getElem (by simp [Qcc]) fun j h1 h2 => ?_
 simp only [List.getElem_map, Qcc, List.getElem_modify]
 split <;> simp [dUR, QdW]
theorem QaH {us : List UR} {i k : Nat} {z : CR} {j : Nat} (h : j < us.length) : (Qcc us i k z)[j]'(by rw [Zt]; exact h) = if i = j then QdW us[j] k z else us[j] := by
 simp only [Qcc, List.getElem_modify]
theorem Qdv {us : List UR} {i k : Nat} {z : CR} (h : Z8 us) : Z8 (Qcc us i k z) := fun j hj => by
 rw [Zt] at hj
 rw [QaH hj]
 split
 ·exact h j hj
 ·exact h j hj
def wA (us : List UR) (eu ec eg : Nat) (L : List Int) (J : Int) (b4 : Box) : List (Nat × Box) := [(500000, ⟨us.map dUR, 3, eu, false⟩), (12, gB L J eg), (4, b4)] ++ fbx ec us
theorem Qbm {us : List UR} {eu ec eg : Nat} {L : List Int} {J : Int} {b4 : Box} (h : Z8 us) {k : Nat} {b : Box} (hk : lk (wA us eu ec eg L J b4) k = some b) : (k = 500000 /\ b = ⟨us.map dUR, 3, eu, false⟩) \/ (k = 12 /\ b = gB L J eg) \/ (k = 4 /\ b = b4) \/ ∃ j, ∃ hj : j < us.length, k = 500001 + j /\ b = ⟨us[j].cs.map dCR, 8, ec, true⟩ := by
 unfold wA at hk
 rcases Qd3 hk with hk | ⟨_, hk⟩
 ·simp only [List.mem_cons, List.not_mem_nil, or_false, Prod.mk.injEq] at hk
  rcases hk with h | h | h
  ·exact .inl h
  ·exact .inr (.inl h)
  ·exact .inr (.inr (.inl h))
 ·obtain ⟨u, hu, e1, e2⟩ := Qf2 hk
  obtain ⟨j, hj, rfl⟩ := List.getElem_of_mem hu
  exact .inr (.inr (.inr ⟨j, hj, e1.trans (h j hj), e2⟩))
section
variable {us : List UR} {eu ec eg : Nat} {L : List Int} {J : Int} {b4 : Box}
theorem Qer : lk (wA us eu ec eg L J b4) 500000 = some ⟨us.map dUR, 3, eu, false⟩ := rfl
theorem Qd5 : lk (wA us eu ec eg L J b4) 12 = some (gB L J eg) := rfl
theorem Qfv : lk (wA us eu ec eg L J b4) 4 = some b4 := rfl
theorem QcP (h : Z8 us) {j : Nat} (hj : j < us.length) : lk (wA us eu ec eg L J b4) (500001 + j) = some ⟨us[j].cs.map dCR, 8, ec, true⟩ := by
 show lk ((500000, _) :: (12, _) :: (4, _) :: fbx ec us) _ = _
 rw [Qh, if_neg (by omega), Qh, if_neg (by omega), Qh, if_neg (by omega)]
 exact Qkz h hj
theorem ZZ (h : Z8 us) {k : Nat} (h1 : k ≠ 500000) (h2 : k ≠ 12) (h3 : k ≠ 4) (h4 : k < 500001 \/ 500001 + us.length <= k) : lk (wA us eu ec eg L J b4) k = none := by
 show lk ((500000, _) :: (12, _) :: (4, _) :: fbx ec us) _ = _
 rw [Qh, if_neg (Ne.symm h1), Qh, if_neg (Ne.symm h2), Qh, if_neg (Ne.symm h3)]
 exact YS h h4
theorem Qi0 (h : Z8 us) {k : Nat} (hk : k = 500000 \/ k = 12 \/ k = 4 \/ ∃ u ∈ us, k = u.k) : (lk (wA us eu ec eg L J b4) k).isSome = true := by
 rcases hk with rfl | rfl | rfl | ⟨u, hu, rfl⟩
 ·rfl
 ·rfl
 ·rfl
 ·obtain ⟨j, hj, rfl⟩ := List.getElem_of_mem hu
  rw [h j hj, QcP h hj]; rfl
theorem Qah (h : Z8 us) (h4 : b4.pr = true) : Closed (wA us eu ec eg L J b4) := fun k b hk j hj => by
 rcases Qbm h hk with ⟨rfl, rfl⟩ | ⟨rfl, rfl⟩ | ⟨rfl, rfl⟩ | ⟨i, hi, rfl, rfl⟩
 ·exact Qi0 h (.inr (.inr (.inr (Qbl hj))))
 ·simp [Box.ids, gB] at hj
 ·rw [XB h4] at hj; cases hj
 ·simp [Box.ids] at hj
theorem QdO {α : Type} : ∀ {l : List α} {k : Nat} {a x : α}, x ∈ l.set k a -> x = a \/ x ∈ l
 | [], k, a, x, h => by simp at h
 | b :: l, 0, a, x, h => by
  simp only [List.set_cons_zero, List.mem_cons] at h ⊢
  rcases h with h | h
  ·exact .inl h
  ·exact .inr (.inr h)
 | b :: l, k + 1, a, x, h => by
  simp only [List.set_cons_succ, List.mem_cons] at h ⊢
  rcases h with h | h
  ·exact .inr (.inl h)
  ·rcases QdO h with h | h
   ·exact .inl h
   ·exact .inr (.inr h)
theorem Qe2 {l : List Nat} {fr fr1 fr' : List (Nat × D)} {H : List (Nat × Box)} {i k : Nat} {row : List D} {p : Bool} (kk : Nat) (z' : CR) (hf : Q8 l fr = fr1) (ef : fr1 = fr') (hK : Z8 us) (hi : i < us.length) (hk : k < us[i].cs.length)
  (hKi : lk H (500001 + i) = some ⟨(us[i].cs.map dCR).set k row, 8, ec, p⟩) (hp : p = true -> row.map (D.fzS H (· == kk)) = row) (hrow : (row.map (D.fzS H (· == kk))).map D.canS = dCR z') (hoth : ∀ z ∈ us[i].cs, PureC z) (hz : PureC z')
  (hF : ∀ j, ∀ hj : j < us.length, j ≠ i -> lk H (500001 + j) = some ⟨us[j].cs.map dCR, 8, ec, true⟩) (hu : lk H 500000 = some ⟨us.map dUR, 3, eu, false⟩) (hg : lk H 12 = some (gB L J eg)) (h4 : lk H 4 = some b4) (hb4 : b4.pr = true) (hkk : kk < 500000 /\ kk ≠ 12 /\ kk ≠ 4) (hsm : ∀ j, 1000000 <= j -> lk H j = none) (hlen : us.length <= 100)
  (hfr : ∀ p ∈ fr', ∀ j ∈ p.2.ids, j = 500000 \/ j = 12 \/ j = 4 \/ ∃ u ∈ us, j = u.k) : St.le ⟨fr, H⟩ ⟨fr', wA (Qcc us i k z') eu ec eg L J b4⟩ := by
 subst hf ef
 have nokk : ∀ j, (j = 500000 \/ j = 12 \/ j = 4 \/ ∃ u ∈ us, j = u.k) -> j ≠ kk := fun j hj e => by
  subst e
  rcases hj with rfl | rfl | rfl | ⟨u, hu, rfl⟩
  ·omega
  ·exact hkk.2.1 rfl
  ·exact hkk.2.2 rfl
  ·have := (Qa8 hK hu).1; omega
 have eqkk : ∀ j, j ≠ kk -> (j == kk) = false := fun j hj => by simp [hj]
 have some1 : ∀ b j, (j = 500000 \/ j = 12 \/ j = 4 \/ ∃ u ∈ us, j = u.k) -> (lk ((500001 + i, b) :: wA us eu ec eg L J b4) j).isSome = true := fun b j hj => QT (Qi0 hK hj)
 have rowsz : ∀ r ∈ us[i].cs.map dCR, r.map (D.fzS H (· == kk)) = r := fun r hr => by
  obtain ⟨z, hzm, rfl⟩ := List.mem_map.1 hr
  exact Yi fun d hd => QcH fun j hj => by rw [(hoth z hzm).all d hd] at hj; cases hj
 have mapz : ((us[i].cs.map dCR).set k row).map (fun r => r.map (D.fzS H (· == kk))) = (us[i].cs.map dCR).set k (row.map (D.fzS H (· == kk))) := by
  refine List.ext_getElem (by simp) fun j h1 h2 => ?_
  simp only [List.getElem_map, List.getElem_set]
  split
  ·rfl
  ·exact rowsz _ (List.mem_map_of_mem (List.getElem_mem _))
 refine le_trans (Qa9 l fr H) (le_trans (Qju kk (H' := (500001 + i, ⟨(us[i].cs.map dCR).set k (row.map (D.fzS H (· == kk))), 8, ec, p⟩) :: wA us eu ec eg L J b4) (by omega) (fr' := Q8 l fr) (fun t d h => ⟨d, h, QeX fun j hj => eqkk j (nokk j (hfr (t, d) (ZV h) j hj))⟩) (fun j b h => ?_) (fun t d h j hj => some1 _ j (hfr (t, d) (ZV h) j hj)) (fun j b h j2 hj2 => ?_) fun j hj hs => ?_) ?_)
 ·rw [Qh] at h
  split at h
  ·rename_i e; cases h; subst e
   refine ⟨by omega, _, hKi, ?_⟩
   cases p with
   | true => rw [hp rfl]; rfl
   | false => show Box.mk _ _ _ _ = _; rw [mapz]
  ·rename_i e
   rcases Qbm hK h with ⟨rfl, rfl⟩ | ⟨rfl, rfl⟩ | ⟨rfl, rfl⟩ | ⟨i2, hi2, rfl, rfl⟩
   ·refine ⟨by omega, _, hu, YJ (.inr fun j hj => eqkk j (nokk j (.inr (.inr (.inr (Qbl hj))))))⟩
   ·exact ⟨Ne.symm hkk.2.1, _, hg, rfl⟩
   ·exact ⟨Ne.symm hkk.2.2, _, h4, YJ (.inl hb4)⟩
   ·exact ⟨by omega, _, hF i2 hi2 (fun e2 => e (by omega)), rfl⟩
 ·rw [Qh] at h
  split at h
  ·cases h
   cases hpp : p with
   | true => rw [XB hpp] at hj2; cases hj2
   | false =>
   simp only [Box.ids, hpp, Bool.false_eq_true, if_false, List.mem_flatMap] at hj2
   obtain ⟨r, hr, d, hd, hj3⟩ := hj2
   rcases QdO hr with rfl | hr
   ·have : (d.canS).sid = [] := hz.all _ (by rw [<- hrow]; exact List.mem_map_of_mem hd)
    rw [Qb1] at this
    rw [this] at hj3; cases hj3
   ·obtain ⟨z, hzm, rfl⟩ := List.mem_map.1 hr
    rw [(hoth z hzm).all d hd] at hj3; cases hj3
  ·exact QT (Qah hK hb4 j b h j2 hj2)
 ·rw [hsm j hj] at hs; cases hs
 ·refine le_trans (Ql5 k Qx) (le_trans (QgH Qx (fun e => ?_) (fun r hr d hd => ?_)) (Qba rfl fun j => ?_))
  ·have := congrArg List.length e
   simp only [List.length_modify, List.length_set, List.length_map, List.length_nil] at this
   omega
  ·rcases QaO hr with h | ⟨y, hy, rfl⟩
   ·rcases QdO h with rfl | h
    ·have : (d.canS).sid = [] := hz.all _ (by rw [<- hrow]; exact List.mem_map_of_mem hd)
     rwa [Qb1] at this
    ·obtain ⟨z, hzm, rfl⟩ := List.mem_map.1 h
     exact (hoth z hzm).all d hd
   ·obtain ⟨d0, hd0, rfl⟩ := List.mem_map.1 hd
    rw [Qb1]
    rcases QdO hy with rfl | h
    ·have : (d0.canS).sid = [] := hz.all _ (by rw [<- hrow]; exact List.mem_map_of_mem hd0)
     rwa [Qb1] at this
    ·obtain ⟨z, hzm, rfl⟩ := List.mem_map.1 h
     exact (hoth z hzm).all d0 hd0
  ·have erows : ((us[i].cs.map dCR).set k (row.map (D.fzS H (· == kk)))).modify k (fun r => r.map D.canS) = ((us[i].cs.set k z').map dCR) := by
    refine List.ext_getElem (by simp) fun m h1 h2 => ?_
    simp only [List.getElem_modify, List.getElem_set, List.getElem_map]
    by_cases e : k = m
    ·subst e
     simp only [if_true]
     exact hrow
    ·simp only [if_neg e]
   have hK' := Qdv (i := i) (k := k) (z := z') hK
   by_cases e : 500001 + i = j
   ·subst e
    rw [Qx, QcP hK' (by rw [Zt]; exact hi)]
    simp only [QaH hi, if_true, erows]; rfl
   ·rw [Qh, if_neg e, Qh, if_neg e, Qh, if_neg e]
    cases h : lk (wA us eu ec eg L J b4) j with
    | none =>
     cases h' : lk (wA (Qcc us i k z') eu ec eg L J b4) j with
     | none => rfl
     | some b =>
      have : (lk (wA us eu ec eg L J b4) j).isSome = true := by
       rcases Qbm hK' h' with ⟨rfl, _⟩ | ⟨rfl, _⟩ | ⟨rfl, _⟩ | ⟨m, hm, rfl, _⟩
       ·rfl
       ·rfl
       ·rfl
       ·rw [Zt] at hm; rw [QcP hK hm]; rfl
      rw [h] at this; cases this
    | some b =>
     rcases Qbm hK h with ⟨rfl, rfl⟩ | ⟨rfl, rfl⟩ | ⟨rfl, rfl⟩ | ⟨m, hm, rfl, rfl⟩
     ·rw [Qer, QjR]
     ·rfl
     ·rfl
     ·rw [QcP hK' (by rw [Zt]; exact hm)]
      simp only [QaH hm, if_neg (show ¬ i = m by omega)]
end
theorem QbJ : ∀ {H : List (Nat × Box)} {j : Nat}, j ∈ H.map Prod.fst -> (lk H j).isSome = true
 | [], _, h => by cases h
 | (k, b) :: H, j, h => by
  by_cases e : k = j
  ·subst e; exact QZ
  ·refine QT (QbJ ?_)
   simp only [List.map_cons, List.mem_cons] at h
   exact h.resolve_left (Ne.symm e)
theorem Qmw {us : List UR} (h : Z8 us) {i : Nat} (hi : i < us.length) : (us.map dUR)[((i : Nat) : Int).toNat]? = some [.str us[i].n, .str us[i].f, .osl (500001 + i) us[i].cs.length] := by
 rw [Int.toNat_natCast, List.getElem?_map, List.getElem?_eq_getElem hi, Option.map_some, dUR, h i hi]
theorem Qpp {cs : List CR} {k : Nat} (hk : k < cs.length) : (cs.map dCR)[((k : Nat) : Int).toNat]? = some (dCR cs[k]) := by
 rw [Int.toNat_natCast, List.getElem?_map, List.getElem?_eq_getElem hk]; rfl
theorem QiW {us : List UR} {eu ec eg : Nat} {L : List Int} {J : Int} {b4 g1 : Box} (h : Z8 us) (k : Nat) : lk (((500000, (⟨us.map dUR, 3, eu, false⟩ : Box)) :: fbx ec us) ++ ([(12, gB L J eg)] ++ [(12, g1), (4, b4)])) k = lk (wA us eu ec eg L J b4) k := by
 show lk ((500000, _) :: (fbx ec us ++ [(12, gB L J eg), (12, g1), (4, b4)])) k = lk ((500000, _) :: (12, _) :: (4, _) :: fbx ec us) k
 rw [Qh, Qh]
 split
 ·rfl
 ·rw [ZM]
  cases hh : lk (fbx ec us) k with
  | some v =>
   have := Qgv h k v hh
   simp only
   rw [Qh, if_neg (by omega), Qh, if_neg (by omega), hh]
  | none =>
   simp only [Qh, hh]
   by_cases e : 12 = k
   ·rw [if_pos e, if_pos e]
   ·rw [if_neg e, if_neg e, if_neg e]; rfl
theorem QjT {us : List UR} {eu ec eg : Nat} {L : List Int} {J : Int} {b4 : Box} (h : Z8 us) (hv : ∀ y ∈ us, y.cs.length <= 16 /\ ∀ z ∈ y.cs, QcR z.v) : Fam (wA us eu ec eg L J b4) 12 500000 eu ec us := by
 refine ⟨by decide, ⟨false, rfl⟩, fun y hy => ?_, hv⟩
 obtain ⟨j, hj, rfl⟩ := List.getElem_of_mem hy
 refine ⟨by rw [h j hj]; omega, true, by rw [h j hj]; exact QcP h hj⟩
/-! ### Filled candidates -/
def Qna (n : Nat) (x : WantT) : Prop := 0 <= x.u /\ x.u < n /\ SetOk x.s
theorem WantIn.w {n : Nat} {x : WantT} (h : WantIn n x) : Qna n x := ⟨by have := h.1; omega, h.2.1, h.2.2⟩
structure Qak (n : Nat) (c : CandT) : Prop where
 v : QcR c.v
 nl : c.ns.length <= 10
 nr : ∀ r ∈ c.ns, r.length <= 2 /\ ∀ x ∈ r, Qna n x
 bl : c.bs.length <= 1
 bw : ∀ x ∈ c.bs, Qna n x
def Qhb (c : CandT) : CR := ⟨c.v, .int .i64 c.sh, QR c.ns, Q9 c.bs⟩
def DoneC (n : Nat) (z : CR) : Prop := ∃ c, z = Qhb c /\ Qak n c
def FreshC (z : CR) : Prop := ∃ v sh, z = zr v sh /\ QcR v
theorem DoneC.pure {n : Nat} {z : CR} (h : DoneC n z) : PureC z := by obtain ⟨c, rfl, _⟩ := h; exact ⟨rfl, rfl, rfl⟩
theorem FreshC.pure {z : CR} (h : FreshC z) : PureC z := by obtain ⟨v, sh, rfl, _⟩ := h; exact ⟨rfl, rfl, rfl⟩
theorem DoneC.vr {n : Nat} {z : CR} (h : DoneC n z) : QcR z.v := by obtain ⟨c, rfl, q⟩ := h; exact q.v
theorem FreshC.vr {z : CR} (h : FreshC z) : QcR z.v := by obtain ⟨v, sh, rfl, q⟩ := h; exact q
structure Prog (n : Nat) (us : List UR) (i k : Nat) : Prop where
 keys : Z8 us
 len : us.length = n /\ 2 <= n /\ n <= 11
 cl : ∀ u ∈ us, u.cs.length <= 4
 done : ∀ j, ∀ hj : j < us.length, ∀ m, ∀ hm : m < us[j].cs.length, (j < i \/ (j = i /\ m < k)) -> DoneC n us[j].cs[m]
 fresh : ∀ j, ∀ hj : j < us.length, ∀ m, ∀ hm : m < us[j].cs.length, ¬ (j < i \/ (j = i /\ m < k)) -> FreshC us[j].cs[m]
theorem Prog.pure {n : Nat} {us : List UR} {i k : Nat} (h : Prog n us i k) {j : Nat} (hj : j < us.length) : ∀ z ∈ us[j].cs, PureC z /\ QcR z.v := fun z hz => by
 obtain ⟨m, hm, rfl⟩ := List.getElem_of_mem hz
 by_cases hd : j < i \/ (j = i /\ m < k)
 ·exact ⟨(h.done j hj m hm hd).pure, (h.done j hj m hm hd).vr⟩
 ·exact ⟨(h.fresh j hj m hm hd).pure, (h.fresh j hj m hm hd).vr⟩
theorem Prog.fam {n : Nat} {us : List UR} {i k : Nat} (h : Prog n us i k) : ∀ y ∈ us, y.cs.length <= 16 /\ ∀ z ∈ y.cs, QcR z.v := fun y hy => by
 obtain ⟨j, hj, rfl⟩ := List.getElem_of_mem hy
 exact ⟨Nat.le_trans (h.cl _ hy) (by omega), fun z hz => (h.pure hj z hz).2⟩
theorem Prog.put {n : Nat} {us : List UR} {i k : Nat} (h : Prog n us i k) (hi : i < us.length) (hk : k < us[i].cs.length) {z : CR} (hz : DoneC n z) : Prog n (Qcc us i k z) i (k + 1) := by
 have at' := fun (j : Nat) (hj : j < us.length) => QaH (i := i) (k := k) (z := z) hj
 refine ⟨Qdv h.keys, by rw [Zt]; exact h.len, fun u hu => ?_, fun j hj m hm hd => ?_, fun j hj m hm hd => ?_⟩
 ·obtain ⟨j, hj, rfl⟩ := List.getElem_of_mem hu
  rw [Zt] at hj
  rw [at' j hj]
  split
  ·simp only [QdW, List.length_set]; exact h.cl _ (List.getElem_mem _)
  ·exact h.cl _ (List.getElem_mem _)
 ·rw [Zt] at hj
  have e := at' j hj
  by_cases hij : i = j
  ·subst hij
   rw [if_pos rfl] at e
   have hm' : m < (QdW us[i] k z).cs.length := by rw [<- e]; exact hm
   have e2 : (Qcc us i k z)[i].cs[m] = (QdW us[i] k z).cs[m]'hm' := by congr 1; rw [e]
   rw [e2]
   simp only [QdW, List.getElem_set]
   split
   ·exact hz
   ·simp only [QdW, List.length_set] at hm'
    exact h.done i hi m hm' (by omega)
  ·rw [if_neg hij] at e
   have hm' : m < us[j].cs.length := by rw [<- e]; exact hm
   have e2 : (Qcc us i k z)[j].cs[m] = us[j].cs[m]'hm' := by congr 1; rw [e]
   rw [e2]; exact h.done j hj m hm' (by omega)
 ·rw [Zt] at hj
  have e := at' j hj
  by_cases hij : i = j
  ·subst hij
   rw [if_pos rfl] at e
   have hm' : m < (QdW us[i] k z).cs.length := by rw [<- e]; exact hm
   have e2 : (Qcc us i k z)[i].cs[m] = (QdW us[i] k z).cs[m]'hm' := by congr 1; rw [e]
   rw [e2]
   simp only [QdW, List.length_set] at hm'
   simp only [QdW, List.getElem_set]
   rw [if_neg (by omega)]
   exact h.fresh i hi m hm' (by omega)
  ·rw [if_neg hij] at e
   have hm' : m < us[j].cs.length := by rw [<- e]; exact hm
   have e2 : (Qcc us i k z)[j].cs[m] = us[j].cs[m]'hm' := by congr 1; rw [e]
   rw [e2]; exact h.fresh j hj m hm' (by omega)
theorem Prog.next {n : Nat} {us : List UR} {i k : Nat} (h : Prog n us i k) (hi : i < us.length) (hk : us[i].cs.length <= k) : Prog n us (i + 1) 0 := by
 refine ⟨h.keys, h.len, h.cl, fun j hj m hm hd => h.done j hj m hm ?_, fun j hj m hm hd => h.fresh j hj m hm (by omega)⟩
 by_cases e : j = i
 ·subst e; exact .inr ⟨rfl, by omega⟩
 ·exact .inl (by omega)
theorem Prog.again {n : Nat} {us : List UR} {i k : Nat} (h : Prog n us i (k + 1)) (hi : i < us.length) (hk : k < us[i].cs.length) {z : CR} (hz : DoneC n z) : Prog n (Qcc us i k z) i (k + 1) := by
 have at' := fun (j : Nat) (hj : j < us.length) => QaH (i := i) (k := k) (z := z) hj
 refine ⟨Qdv h.keys, by rw [Zt]; exact h.len, fun u hu => ?_, fun j hj m hm hd => ?_, fun j hj m hm hd => ?_⟩
 ·obtain ⟨j, hj, rfl⟩ := List.getElem_of_mem hu
  rw [Zt] at hj
  rw [at' j hj]
  split
  ·simp only [QdW, List.length_set]; exact h.cl _ (List.getElem_mem _)
  ·exact h.cl _ (List.getElem_mem _)
 ·rw [Zt] at hj
  have e := at' j hj
  by_cases hij : i = j
  ·subst hij
   rw [if_pos rfl] at e
   have hm' : m < (QdW us[i] k z).cs.length := by rw [<- e]; exact hm
   have e2 : (Qcc us i k z)[i].cs[m] = (QdW us[i] k z).cs[m]'hm' := by congr 1; rw [e]
   rw [e2]
   simp only [QdW, List.getElem_set]
   split
   ·exact hz
   ·simp only [QdW, List.length_set] at hm'
    exact h.done i hi m hm' (by omega)
  ·rw [if_neg hij] at e
   have hm' : m < us[j].cs.length := by rw [<- e]; exact hm
   have e2 : (Qcc us i k z)[j].cs[m] = us[j].cs[m]'hm' := by congr 1; rw [e]
   rw [e2]; exact h.done j hj m hm' (by omega)
 ·rw [Zt] at hj
  have e := at' j hj
  by_cases hij : i = j
  ·subst hij
   rw [if_pos rfl] at e
   have hm' : m < (QdW us[i] k z).cs.length := by rw [<- e]; exact hm
   have e2 : (Qcc us i k z)[i].cs[m] = (QdW us[i] k z).cs[m]'hm' := by congr 1; rw [e]
   rw [e2]
   simp only [QdW, List.length_set] at hm'
   simp only [QdW, List.getElem_set]
   rw [if_neg (by omega)]
   exact h.fresh i hi m hm' (by omega)
  ·rw [if_neg hij] at e
   have hm' : m < us[j].cs.length := by rw [<- e]; exact hm
   have e2 : (Qcc us i k z)[j].cs[m] = us[j].cs[m]'hm' := by congr 1; rw [e]
   rw [e2]; exact h.fresh j hj m hm' (by omega)
theorem QkV {l : List Nat} {fr fr1 fr' : List (Nat × D)} {us : List UR} {eu ec eg e1 e3 : Nat} {L : List Int} {J : Int} {b4 bK : Box} {i : Nat} {x : WantT} (hf : Q8 l fr = fr1) (ef : fr1 = fr') (hK : Z8 us) (hi : i < us.length) (hb4 : b4.pr = true) (hbK : ∀ j ∈ bK.ids, j = 64)
  (hfr : ∀ p ∈ fr', ∀ j ∈ p.2.ids, j = 500000 \/ j = 12 \/ j = 4 \/ ∃ u ∈ us, j = u.k) :
  St.le ⟨fr, (500001 + i, bK) :: (64, ⟨[[.osl 63 1]], 1, e1, false⟩) :: (63, ⟨[Qfz x], 3, e3, true⟩) :: wA us eu ec eg L J b4⟩ ⟨fr', (500001 + i, bK) :: (64, ⟨[[Q9 [x]]], 1, e1, true⟩) :: wA us eu ec eg L J b4⟩ := by
 subst hf ef
 have no63 : ∀ j, (j = 500000 \/ j = 12 \/ j = 4 \/ ∃ u ∈ us, j = u.k) -> j ≠ 63 := fun j hj e => by
  subst e
  rcases hj with h | h | h | ⟨u, hu, h⟩
  ·cases h
  ·cases h
  ·cases h
  ·have := (Qa8 hK hu).1; omega
 have eq63 : ∀ j, j ≠ 63 -> (j == 63) = false := fun j hj => by simp [hj]
 have up : ∀ b b' j, (lk (wA us eu ec eg L J b4) j).isSome = true -> (lk ((500001 + i, b) :: (64, b') :: wA us eu ec eg L J b4) j).isSome = true := fun b b' j hj => QT (QT hj)
 refine le_trans (Qa9 l fr _) (le_trans (Qju 63 (H' := (500001 + i, bK) :: (64, ⟨[[Q9 [x]]], 1, e1, false⟩) :: wA us eu ec eg L J b4) (by decide) (fr' := Q8 l fr) (fun t d h => ⟨d, h, QeX fun j hj => eq63 j (no63 j (hfr (t, d) (ZV h) j hj))⟩) (fun j b h => ?_) (fun t d h j hj => up _ _ j (Qi0 hK (hfr (t, d) (ZV h) j hj))) (fun j b h j2 hj2 => ?_) fun j hj hs => ?_) ?_)
 ·rw [Qh] at h
  split at h
  ·rename_i e; cases h; subst e
   refine ⟨by omega, _, Qx, YJ (.inr fun j hj => ?_)⟩
   rw [hbK j hj]; rfl
  ·rename_i e
   rw [Qh] at h
   split at h
   ·rename_i e2; cases h; subst e2
    refine ⟨by decide, _, Qk e Qx, ?_⟩
    have h63 : lk ((500001 + i, bK) :: (64, (⟨[[.osl 63 1]], 1, e1, false⟩ : Box)) :: (63, ⟨[Qfz x], 3, e3, true⟩) :: wA us eu ec eg L J b4) 63 = some ⟨[Qfz x], 3, e3, true⟩ := Qk (by omega) (Qk (by decide) Qx)
    simp only [Box.fz, Bool.false_eq_true, if_false, List.map_cons, List.map_nil, D.fzS, beq_self_eq_true, if_true, h63, List.length_singleton, and_self, Q9]
   ·rename_i e2
    have h2 : lk ((500001 + i, bK) :: (64, (⟨[[.osl 63 1]], 1, e1, false⟩ : Box)) :: (63, ⟨[Qfz x], 3, e3, true⟩) :: wA us eu ec eg L J b4) j = some b := by
     have hj : j ≠ 63 := by
      rcases Qbm hK h with ⟨rfl, _⟩ | ⟨rfl, _⟩ | ⟨rfl, _⟩ | ⟨m, _, rfl, _⟩ <;> omega
     exact Qk e (Qk e2 (Qk (Ne.symm hj) h))
    rcases Qbm hK h with ⟨rfl, rfl⟩ | ⟨rfl, rfl⟩ | ⟨rfl, rfl⟩ | ⟨m, hm, rfl, rfl⟩
    ·exact ⟨by decide, _, h2, YJ (.inr fun j hj => eq63 j (no63 j (.inr (.inr (.inr (Qbl hj))))))⟩
    ·exact ⟨by decide, _, h2, rfl⟩
    ·exact ⟨by decide, _, h2, YJ (.inl hb4)⟩
    ·exact ⟨by omega, _, h2, rfl⟩
 ·rw [Qh] at h
  split at h
  ·cases h
   rw [hbK j2 hj2]; exact QT QZ
  ·rw [Qh] at h
   split at h
   ·cases h; simp [Box.ids, D.sid, Q9] at hj2
   ·exact up _ _ j2 (Qah hK hb4 j b h j2 hj2)
 ·by_cases e : 500001 + i = j
  ·subst e; exact QZ
  ·rw [Qh, if_neg e, Qh, if_neg (by omega), Qh, if_neg (by omega)] at hs
   exact up _ _ j hs
 ·have h64 : lk ((500001 + i, bK) :: (64, (⟨[[Q9 [x]]], 1, e1, false⟩ : Box)) :: wA us eu ec eg L J b4) 64 = some ⟨[[Q9 [x]]], 1, e1, false⟩ := Qk (by omega) Qx
  refine le_trans (QgH h64 (by simp) (by intro r hr d hd; simp only [List.mem_singleton] at hr; subst hr; simp only [List.mem_singleton] at hd; subst hd; rfl)) (Qba rfl fun j => ?_)
  by_cases e : 64 = j
  ·subst e; rw [Qx, Qh, if_neg (by omega), Qx]
  ·by_cases eK : 500001 + i = j
   ·subst eK; rw [Qh, if_neg e, Qx, Qx]
   ·rw [Qh, if_neg e, Qh, if_neg eK, Qh, if_neg e, Qh, if_neg eK, Qh, if_neg e]
theorem Qkv {n : Nat} : ∀ {cs : List CR}, (∀ z ∈ cs, DoneC n z) -> ∃ l : List CandT, cs = l.map Qhb /\ ∀ c ∈ l, Qak n c
 | [], _ => ⟨[], rfl, by simp⟩
 | z :: cs, h => by
  obtain ⟨l, h1, h2⟩ := Qkv (cs := cs) fun y hy => h y (by simp [hy])
  obtain ⟨c, rfl, hc⟩ := h z (by simp)
  exact ⟨c :: l, by rw [h1]; rfl, fun y hy => by
   rcases List.mem_cons.1 hy with rfl | hy
   ·exact hc
   ·exact h2 y hy⟩
def Qov (n : Nat) (u : UR) (x : YA) : Prop := x.n = u.n /\ x.f = u.f /\ u.cs = x.cs.map Qhb /\ ∀ c ∈ x.cs, Qak n c
theorem Qkw {n : Nat} : ∀ {us : List UR}, (∀ u ∈ us, ∀ z ∈ u.cs, DoneC n z) -> ∃ w : Zp, w.length = us.length /\ ∀ j, ∀ h : j < us.length, ∀ h' : j < w.length, Qov n us[j] w[j]
 | [], _ => ⟨[], rfl, fun j h => by simp at h⟩
 | u :: us, h => by
  obtain ⟨w, h1, h2⟩ := Qkw (us := us) fun y hy => h y (by simp [hy])
  obtain ⟨l, q1, q2⟩ := Qkv (h u (by simp))
  refine ⟨⟨u.n, u.f, l⟩ :: w, by simp [h1], fun j hj hj' => ?_⟩
  cases j with
  | zero => exact ⟨rfl, rfl, q1, q2⟩
  | succ j => simp only [List.getElem_cons_succ]; exact h2 j (by simpa using hj) (by simpa using hj')
structure QlL (w : Zp) : Prop where
 sm : WSm w
 len : 2 <= w.length /\ w.length <= 11
 cs : ∀ u ∈ w, u.cs.length <= 4
 cand : ∀ u ∈ w, ∀ c ∈ u.cs, Qak w.length c
theorem QnG {w : Zp} (h2 : 2 <= w.length) (h11 : w.length <= 11) (hc : ∀ u ∈ w, u.cs.length <= 4) (hd : ∀ u ∈ w, ∀ c ∈ u.cs, Qak w.length c) : QlL w := by
 refine ⟨⟨by omega, fun u hu => Nat.le_trans (hc u hu) (by omega), fun u hu c hcm => (hd u hu c hcm).v, fun u hu c hcm => ⟨Nat.le_trans (hd u hu c hcm).nl (by omega), Nat.le_trans (hd u hu c hcm).bl (by omega)⟩, fun u hu c hcm r hr => Nat.le_trans ((hd u hu c hcm).nr r hr).1 (by omega), fun u hu c hcm r hr x hx => (((hd u hu c hcm).nr r hr).2 x hx).2.2.sm, fun u hu c hcm x hx => ((hd u hu c hcm).bw x hx).2.2.sm⟩, ⟨h2, h11⟩, hc, hd⟩
theorem Ql6 {n : Nat} {us : List UR} {eu ec eg : Nat} {L : List Int} {J : Int} {b4 : Box} {k : Nat} (h : Prog n us us.length k) (hb4 : b4.pr = true) :
  ∃ w : Zp, w.length = us.length /\ QlL w /\ ∀ {l : List Nat} {fr fr1 fr' : List (Nat × D)}, Q8 l fr = fr1 -> fr1 = fr' -> (∀ p ∈ fr', ∀ j ∈ p.2.ids, j = 500000 \/ j = 4) -> St.le ⟨fr, wA us eu ec eg L J b4⟩ ⟨fr', [(500000, ⟨w.map Yy, 3, eu, true⟩), (4, b4)]⟩ := by
 obtain ⟨w, hw1, hw2⟩ := Qkw (n := n) (us := us) fun u hu z hz => by
  obtain ⟨j, hj, rfl⟩ := List.getElem_of_mem hu
  obtain ⟨m, hm, rfl⟩ := List.getElem_of_mem hz
  exact h.done j hj m hm (.inl hj)
 have hcs : ∀ u ∈ w, u.cs.length <= 4 /\ ∀ c ∈ u.cs, Qak n c := fun u hu => by
  obtain ⟨j, hj, rfl⟩ := List.getElem_of_mem hu
  obtain ⟨_, _, q3, q4⟩ := hw2 j (by omega) hj
  have := h.cl us[j] (List.getElem_mem _)
  rw [q3, List.length_map] at this
  exact ⟨this, q4⟩
 have hlen := h.len
 refine ⟨w, hw1, QnG (by omega) (by omega) (fun u hu => (hcs u hu).1) (fun u hu c hc => by have := (hcs u hu).2 c hc; rwa [show w.length = n by omega]), ?_⟩
 intro l fr fr1 fr' hf ef hfr
 subst hf ef
 have hK := h.keys
 let S : Nat -> Bool := fun k => decide (500001 <= k) && decide (k < 1000000)
 have hS1 : ∀ k, k < 500001 -> S k = false := fun k hk => by
  show (decide (500001 <= k) && decide (k < 1000000)) = false
  rw [decide_eq_false (by omega)]; rfl
 have hS2 : ∀ k, 500001 <= k -> k < 1000000 -> S k = true := fun k h1 h2 => by
  show (decide (500001 <= k) && decide (k < 1000000)) = true
  rw [decide_eq_true h1, decide_eq_true h2]; rfl
 have hrow : ∀ j, ∀ h1 : j < us.length, ∀ h2 : j < w.length, (dUR us[j]).map (D.fzS (wA us eu ec eg L J b4) S) = Yy w[j] := fun j h1 h2 => by
  obtain ⟨q1, q2, q3, q4⟩ := hw2 j h1 h2
  have hk := hK j h1
  have hc := QcP (eu := eu) (ec := ec) (eg := eg) (L := L) (J := J) (b4 := b4) hK h1
  generalize us[j] = u at q1 q2 q3 hk hc
  generalize w[j] = x at q1 q2 q3 q4
  obtain ⟨un, uf, uk, ucs⟩ := u
  simp only at q1 q2 q3 hk hc
  subst hk q3
  simp only [dUR, Yy, List.map_cons, List.map_nil, D.fzS]
  rw [hS2 _ (by omega) (by omega), hc]
  simp only [if_true, true_and, List.length_map, q1, q2, Qjc, List.map_map]
  rfl
 have hrows : (us.map dUR).map (fun r => r.map (D.fzS (wA us eu ec eg L J b4) S)) = w.map Yy := by
  refine List.ext_getElem (by simp [hw1]) fun j h1 h2 => ?_
  simp only [List.getElem_map]
  exact hrow j (by simpa using h1) (by simpa using h2)
 refine le_trans (Qa9 l fr _) (le_trans (QnA S (fun k hk => by
  simp only [S, Bool.and_eq_true, decide_eq_true_eq] at hk; exact hk.2) (fr' := Q8 l fr) (H' := [(500000, ⟨w.map Yy, 3, eu, false⟩), (4, b4)]) (fun t d hd => ⟨d, hd, QeX fun j hj => ?_⟩) (fun j b hj => ?_) (fun t d hd j hj => ?_) (fun j b hb i hi => ?_) fun j hj hs => ?_) (le_trans (QgH (k := 500000) (b := ⟨w.map Yy, 3, eu, false⟩) rfl (fun e => ?_) (fun r hr d hd => ?_)) (Qba rfl fun j => ?_)))
 ·rcases hfr (t, d) (ZV hd) j hj with rfl | rfl
  ·exact hS1 _ (by decide)
  ·exact hS1 _ (by decide)
 ·rw [Qh] at hj
  split at hj
  ·rename_i e; cases hj; subst e
   refine ⟨hS1 _ (by decide), _, Qer, ?_⟩
   simp only [Box.fz, Bool.false_eq_true, if_false, hrows]
  ·rw [Qh] at hj
   split at hj
   ·rename_i e; cases hj; subst e
    exact ⟨hS1 _ (by decide), _, Qfv, YJ (.inl hb4)⟩
   ·cases hj
 ·rcases hfr (t, d) (ZV hd) j hj with rfl | rfl
  ·rfl
  ·rfl
 ·rw [Qh] at hb
  split at hb
  ·cases hb
   simp only [Box.ids, Bool.false_eq_true, if_false, List.mem_flatMap, List.mem_map] at hi
   obtain ⟨r, ⟨u, _, rfl⟩, d, hd, hi⟩ := hi
   simp only [Yy, List.mem_cons, List.not_mem_nil, or_false] at hd
   rcases hd with rfl | rfl | rfl <;> simp [D.sid, Qjc] at hi
  ·rw [Qh] at hb
   split at hb
   ·cases hb; rw [XB hb4] at hi; cases hi
   ·cases hb
 ·obtain ⟨b, hb⟩ := Option.isSome_iff_exists.1 hs
  rcases Qbm hK hb with ⟨rfl, _⟩ | ⟨rfl, _⟩ | ⟨rfl, _⟩ | ⟨m, hm, rfl, _⟩ <;> omega
 ·have := congrArg List.length e
  simp only [List.length_map, List.length_nil] at this
  omega
 ·obtain ⟨u, _, rfl⟩ := List.mem_map.1 hr
  simp only [Yy, List.mem_cons, List.not_mem_nil, or_false] at hd
  rcases hd with rfl | rfl | rfl <;> rfl
 ·by_cases e : 500000 = j
  ·subst e; rfl
  ·rw [Qh, if_neg e, Qh, if_neg e]; rw [Qh (k := 500000), if_neg e]
def Qix (us : List UR) (i : Nat) : Nat := match us[i]? with
 | some u => u.cs.length
 | none => 0
theorem QaB {us : List UR} {i : Nat} (h : i < us.length) : Qix us i = us[i].cs.length := by rw [Qix, List.getElem?_eq_getElem h]
theorem Qaq (us : List UR) (i k : Nat) (z : CR) : Qix (Qcc us i k z) i = Qix us i := by
 by_cases h : i < us.length
 ·rw [QaB h, QaB (by rw [Zt]; exact h), QaH h, if_pos rfl]
  simp [QdW]
 ·have e : (Qcc us i k z).length = us.length := Zt ..
  rw [Qix, Qix, List.getElem?_eq_none (show us.length <= i by omega), List.getElem?_eq_none (show (Qcc us i k z).length <= i by omega)]
theorem Qid {us : List UR} {i k : Nat} {z : CR} (hi : i < us.length) (hk : k < us[i].cs.length) {us2 : List UR} (e : us2 = Qcc us i k z) (hi2 : i < us2.length) (hk2 : k < us2[i].cs.length) : us2[i].cs[k] = z := by
 subst e
 have e1 := QaH (i := i) (k := k) (z := z) hi
 rw [if_pos rfl] at e1
 have e2 : (Qcc us i k z)[i].cs[k] = (QdW us[i] k z).cs[k]'(by simpa [QdW] using hk) := by congr 1; rw [e1]
 rw [e2]; simp [QdW]
theorem Qnr {cs : List CR} {k : Nat} {z : CR} (hk : k < cs.length) (hz : cs[k] = z) : (cs.map dCR)[((k : Nat) : Int).toNat]? = some (dCR z) := by rw [Qpp hk, hz]
theorem QmX {cs : List CR} {k : Nat} {row : List D} (hk : k < cs.length) : ((cs.map dCR).set ((k : Nat) : Int).toNat row)[((k : Nat) : Int).toNat]? = some row := by
 rw [Int.toNat_natCast, List.getElem?_set_self (by simpa using hk)]
theorem QhQ {K k e t : Nat} {L : List (List D)} {r1 r2 : List D} {p : Bool} {H : List (Nat × Box)} : lk ((K, (⟨(L.set k r1).set k r2, e, t, p⟩ : Box)) :: H) K = some ⟨L.set k r2, e, t, p⟩ := by rw [Qx, List.set_set]
theorem Qef {H : List (Nat × Box)} {kk m e t : Nat} {ys : List (List D)} {v : Vr} {sh : Int} (h : lk H kk = some ⟨ys, e, t, true⟩) (hm : m = ys.length) : ([D.int .i64 v.a, .int .i64 v.b, .int .i64 v.c, .str v.p, .str v.q, .int .i64 sh, .osl kk m, .fsl []].map (D.fzS H (· == kk))).map D.canS = [.int .i64 v.a, .int .i64 v.b, .int .i64 v.c, .str v.p, .str v.q, .int .i64 sh, .sl ys, .sl []] := by
 simp only [List.map_cons, List.map_nil, D.fzS, beq_self_eq_true, if_true, h, hm, and_self, D.canS]
theorem QkG {H : List (Nat × Box)} {kk m e t : Nat} {ys : List (List D)} {v : Vr} {sh : Int} {ns : List (List WantT)} (h : lk H kk = some ⟨ys, e, t, true⟩) (hm : m = ys.length) : ([D.int .i64 v.a, .int .i64 v.b, .int .i64 v.c, .str v.p, .str v.q, .int .i64 sh, QR ns, .osl kk m].map (D.fzS H (· == kk))).map D.canS = [.int .i64 v.a, .int .i64 v.b, .int .i64 v.c, .str v.p, .str v.q, .int .i64 sh, QR ns, .sl ys] := by
 simp only [QR, List.map_cons, List.map_nil, D.fzS, beq_self_eq_true, if_true, h, hm, and_self, D.canS]
theorem Qo7 {us : List UR} {eu ec eg : Nat} {L : List Int} {J J2 : Int} {b4 : Box} (k : Nat) : lk ((12, gB L J2 eg) :: wA us eu ec eg L J b4) k = lk (wA us eu ec eg L J2 b4) k := by
 show lk ((12, _) :: (500000, _) :: (12, _) :: (4, _) :: fbx ec us) k = lk ((500000, _) :: (12, _) :: (4, _) :: fbx ec us) k
 by_cases e : 12 = k
 ·subst e; rfl
 ·rw [Qh, if_neg e, Qh, Qh (k := 500000)]
  split
  ·rfl
  ·rw [Qh, if_neg e, Qh (k := 12), if_neg e]
theorem QiN {cs : List CR} {k e t : Nat} {row : List D} (h : ∀ z ∈ cs, PureC z) (hr : ∀ d ∈ row, ∀ j ∈ d.sid, j = 64) : ∀ j ∈ Box.ids ⟨(cs.map dCR).set k row, e, t, false⟩, j = 64 := fun j hj => by
 simp only [Box.ids, Bool.false_eq_true, if_false, List.mem_flatMap] at hj
 obtain ⟨r, hrm, d, hd, hj⟩ := hj
 rcases QdO hrm with rfl | hrm
 ·exact hr d hd j hj
 ·obtain ⟨z, hz, rfl⟩ := List.mem_map.1 hrm
  rw [(h z hz).all d hd] at hj; cases hj
theorem QpY {us : List UR} {eu ec eg : Nat} {L : List Int} {J : Int} {b4 b64 : Box} {n i k : Nat} (h : Prog n us i k) (hi : i < us.length) (hk : k < us[i].cs.length) {zx : CR} (hv : QcR zx.v) (hrow : zx.x.sid = [] /\ zx.y.sid = [64] /\ zx.z.sid = []) (hb4 : b4.pr = true) (h64 : b64.pr = true) :
  Fam ((500001 + i, ⟨(us[i].cs.map dCR).set k (dCR zx), 8, ec, false⟩) :: (64, b64) :: wA us eu ec eg L J b4) 12 500000 eu ec (Qcc us i k zx) /\ Closed ((500001 + i, ⟨(us[i].cs.map dCR).set k (dCR zx), 8, ec, false⟩) :: (64, b64) :: wA us eu ec eg L J b4) := by
 refine ⟨⟨by decide, ⟨false, ?_⟩, fun y hy => ?_, fun y hy => ?_⟩, ?_⟩
 ·rw [Qh, if_neg (by omega), Qh, if_neg (by decide), Qer, QjR]
 ·obtain ⟨j, hj, rfl⟩ := List.getElem_of_mem hy
  have hK' := Qdv (i := i) (k := k) (z := zx) h.keys
  have hj' := hj
  rw [Zt] at hj'
  refine ⟨by rw [hK' j hj]; omega, ?_⟩
  rw [hK' j hj]
  by_cases e : i = j
  ·subst e
   refine ⟨false, ?_⟩
   rw [Qx, QaH hj', if_pos rfl, QdW, List.map_set]
  ·refine ⟨true, ?_⟩
   rw [Qh, if_neg (by omega), Qh, if_neg (by omega), QcP h.keys hj', QaH hj', if_neg e]
 ·obtain ⟨j, hj, rfl⟩ := List.getElem_of_mem hy
  have hj' := hj
  rw [Zt] at hj'
  rw [QaH hj']
  have hfam := h.fam us[j] (List.getElem_mem _)
  split
  ·refine ⟨by simpa [QdW] using hfam.1, fun z hz => ?_⟩
   rcases QdO hz with rfl | hz
   ·exact hv
   ·exact hfam.2 z hz
  ·exact hfam
 ·refine ((Qah h.keys hb4).pr h64).cons fun j hj => ?_
  have := QiN (e := 8) (t := ec) (k := k) (row := dCR zx) (fun z hz => (h.pure hi z hz).1) (fun d hd j hj => by
   simp only [dCR, List.mem_cons, List.not_mem_nil, or_false] at hd
   rcases hd with rfl | rfl | rfl | rfl | rfl | rfl | rfl | rfl
   ·cases hj
   ·cases hj
   ·cases hj
   ·cases hj
   ·cases hj
   ·rw [hrow.1] at hj; cases hj
   ·rw [hrow.2.1] at hj; simpa using hj
   ·rw [hrow.2.2] at hj; cases hj) j hj
  subst this; exact QZ
theorem Prog.start {us : List UR} (h : UnitsIn us) (h2 : 2 <= us.length) (h11 : us.length <= 11) : Prog us.length us 0 0 := by
 refine ⟨h.keys, ⟨rfl, h2, h11⟩, fun u hu => (h.fresh u hu).1, fun j hj m hm hd => by omega, fun j hj m hm _ => ?_⟩
 obtain ⟨v, sh, e, hv⟩ := (h.fresh _ (List.getElem_mem hj)).2 _ (List.getElem_mem hm)
 exact ⟨v, sh, e, hv⟩
theorem QdI {n : Nat} {m : Int} {v : Vr} {sh : Int} {ns : List (List WantT)} (hv : QcR v) (h : Qeu n m ns) (hm : m <= 3) : Qak n ⟨v, sh, ns, []⟩ :=
 ⟨hv, by show ns.length <= 10; have := h.1; omega, fun r hr => ⟨(h.2 r hr).1, fun x hx => ((h.2 r hr).2 x hx).w⟩, Nat.zero_le _, fun x hx => by cases hx⟩
theorem Qhw {n i : Nat} {m : Int} {v : Vr} {sh : Int} {ns : List (List WantT)} (hv : QcR v) (h : Qeu n m ns) (hm : m <= 3) (h1 : 1 <= i) (hi : i < n) : Qak n ⟨v, sh, [⟨(i : Int) - 1, Xd v.a v.b v.c v.p v.q⟩] :: ns, []⟩ := by
 refine ⟨hv, by show (_ :: ns).length <= 10; have := h.1; simp only [List.length_cons]; omega, fun r hr => ?_, Nat.zero_le _, fun x hx => by cases hx⟩
 rcases List.mem_cons.1 hr with rfl | hr
 ·refine ⟨by simp, fun x hx => ?_⟩
  simp only [List.mem_singleton] at hx; subst hx
  have := Qb4 (a := v.a) (b := v.b) (c := v.c) (q := v.q) hv.1
  exact ⟨by show 0 <= (i : Int) - 1; omega, by show (i : Int) - 1 < n; omega, this.1.up (by omega), this.2.up (by omega)⟩
 ·exact ⟨(h.2 r hr).1, fun x hx => ((h.2 r hr).2 x hx).w⟩
theorem Qhv {n : Nat} {v : Vr} {sh : Int} {ns : List (List WantT)} (h : Qak n ⟨v, sh, ns, []⟩) {x : WantT} (hx : WantIn n x) : Qak n ⟨v, sh, ns, [x]⟩ := ⟨h.v, h.nl, h.nr, by simp, by intro y hy; simp only [List.mem_singleton] at hy; subst hy; exact hx.w⟩
theorem Qie {us : List UR} {i k : Nat} {z : CR} (hi : i < us.length) (hk : k < us[i].cs.length) {us2 : List UR} (e : Qcc us i k z = us2) (hi2 : i < us2.length) : k < us2[i].cs.length := by
 rw [<- QaB hi2, <- e, Qaq, QaB hi]; exact hk
theorem QmT {l : List (List WantT)} : ∀ r ∈ l.map (fun r => [Q9 r]), r.length = 1 := fun r hr => by obtain ⟨x, _, rfl⟩ := List.mem_map.1 hr; rfl
end M25
namespace M25
open Go Go.Abs M3
/-! ### Trails that may be -/
end M25
namespace M25
open Go Go.Abs M3
/-! ### What every program says -/
/-! ### A world's facts, and more -/
end M25
namespace M25
open Go Go.Abs M3
/-! ### Powers of two -/
/-! ### Steps that may be: the program's -/
/-! ### Deciding -/
end M25
namespace M25
open Go Go.Abs M3
/-! ### Back, Sure, When -/
/-! ### What valid trails are -/
/-! ### Levels -/
end M25
namespace M25
open Go Go.Abs M3
def QjA {α : Type} (p : α -> Bool) (l : List α) : Int := match l.findIdx? p with
 | some i => i
 | none => -1
theorem XT {α : Type} {p : α -> Bool} {l : List α} {i : Nat} (h : i < l.length) (ha : (l.take i).any p = false) (hp : p l[i] = true) : QjA p l = i := by
 have e : l.findIdx? p = some i := by
  rw [List.findIdx?_eq_some_iff_getElem]
  refine ⟨h, hp, fun j hj => ?_⟩
  have := List.any_eq_false.1 ha l[j] (by
   rw [List.mem_take_iff_getElem]
   exact ⟨j, by omega, rfl⟩)
  simpa using this
 rw [QjA, e]
theorem Qjp {α : Type} {p : α -> Bool} {l : List α} {i : Nat} (h : l.length <= i) (ha : (l.take i).any p = false) : QjA p l = -1 := by
 have e : l.findIdx? p = none := by
  rw [List.findIdx?_eq_none_iff]
  rw [List.take_of_length_le h] at ha
  intro x hx
  simpa using List.any_eq_false.1 ha x hx
 rw [QjA, e]
theorem QkP {α : Type} (p : α -> Bool) (l : List α) : decide (QjA p l >= 0) = l.any p := by
 cases e : l.findIdx? p with
 | none =>
  rw [QjA, e]
  rw [List.findIdx?_eq_none_iff] at e
  have : l.any p = false := List.any_eq_false.2 fun x hx => by simpa using e x hx
  rw [this]; rfl
 | some i =>
  rw [QjA, e]
  rw [List.findIdx?_eq_some_iff_getElem] at e
  obtain ⟨h, hp, _⟩ := e
  rw [Qip h hp]
  simp
/-! ### The first row of lefts -/
end M25
namespace M25
open Go Go.Abs M3
/-! ### When, Qhd by Qhd -/
/-! ### The Qfs world -/
end M25
namespace M25
open Go Go.Abs M3
/-! ### What a run is: steps, one open after the other -/
inductive Qkk (w : Zp) (db : List (List Qfw)) : List Qbr -> List Qbr -> Prop
 | nil (l : List Qbr) : Qkk w db l l
 | cons {l x : List Qbr} (a k : Nat) (ho : Qoj w db l a k) (h : Qkk w db (l ++ [QpX w l ((db[a]'ho.ha)[k]'ho.hk) a]) x) : Qkk w db l x
section
variable {w : Zp} {db : List (List Qfw)}
def Below (w : Zp) (b l : List Qbr) : Prop := ∀ u i, tb (QfG w b u) i = true -> tb (QfG w l u) i = true
/-! ### Sound: a choice stays -/
end
end M25
namespace M25
open Go Go.Abs M3
end M25
namespace M25
open Go Go.Abs M3
/-! ### More of runs -/
end M25
namespace M25
open Go Go.Abs M3
/-! ### The facts in another order -/
end M25
namespace M25
open Go Go.Abs M3
/-! ### How long a run is -/
structure Good (w : Zp) (l : List Qbr) : Prop where
 p : Qok w l
 nz : ∀ u, inW w u = true -> QfG w l u ≠ 0
 le : ∀ u i, tb (QfG w l u) i = true -> tb (QoP w u) i = true
end M25
namespace M25
open Go Go.Abs M3
/-! ### Masks are of values that there are -/
/-! ### Each Qhd of a run -/
end M25
namespace M25
open Go Go.Abs M3
end M25
namespace M25
open Go Go.Abs M3
/-! ### Derive again -/
/-! ### Sure, and what holds -/
end M25
namespace M25
open Go Go.Abs M3
/-! ### The choice that a trail has decided -/
end M25
namespace Go.Proofs
open Go Go.Abs M3 M25
set_option linter.unusedVariables false
set_option linter.unusedSimpArgs false
theorem QaY {a b : List Int} (ha : a.length <= 10000000) : Ok Try.prog 52 [dInts a, dInts b] (.bool (decide (a = b))) := by
 refine Ok.ofT Z2 Try.func52 Qqz (Nat.le_of_ble_eq_true Z) ?_
 show TW _ _ tf52.body _ _
 refine Qe fun K hK => Qa Z (hK _ _ (Qb (kp2 Z Z) ?_))
 refine QE ?_ -- 0
 refine Qe fun K hK => Qa Z ?_
 first | refine QY rfl Q2 ?_ | refine QY rfl rfl ?_
 refine Qa Z ?_
 first | refine QY rfl Q2 ?_ | refine QY rfl rfl ?_
 refine Xf Z Z (hK _ _ (Qb (kp3 Z Z Z) ?_))
 refine Qy Z (fun h1 => ?_) (fun h1 => ?_)
 ·try rw [h1]
  try simp only [qA] at h1
  refine Qe fun K hK => Qa Z (hK _ _ (Qb (kp1 Z) ?_))
  refine Qt (Qi (Qp Z ?_))
  rw [decide_eq_false fun e => h1 (by rw [e])]
 ·try rw [h1]
  try simp only [qA] at h1
  refine Qu (Qd (kp2 Z Z) ?_)
  refine QE ?_ -- 1
  refine Qe fun K hK => Qa Z (hK _ _ (Qb (kp3 Z Z Z) ?_))
  refine QG ?_
  refine ZL (ι := Nat) (fun i => ⟨[(0, dInts a), (1, dInts b), (5, .int .i64 i)], []⟩) (fun i => i <= a.length /\ a.take i = b.take i) (fun i => a.length - i) 0 ?_ ?_ ?_
  ·exact QU (kp3 rfl rfl rfl)
  ·exact ⟨Nat.zero_le _, by simp⟩
  intro i hI
  try dsimp only
  refine QE ?_ -- 2
  refine Qe fun K hK => Qa Z (Qa Z ?_)
  first | refine QY rfl Q2 ?_ | refine QY rfl rfl ?_
  refine Yx Z Z (hK _ _ (Qb (kp4 Z Z Z Z) ?_))
  refine Qy Z (fun h2 => ?_) (fun h2 => ?_)
  ·try rw [h2]
   try simp only [qA] at h2
   refine Qu (Qd (kp3 Z Z Z) ?_)
   refine QE ?_ -- 3
   refine QG (Qe fun K hK => Qa Z (Qa Z (QN Z Z Z (by omega) (Zf (by omega)) Z (Zq (ds0 := [0]) Z Z Z Z Z (Qa Z (Qa Z (QN Z Z Z (by omega) (Zf (by omega)) Z (Zq (ds0 := [0]) Z Z Z Z Z ?_))))))))
   first | refine Xf rfl rfl ?_ | refine Qhj rfl rfl ?_
   refine hK _ _ (Qb (kp4 Z Z Z Z) ?_)
   refine Qy Z (fun h3 => ?_) (fun h3 => ?_)
   ·try rw [h3]
    try simp only [qA] at h3
    refine Qe fun K hK => Qa Z (hK _ _ (Qb (kp1 Z) ?_))
    refine Qt (Qq (Qi (Q1 (Qq (Qi (Qp Z ?_))))))
    rw [Qls (i := i) (by omega) (by omega) h3]
   ·try rw [h3]
    try simp only [qA] at h3
    refine Qu (Qg (Qd (kp3 Z Z Z) (Q4 fun K hK => Qa Z (Zc Z Z (by first | exact Qr (by omega) (by omega) | exact QH (by omega) (by omega) | exact QO (by omega) (by omega) | rfl) (Qa Z (hK _ ?_))))))
    refine Qj (i + 1) ?_ ?_ ?_
    ·exact QU (kp3 rfl rfl rfl)
    ·exact ⟨by omega, Qih (by omega) (by omega) hI.2 h3⟩
    ·first | omega | (simp only; omega) | (dsimp only; omega)
  ·try rw [h2]
   try simp only [qA] at h2
   refine Zk (QI (Qw (QD (Qd (QP) (Qe fun K hK => Qa Z (hK _ _ (Qb (kp1 Z) ?_)))))))
   refine Qt (Qp Z ?_)
   rw [List.take_of_length_le (by omega), List.take_of_length_le (by omega)] at hI; exact (decide_eq_true hI.2).symm
end Go.Proofs
namespace Go.Proofs
open Go Go.Abs M3 M25
set_option linter.unusedVariables false
set_option linter.unusedSimpArgs false
theorem Xo {s : St} {args : List Opd} {kg : Nat} {L : List Int} {I n : Int} {et : Nat} (ha : Zu s args = some [.ref kg 0 0, .int .i64 n]) (hg : lk s.H kg = some (gB L I et)) (hL : ∀ x ∈ L, I64 x) (hn : n <= 9223372036854775807) : Qa0 Try.prog 28 args s [(kg, gB L I et)] [] [(kg, gB L (nxI I) et)] (.int .i64 (nx L I n)) := by
 refine Qi7 (b' := gB L (nxI I) et) (ds' := [.ref (upN kg) 0 0, .int .i64 n]) ha (fun j x h => ?_) (fun k b hk j hj => ?_) (fun x hx j hj => ?_) ?_ Z Z Z Z ?_
 ·obtain ⟨rfl, rfl⟩ := XU h; exact hg
 ·obtain ⟨rfl, rfl⟩ := XU hk; simp [Box.ids, gB] at hj
 ·simp only [List.mem_cons, List.not_mem_nil, or_false] at hx
  rcases hx with rfl | rfl
  ·simp [D.ids, D.sid] at hj; subst hj; rw [Qx]; rfl
  ·simp [D.ids, D.sid] at hj
 ·rw [Qx]; rfl
 ·exact XE (by unfold upN; omega) hL hn et
theorem QcW {H : List (Nat × Box)} {kg kc : Nat} {L : List Int} {I : Int} {eg ec : Nat} {pr : Bool} {zs : List CR} (hkg : 1000000 <= kg) (hg : lk H kg = some (gB L I eg)) (hc : lk H kc = some ⟨zs.map dCR, 8, ec, pr⟩) (hne : kg ≠ kc) (hB : Big H) (hC : Closed H) (hL : ∀ x ∈ L, I64 x) (hz : ∀ z ∈ zs, QcR z.v) (hn : zs.length <= 16) : ∃ d H2, (∃ s I2, SetOk s /\ d = Qhc s /\ H2 = (kg, gB L I2 eg) :: H) /\ OkH Try.prog 59 [.ref kg 0 0, .osl kc zs.length] H d H2 := by
 have hkc := hB _ _ hc
 refine OkH.ofX (R := fun d H2 => ∃ s I2, SetOk s /\ d = Qhc s /\ H2 = (kg, gB L I2 eg) :: H) Z2 Try.func59 QqG (Nat.le_of_ble_eq_true Z) ?_
 show TX _ _ tf59.body _ _
 refine Q6 fun K hK => ?_
 refine ZF (by repeat (first | exact hB.none (by decide) | refine Zo (by first | decide | omega) ?_)) ?_
 refine hK _ _ (QK (kp3 Z Z Z) ?_)
 refine Q6 fun K hK => Qa Z (ZY (Xo (I := I) Z (Qk (by omega) hg) hL (by omega)) (Qa Z (hK _ _ (QK (kp4 Z Z Z Z) ?_))))
 refine Q6 fun K hK => QC (Z6) Z Z (.inl Z) ?_
 refine ZF (by repeat (first | exact hB.none (by decide) | refine Zo (by first | decide | omega) ?_)) ?_
 refine QS Z Z Z Z Z Z Z Z (hK _ _ (QK (kp5 Z Z Z Z Z) ?_))
 refine XD ?_ -- 0
 refine Q6 fun K hK => Qa Z (hK _ _ (QK (kp6 Z Z Z Z Z Z) ?_))
 refine YB ?_
 refine QdZ (ι := Nat × Qij) (fun ⟨i, s⟩ => ⟨[(0, .ref kg 0 0), (1, .osl kc zs.length), (4, .ref 4 0 0), (5, .int .i64 (nx L I 8)), (6, .ref 6 0 0), (7, .int .i64 i)], [(4, ⟨[[.fsl [], .fsl []]], 2, 74, true⟩), (6, ⟨[[ZQ s.1, ZQ s.2]], 2, 74, true⟩), (kg, gB L (nxI I) eg)] ++ H⟩) (fun ⟨i, s⟩ => i <= zs.length /\ QjY (bnd i - 4) s) (fun ⟨i, s⟩ => zs.length - i) (0, ([], [])) ?_ ?_ ?_
 ·exact Qe3 (l := [0, 1, 4, 5, 6, 7]) (B := [_, _, _, _]) (kp6 rfl rfl rfl rfl rfl rfl) rfl (by intro p hp; simp only [List.mem_cons, List.not_mem_nil, or_false] at hp; rcases hp with rfl | rfl | rfl <;> exact ⟨by repeat (first | exact Qx | refine Qk (by first | decide | omega) ?_), rfl⟩) rfl (by intro p hp h; simp only [List.mem_cons, List.not_mem_nil, or_false] at hp; rcases hp with rfl | rfl | rfl | rfl <;> first | (simp only at h; omega) | (repeat (first | exact QZ | refine QT ?_))) hB hC (by intro p hp k hk; simp only [List.mem_cons, List.not_mem_nil, or_false] at hp; rcases hp with rfl | rfl | rfl | rfl | rfl | rfl <;> first | (simp [D.ids, D.sid, Q9, QR, dInts] at hk; done) | (simp [D.ids, D.sid, Q9, QR, dInts] at hk; subst hk; repeat (first | exact QZ | exact Zr hg | exact Zr hc | refine QT ?_)))
 ·exact ⟨Nat.zero_le _, SmN.nil _, SmN.nil _⟩
 intro ⟨i, s⟩ hI
 try dsimp only at hI
 have hb16 := QmD (i := i) (by omega)
 try dsimp only
 refine XD ?_ -- 1
 refine Q6 fun K hK => Qa Z (Qa Z ?_)
 first | refine QY rfl Q2 ?_ | refine QY rfl rfl ?_
 refine Yx Z Z (hK _ _ (QK (kp7 Z Z Z Z Z Z Z) ?_))
 refine YF Z (fun h1 => ?_) (fun h1 => ?_)
 ·try rw [h1]
  try simp only [qA] at h1
  refine YX (Q5 (kp6 Z Z Z Z Z Z) ?_)
  refine XD ?_ -- 2
  refine YB (Q6 fun K hK => Qa Z (Qa Z (QfN Z (QjU (by omega) (by omega)) (Qos Z Z (by omega) (Qol Z Z (YI Z Z (hK _ _ (QK (kp7 Z Z Z Z Z Z Z) ?_))))))))
  refine YF Z (fun h2 => ?_) (fun h2 => ?_)
  ·try rw [h2]
   try simp only [qA] at h2
   have hvp := (hz _ (List.getElem_mem (show i < zs.length by omega))).1
   refine ZI fun K hK => QX (ds0 := [1, 0]) (cs := [_, _]) Z Z Z Z (by simp [Dr.ok, QbC]) Z (Qa Z (Qa Z (XC (ds0 := [4, 3, 2, 1, 0]) Z Z (Qk (by omega) (Qk (by omega) (Qk (by omega) hc))) (by simp) (by omega) (by omega) Z (by simp [Dr.ok, QbC]) Z (Qm Z (Zr (Qk (by omega) (Qk (by omega) (Qk (by omega) hc)))) (QX (ds0 := [2, 1, 0]) (cs := [_, _, _, _, _]) Z (Z5 (Qk (by omega) (Qk (by omega) (Qk (by omega) hc))) (Zf (by omega))) Z Z (by simp [Dr.ok, QbC]) Z (Zd (ds0 := [1, 0]) (XP (hz _ (List.getElem_mem (by omega))).1 (hz _ (List.getElem_mem (by omega))).2) Z Z (.inl Z) (by simp [Dr.ok, QbC]) Z (Zd (ds0 := [0]) (QdE (a := s) (b := (Xd (zs[i]'(by omega)).v.a (zs[i]'(by omega)).v.b (zs[i]'(by omega)).v.c (zs[i]'(by omega)).v.p (zs[i]'(by omega)).v.q)) (hI.2.1.sm (by omega)) (hI.2.2.sm (by omega)) ((Qb4 hvp).1.sm (by omega)) ((Qb4 hvp).2.sm (by omega)) (by have := hI.2.1.1; have := (Qb4 (a := (zs[i]'(by omega)).v.a) (b := (zs[i]'(by omega)).v.b) (c := (zs[i]'(by omega)).v.c) (q := (zs[i]'(by omega)).v.q) hvp).1.1; omega) (by have := hI.2.2.1; have := (Qb4 (a := (zs[i]'(by omega)).v.a) (b := (zs[i]'(by omega)).v.b) (c := (zs[i]'(by omega)).v.c) (q := (zs[i]'(by omega)).v.q) hvp).2.1; omega)) Z Z (.inl Z) (by simp [Dr.ok, QbC]) Z (Y5 (ds0 := []) Z Z Z Z Z Z Z Z (by simp [Dr.ok, QbC]) Z (hK _ ?_)))))))))
   refine Qg (Q5 (kp6 Z Z Z Z Z Z) (ZI fun K hK => Qa Z (Zc Z Z (by first | exact Qr (by omega) (by omega) | rfl) (Qa Z (hK _ ?_)))))
   refine Qj (i + 1, QmL s (Xd (zs[i]'(by omega)).v.a (zs[i]'(by omega)).v.b (zs[i]'(by omega)).v.c (zs[i]'(by omega)).v.p (zs[i]'(by omega)).v.q)) ?_ ?_ ?_
   ·exact Qe3 (l := [0, 1, 4, 5, 6, 7]) (B := [_, _, _, _]) (kp6 rfl rfl rfl rfl rfl rfl) rfl (by intro p hp; simp only [List.mem_cons, List.not_mem_nil, or_false] at hp; rcases hp with rfl | rfl | rfl <;> exact ⟨by repeat (first | exact Qx | refine Qk (by first | decide | omega) ?_), rfl⟩) rfl (by intro p hp h; simp only [List.mem_cons, List.not_mem_nil, or_false] at hp; rcases hp with rfl | rfl | rfl | rfl <;> first | (simp only at h; omega) | (repeat (first | exact QZ | refine QT ?_))) hB hC (by intro p hp k hk; simp only [List.mem_cons, List.not_mem_nil, or_false] at hp; rcases hp with rfl | rfl | rfl | rfl | rfl | rfl <;> first | (simp [D.ids, D.sid, Q9, QR, dInts] at hk; done) | (simp [D.ids, D.sid, Q9, QR, dInts] at hk; subst hk; repeat (first | exact QZ | exact Zr hg | exact Zr hc | refine QT ?_)))
   ·exact ⟨by show i + 1 <= _; omega, Qo0 hI.2 (hz _ (List.getElem_mem (by omega))).1 (by omega)⟩
   ·show zs.length - (i + 1) < zs.length - i; omega
  ·try rw [h2]
   try simp only [qA] at h2
   have hvp := (hz _ (List.getElem_mem (show i < zs.length by omega))).1
   refine YX (Qg (Q5 (kp6 Z Z Z Z Z Z) (ZI fun K hK => Qa Z (Zc Z Z (by first | exact Qr (by omega) (by omega) | rfl) (Qa Z (hK _ ?_))))))
   refine Qj (i + 1, s) ?_ ?_ ?_
   ·exact Qe3 (l := [0, 1, 4, 5, 6, 7]) (B := [_, _, _]) (kp6 rfl rfl rfl rfl rfl rfl) rfl (by intro p hp; simp only [List.mem_cons, List.not_mem_nil, or_false] at hp; rcases hp with rfl | rfl | rfl <;> exact ⟨by repeat (first | exact Qx | refine Qk (by first | decide | omega) ?_), rfl⟩) rfl (by intro p hp h; simp only [List.mem_cons, List.not_mem_nil, or_false] at hp; rcases hp with rfl | rfl | rfl <;> first | (simp only at h; omega) | (repeat (first | exact QZ | refine QT ?_))) hB hC (by intro p hp k hk; simp only [List.mem_cons, List.not_mem_nil, or_false] at hp; rcases hp with rfl | rfl | rfl | rfl | rfl | rfl <;> first | (simp [D.ids, D.sid, Q9, QR, dInts] at hk; done) | (simp [D.ids, D.sid, Q9, QR, dInts] at hk; subst hk; repeat (first | exact QZ | exact Zr hg | exact Zr hc | refine QT ?_)))
   ·exact ⟨by show i + 1 <= _; omega, Qmq hI.2⟩
   ·show zs.length - (i + 1) < zs.length - i; omega
 ·try rw [h1]
  try simp only [qA] at h1
  refine Qcq (Y3 (Qw (QD (Q5 (kp3 Z Z Z) ?_))))
  refine XD ?_ -- 3
  refine Q6 fun K hK => Qa Z (ZY (Xo (I := nxI I) Z (Qk (by omega) (Qk (by omega) Qx)) hL (by omega)) (hK _ _ (QK (kp3 Z Z Z) ?_)))
  refine YB (Q6 fun K hK => YI Z Z (Qa Z (hK _ _ (QK (kp4 Z Z Z Z) ?_))))
  refine YF Z (fun h3 => ?_) (fun h3 => ?_)
  ·try rw [h3]
   try simp only [qA] at h3
   refine Q6 fun K hK => QC (QcZ) Z Z (.inl Z) (QS Z (Qk (by omega) Z) Z Z Z Z Z Z (hK _ _ (QK (kp1 Z) ?_)))
   refine Qfx (Qq (QjQ ?_))
   refine ⟨Qhc Qkn, (kg, gB L (nxI (nxI I)) eg) :: H, ⟨Qkn, _, ⟨QmA.1.up (by omega), QmA.2.up (by omega)⟩, rfl, rfl⟩, (XA hB hC hkg rfl).1, (XA hB hC hkg rfl).2, ?_⟩
   refine Qcb (cs := [ZQ Qkn.1, ZQ Qkn.2]) Z (Z5 (by repeat (first | exact Qx | refine Qk (by first | decide | omega) ?_)) Z) Z Z Z ?_
   exact Qar (B := [_, _, _, _, _]) hB (by repeat (first | exact Qx | refine Qk (by first | decide | omega) ?_)) (by intro p hp h; simp only [List.mem_cons, List.not_mem_nil, or_false] at hp; rcases hp with rfl | rfl | rfl | rfl | rfl <;> first | rfl | (simp only at h; omega))
  ·try rw [h3]
   try simp only [qA] at h3
   refine Q6 fun K hK => YI Z Z (Qa Z (hK _ _ (QK (kp3 Z Z Z) ?_)))
   refine YF Z (fun h4 => ?_) (fun h4 => ?_)
   ·try rw [h4]
    try simp only [qA] at h4
    refine Q6 fun K hK => QM (cs := [_, _]) Z (Z5 (Qk (by omega) Z) Z) Z Z (QC (Qc0 (a := s) (hI.2.1.sm (by omega)) (hI.2.2.sm (by omega))) Z Z (.inl Z) (QS Z (Qk (by omega) Z) Z Z Z Z Z Z (hK _ _ (QK (kp1 Z) ?_))))
    refine Qfx (Qq (QjQ ?_))
    refine ⟨Qhc (QgN s), (kg, gB L (nxI (nxI I)) eg) :: H, ⟨(QgN s), _, ⟨(Qk7 hI.2 (by omega)).1.up (by omega), (Qk7 hI.2 (by omega)).2.up (by omega)⟩, rfl, rfl⟩, (XA hB hC hkg rfl).1, (XA hB hC hkg rfl).2, ?_⟩
    refine Qcb (cs := [ZQ (QgN s).1, ZQ (QgN s).2]) Z (Z5 (by repeat (first | exact Qx | refine Qk (by first | decide | omega) ?_)) Z) Z Z Z ?_
    exact Qar (B := [_, _, _, _, _]) hB (by repeat (first | exact Qx | refine Qk (by first | decide | omega) ?_)) (by intro p hp h; simp only [List.mem_cons, List.not_mem_nil, or_false] at hp; rcases hp with rfl | rfl | rfl | rfl | rfl <;> first | rfl | (simp only at h; omega))
   ·try rw [h4]
    try simp only [qA] at h4
    refine YX (Qg (Q5 (kp2 Z Z) (Q6 fun K hK => QM (cs := [_, _]) Z (Z5 (Qk (by omega) Z) Z) Z Z (QS Z (Qk (by omega) Z) Z Z Z Z Z Z (hK _ _ (QK (kp1 Z) ?_))))))
    refine Qfx ?_
    refine ⟨Qhc s, (kg, gB L (nxI (nxI I)) eg) :: H, ⟨s, _, ⟨hI.2.1.up (by omega), hI.2.2.up (by omega)⟩, rfl, rfl⟩, (XA hB hC hkg rfl).1, (XA hB hC hkg rfl).2, ?_⟩
    refine Qcb (cs := [ZQ s.1, ZQ s.2]) Z (Z5 (by repeat (first | exact Qx | refine Qk (by first | decide | omega) ?_)) Z) Z Z Z ?_
    exact Qar (B := [_, _, _, _, _]) hB (by repeat (first | exact Qx | refine Qk (by first | decide | omega) ?_)) (by intro p hp h; simp only [List.mem_cons, List.not_mem_nil, or_false] at hp; rcases hp with rfl | rfl | rfl | rfl | rfl <;> first | rfl | (simp only at h; omega))
end Go.Proofs
namespace Go.Proofs
open Go Go.Abs M3 M25
set_option linter.unusedVariables false
set_option linter.unusedSimpArgs false
/-- The call of 'set', over boxes that are lent. -/
theorem Qpx {H : List (Nat × Box)} {kg kc : Nat} {L : List Int} {I : Int} {eg ec : Nat} {pr : Bool} {zs : List CR} (hg : lk H kg = some (gB L I eg)) (hc : lk H kc = some ⟨zs.map dCR, 8, ec, pr⟩) (hne : kg ≠ kc) (hC : Closed H) (hL : ∀ x ∈ L, I64 x) (hz : ∀ z ∈ zs, QcR z.v) (hn : zs.length <= 16) :
  ∃ s I2, SetOk s /\ ∀ (st : St) (args : List Opd), Zu st args = some [.ref kg 0 0, .osl kc zs.length] -> (∀ j x, lk H j = some x -> lk st.H j = some x) -> Qa0 Try.prog 59 args st H [] [(kg, gB L I2 eg)] (Qhc s) := by
 obtain ⟨d, H2, ⟨s, I2, hs, rfl, rfl⟩, hok⟩ := QcW (H := upH H) (kg := upN kg) (kc := upN kc) (L := L) (I := I) (eg := eg) (ec := ec) (pr := pr) (zs := zs.map CR.ren) (by unfold upN; omega) (by rw [Qas, hg]; rfl) (by rw [Qas, hc, Option.map_some, Box.ren, Qku]) (fun e => hne (QiY e)) QiX (QdX hC) hL
  (fun z hz' => by obtain ⟨z0, h0, rfl⟩ := List.mem_map.1 hz'; exact hz z0 h0) (by simpa using hn)
 refine ⟨s, I2, hs, fun st args ha hF => Qi7 (b' := gB L I2 eg) (ds' := [.ref (upN kg) 0 0, .osl (upN kc) zs.length]) ha hF hC (fun x hx j hj => ?_) (Zr hg) Z Z Z Z ?_⟩
 ·simp only [List.mem_cons, List.not_mem_nil, or_false] at hx
  rcases hx with rfl | rfl
  ·simp [D.ids, D.sid] at hj; subst hj; exact Zr hg
  ·simp [D.ids, D.sid] at hj; subst hj; exact Zr hc
 ·rw [List.length_map] at hok; exact hok
theorem QcB {H : List (Nat × Box)} {kg ku : Nat} {L : List Int} {I : Int} {eg eu ec : Nat} {us : List UR} (hkg : 1000000 <= kg) (hg : lk H kg = some (gB L I eg)) (hU : Fam H kg ku eu ec us) (hB : Big H) (hC : Closed H) (hL : ∀ x ∈ L, I64 x) (h2n : 2 <= us.length) (hn : us.length <= 48) : ∃ d H2, (∃ x I2, WantIn us.length x /\ d = .agg (Qfz x) /\ H2 = (kg, gB L I2 eg) :: H) /\ OkH Try.prog 29 [.ref kg 0 0, .osl ku us.length] H d H2 := by
 obtain ⟨pu, hu⟩ := hU.u
 have hku := hB _ _ hu
 have hne := hU.ne
 have hx0 := Qfd (v := QlF L (IntKind.i64.wrap (nxI I - 1))) (n := (us.length : Int) - 1)
 have hx1 := Qfc (v := QlF L (IntKind.i64.wrap (nxI I - 1))) (n := (us.length : Int) - 1) (by omega)
 change 0 <= nx L I ((us.length : Int) - 1) at hx0
 change nx L I ((us.length : Int) - 1) < _ at hx1
 obtain ⟨hyk, pr, hy⟩ := hU.c (us[(1 + nx L I ((us.length : Int) - 1)).toNat]'(by omega)) (List.getElem_mem _)
 obtain ⟨hv1, hv2⟩ := hU.v (us[(1 + nx L I ((us.length : Int) - 1)).toNat]'(by omega)) (List.getElem_mem _)
 obtain ⟨s, I2, hs, hcall⟩ := Qpx (H := (kg, gB L (nxI I) eg) :: H) Qx (Qk (Ne.symm hyk) hy) (Ne.symm hyk) (hC.pr rfl) hL hv2 hv1
 refine OkH.ofX (R := fun d H2 => ∃ x I2, WantIn us.length x /\ d = .agg (Qfz x) /\ H2 = (kg, gB L I2 eg) :: H) Z2 Try.func29 Qqf (Nat.le_of_ble_eq_true Z) ?_
 show TX _ _ tf29.body _ _
 refine Q6 fun K hK => ?_
 refine ZF (by repeat (first | exact hB.none (by decide) | refine Zo (by first | decide | omega) ?_)) ?_
 refine hK _ _ (QK (kp3 Z Z Z) ?_)
 refine Q6 fun K hK => Qa Z (Qa Z ?_)
 first | refine QY rfl Q2 ?_ | refine QY rfl rfl ?_
 refine QcQ Z Z (by first | exact Qr (by omega) (by omega) | rfl) (ZY (Xo (I := I) Z (Qk (by omega) hg) hL (by omega)) (Zc Z Z (by first | exact Qr (by omega) (by omega) | rfl) (Qa Z (hK _ _ (QK (kp4 Z Z Z Z) ?_)))))
 refine Q6 fun K hK => Qa rfl (Qa rfl (Qa rfl (Qa rfl (Y4 rfl rfl (Qk (by omega) (Qk (by omega) hu)) (by simp) (by omega) (by omega) rfl (Qm rfl (Zr (Qk (by omega) (Qk (by omega) hu))) (QF rfl (Z5 (Qk (by omega) (Qk (by omega) hu)) (Xk (by omega) (by omega))) rfl (ZY (hcall _ _ rfl (Qar (B := [_, _]) hB Qx (by intro p hp h; simp only [List.mem_cons, List.not_mem_nil, or_false] at hp; rcases hp with rfl | rfl <;> first | rfl | (simp only at h; omega)))) (Q3 rfl rfl (QS rfl (Qk (by omega) (Qk (by omega) rfl)) rfl rfl rfl rfl rfl rfl (hK _ _ (QK (kp1 rfl) ?_)))))))))))
 refine Qfx ?_
 refine ⟨.agg (Qfz ⟨1 + nx L I ((us.length : Int) - 1), s⟩), (kg, gB L I2 eg) :: H, ⟨⟨1 + nx L I ((us.length : Int) - 1), s⟩, _, ⟨by show 1 <= 1 + _; omega, by show 1 + _ < (us.length : Int); omega, hs⟩, rfl, rfl⟩, (XA hB hC hkg rfl).1, (XA hB hC hkg rfl).2, ?_⟩
 refine Qcb (cs := Qfz ⟨1 + nx L I ((us.length : Int) - 1), s⟩) Z (Z5 (by repeat (first | exact Qx | refine Qk (by first | decide | omega) ?_)) Z) Z Z Z ?_
 exact Qar (B := [_, _, _, _]) hB (by repeat (first | exact Qx | refine Qk (by first | decide | omega) ?_)) (by intro p hp h; simp only [List.mem_cons, List.not_mem_nil, or_false] at hp; rcases hp with rfl | rfl | rfl | rfl <;> first | rfl | (simp only at h; omega))
/-- The call of 'want'. -/
theorem QjI {H : List (Nat × Box)} {kg ku : Nat} {L : List Int} {I : Int} {eg eu ec : Nat} {us : List UR} (hg : lk H kg = some (gB L I eg)) (hU : Fam H kg ku eu ec us) (hC : Closed H) (hL : ∀ x ∈ L, I64 x) (h2 : 2 <= us.length) (hn : us.length <= 48) :
  ∃ x I2, WantIn us.length x /\ ∀ (st : St) (args : List Opd), Zu st args = some [.ref kg 0 0, .osl ku us.length] -> (∀ j x, lk H j = some x -> lk st.H j = some x) -> Qa0 Try.prog 29 args st H [] [(kg, gB L I2 eg)] (.agg (Qfz x)) := by
 obtain ⟨d, H2, ⟨x, I2, hx, rfl, rfl⟩, hok⟩ := QcB (H := upH H) (kg := upN kg) (ku := upN ku) (L := L) (I := I) (eg := eg) (eu := eu) (ec := ec) (us := us.map UR.ren) (by unfold upN; omega) (by rw [Qas, hg]; rfl) hU.up QiX (QdX hC) hL (by simpa using h2) (by simpa using hn)
 obtain ⟨pu, hu⟩ := hU.u
 rw [List.length_map] at hx hok
 refine ⟨x, I2, hx, fun st args ha hF => Qi7 (b' := gB L I2 eg) (ds' := [.ref (upN kg) 0 0, .osl (upN ku) us.length]) ha hF hC (fun x hx j hj => ?_) (Zr hg) Z Z Z Z hok⟩
 simp only [List.mem_cons, List.not_mem_nil, or_false] at hx
 rcases hx with rfl | rfl
 ·simp [D.ids, D.sid] at hj; subst hj; exact Zr hg
 ·simp [D.ids, D.sid] at hj; subst hj; exact Zr hu
end Go.Proofs
namespace Go.Proofs
open Go Go.Abs M3 M25
set_option linter.unusedVariables false
set_option linter.unusedSimpArgs false
theorem Qch {H : List (Nat × Box)} {kg ku : Nat} {L : List Int} {I most : Int} {eg eu ec : Nat} {us : List UR} (hkg : 1000000 <= kg) (hg : lk H kg = some (gB L I eg)) (hU : Fam H kg ku eu ec us) (hB : Big H) (hC : Closed H) (hL : ∀ x ∈ L, I64 x) (h2n : 2 <= us.length) (hn : us.length <= 48) (hm0 : 0 <= most) (hm1 : most <= 10) : ∃ d H2, (∃ ns I2, Qeu us.length most ns /\ d = QR ns /\ H2 = (kg, gB L I2 eg) :: H) /\ OkH Try.prog 26 [.ref kg 0 0, .osl ku us.length, .int .i64 most] H d H2 := by
 obtain ⟨pu, hu⟩ := hU.u
 have hku := hB _ _ hu
 have hne := hU.ne
 have hk0 : 0 <= nx L I (most + 1) := Qfd
 have hk1 : nx L I (most + 1) < most + 1 := Qfc (by omega)
 refine OkH.ofX (R := fun d H2 => ∃ ns I2, Qeu us.length most ns /\ d = QR ns /\ H2 = (kg, gB L I2 eg) :: H) Z2 Try.func26 Qqc (Nat.le_of_ble_eq_true Z) ?_
 show TX _ _ tf26.body _ _
 refine Q6 fun K hK => Qa Z (hK _ _ (QK (kp3 Z Z Z) ?_))
 refine Q6 fun K hK => Qa Z (hK _ _ (QK (kp4 Z Z Z Z) ?_))
 refine XD ?_ -- 0
 refine Q6 fun K hK => Qa Z (Qa Z (Zc Z Z (by first | exact Qr (by omega) (by omega) | rfl) (ZY (Xo (I := I) Z hg hL (by omega)) (Qa Z (hK _ _ (QK (kp4 Z Z Z Z) ?_))))))
 refine YB ?_
 refine QdZ (ι := Nat × List (List WantT) × Int) (fun ⟨k, ns, J⟩ => ⟨[(0, .ref kg 0 0), (1, .osl ku us.length), (7, .osl 7 ns.length), (8, .int .i64 k)], [(7, ⟨(ns).map (fun r => [Q9 r]), 1, 51, true⟩), (kg, gB L J eg)] ++ H⟩) (fun ⟨k, ns, J⟩ => (ns.length : Int) + k <= most /\ ∀ r ∈ ns, Qhl us.length r) (fun ⟨k, ns, J⟩ => k) ((nx L I (most + 1)).toNat, [], nxI I) ?_ ?_ ?_
 ·exact le_trans (XF 7 7 1 51 rfl (by repeat (first | exact hB.none (by decide) | refine Zo (by first | decide | omega) ?_))) (Qe3 (l := [0, 1, 7, 8]) (B := [_, _]) (kp4 rfl rfl rfl rfl) (by simp only [Int.toNat_of_nonneg hk0] <;> rfl) (by intro p hp; simp only [List.mem_cons, List.not_mem_nil, or_false] at hp; rcases hp with rfl | rfl <;> exact ⟨by repeat (first | exact Qx | refine Qk (by first | decide | omega) ?_), rfl⟩) rfl (by intro p hp h; simp only [List.mem_cons, List.not_mem_nil, or_false] at hp; rcases hp with rfl | rfl <;> first | (simp only at h; omega) | (repeat (first | exact QZ | refine QT ?_))) hB hC (by intro p hp k hk; simp only [List.mem_cons, List.not_mem_nil, or_false] at hp; rcases hp with rfl | rfl | rfl | rfl <;> first | (simp [D.ids, D.sid, Q9, QR, dInts] at hk; done) | (simp [D.ids, D.sid, Q9, QR, dInts] at hk; subst hk; repeat (first | exact QZ | exact Zr hg | exact Zr hu | refine QT ?_))))
 ·exact ⟨by simp only [List.length_nil]; omega, by simp⟩
 intro ⟨k, ns, J⟩ hI
 try dsimp only at hI
 try dsimp only
 refine XD ?_ -- 1
 refine Q6 fun K hK => Qa Z (Qcp Z Z (hK _ _ (QK (kp5 Z Z Z Z Z) ?_)))
 refine YF Z (fun h1 => ?_) (fun h1 => ?_)
 ·try rw [h1]
  try simp only [qA] at h1
  refine YX (Q5 (kp4 Z Z Z Z) ?_)
  refine XD ?_ -- 2
  refine YB (Q6 fun K hK => Qa Z (Qa Z ?_))
  obtain ⟨x1, J1, hx1, hc1⟩ := QjI (I := J) (H := (kg, gB L (J) eg) :: H) Qx hU.cons (hC.pr rfl) hL h2n hn
  refine ZY (hc1 _ _ rfl (Qar (B := [_, _]) hB (by repeat (first | exact Qx | refine Qk (by first | decide | omega) ?_)) (by intro p hp h; simp only [List.mem_cons, List.not_mem_nil, or_false] at hp; rcases hp with rfl | rfl <;> first | rfl | (simp only at h; omega)))) ?_
  refine QL Z (by repeat (first | exact hB.none (by decide) | refine Zo (by first | decide | omega) ?_)) ?_
  refine Qa Z (hK _ _ (QK (kp5 Z Z Z Z Z) ?_))
  refine Qkm (ι := List WantT × Int) (fun ⟨r, J4⟩ => ⟨[(0, .ref kg 0 0), (1, .osl ku us.length), (7, .osl 7 ns.length), (8, .int .i64 k), (9, Q9 r)], [(7, ⟨(ns).map (fun r => [Q9 r]), 1, 51, true⟩), (kg, gB L J4 eg)] ++ H⟩) (fun ⟨r, J4⟩ => Qhl us.length r) ?_ ?_
  ·skip
   refine Q6 fun K hK => Qa Z (ZY (Xo (I := J1) Z (Qk (by omega) Qx) hL (by omega)) (YI Z Z (hK _ _ (QK (kp6 Z Z Z Z Z Z) ?_))))
   refine YF Z (fun h2 => ?_) (fun h2 => ?_)
   ·try rw [h2]
    try simp only [qA] at h2
    refine ZI fun K hK => Qa Z (Qa Z (Qa Z ?_))
    obtain ⟨x2, J2, hx2, hc2⟩ := QjI (I := nxI J1) (H := (kg, gB L (nxI J1) eg) :: H) Qx hU.cons (hC.pr rfl) hL h2n hn
    refine ZY (hc2 _ _ rfl (Qar (B := [_, _, _, _, _]) hB (by repeat (first | exact Qx | refine Qk (by first | decide | omega) ?_)) (by intro p hp h; simp only [List.mem_cons, List.not_mem_nil, or_false] at hp; rcases hp with rfl | rfl | rfl | rfl | rfl <;> first | rfl | (simp only at h; omega)))) ?_
    refine QL Z (by repeat (first | exact hB.none (by decide) | refine Zo (by first | decide | omega) ?_)) ?_
    refine Qm3 Z Z (by simp [D.ids, D.sid]) ⟨_, rfl, rfl, rfl, rfl, rfl⟩ (by repeat (first | exact hB.none (by decide) | refine Zo (by first | decide | omega) ?_)) (Qk (by decide) (Qk (by omega) (Qk (by omega) Z))) Z Z Z (by simp) (by simp) ?_
    refine Qa Z (hK _ ?_)
    refine Zw ([x1, x2], J2) ?_ ?_
    ·exact le_trans (QiD (l := [0, 1, 7, 8]) (B := [_, _, _, _, _, _, _, _, _]) (A := [(7, ⟨(ns).map (fun r => [Q9 r]), 1, 51, true⟩), (kg, gB L J2 eg)]) 30 9 (kp4 rfl rfl rfl rfl) rfl rfl rfl (by first | (simp; done) | (simp; omega)) (by intro p hp hk; simp only [List.mem_cons, List.not_mem_nil, or_false] at hp; rcases hp with rfl | rfl | rfl | rfl <;> first | (simp [D.ids, D.sid, Q9, QR, dInts] at hk; done) | (simp [D.ids, D.sid, Q9, QR, dInts] at hk; omega)) (by intro p hp; simp only [List.mem_cons, List.not_mem_nil, or_false] at hp; rcases hp with rfl | rfl <;> exact ⟨by first | decide | (simp only; omega), by repeat (first | exact Qx | refine Qk (by first | decide | omega) ?_), rfl⟩) (by intro p hp h; simp only [List.mem_cons, List.not_mem_nil, or_false] at hp; rcases hp with rfl | rfl | rfl | rfl | rfl | rfl | rfl | rfl | rfl <;> first | (simp only at h; omega) | (repeat (first | exact QZ | refine QT ?_))) hB hC (by intro p hp k hk; simp only [List.mem_cons, List.not_mem_nil, or_false] at hp; rcases hp with rfl | rfl | rfl | rfl <;> first | (simp [D.ids, D.sid, Q9, QR, dInts] at hk; done) | (simp [D.ids, D.sid, Q9, QR, dInts] at hk; subst hk; repeat (first | exact QZ | exact Zr hg | exact Zr hu | refine QT ?_)))) (Qe3 (l := [0, 1, 7, 8, 9]) (B := [_, _]) (kp5 rfl rfl rfl rfl rfl) rfl (by intro p hp; simp only [List.mem_cons, List.not_mem_nil, or_false] at hp; rcases hp with rfl | rfl <;> exact ⟨by repeat (first | exact Qx | refine Qk (by first | decide | omega) ?_), rfl⟩) rfl (by intro p hp h; simp only [List.mem_cons, List.not_mem_nil, or_false] at hp; rcases hp with rfl | rfl <;> first | (simp only at h; omega) | (repeat (first | exact QZ | refine QT ?_))) hB hC (by intro p hp k hk; simp only [List.mem_cons, List.not_mem_nil, or_false] at hp; rcases hp with rfl | rfl | rfl | rfl | rfl <;> first | (simp [D.ids, D.sid, Q9, QR, dInts] at hk; done) | (simp [D.ids, D.sid, Q9, QR, dInts] at hk; subst hk; repeat (first | exact QZ | exact Zr hg | exact Zr hu | refine QT ?_))))
    ·exact QnT hx1 hx2
   ·try rw [h2]
    try simp only [qA] at h2
    refine YX ?_
    refine Zw ([x1], nxI J1) ?_ ?_
    ·exact le_trans (QiD (l := [0, 1, 7, 8]) (B := [_, _, _, _, _]) (A := [(7, ⟨(ns).map (fun r => [Q9 r]), 1, 51, true⟩), (kg, gB L (nxI J1) eg)]) 21 9 (kp4 rfl rfl rfl rfl) rfl (Qk (by omega) rfl) rfl (by first | (simp; done) | (simp; omega)) (by intro p hp hk; simp only [List.mem_cons, List.not_mem_nil, or_false] at hp; rcases hp with rfl | rfl | rfl | rfl <;> first | (simp [D.ids, D.sid, Q9, QR, dInts] at hk; done) | (simp [D.ids, D.sid, Q9, QR, dInts] at hk; omega)) (by intro p hp; simp only [List.mem_cons, List.not_mem_nil, or_false] at hp; rcases hp with rfl | rfl <;> exact ⟨by first | decide | (simp only; omega), by repeat (first | exact Qx | refine Qk (by first | decide | omega) ?_), rfl⟩) (by intro p hp h; simp only [List.mem_cons, List.not_mem_nil, or_false] at hp; rcases hp with rfl | rfl | rfl | rfl | rfl <;> first | (simp only at h; omega) | (repeat (first | exact QZ | refine QT ?_))) hB hC (by intro p hp k hk; simp only [List.mem_cons, List.not_mem_nil, or_false] at hp; rcases hp with rfl | rfl | rfl | rfl <;> first | (simp [D.ids, D.sid, Q9, QR, dInts] at hk; done) | (simp [D.ids, D.sid, Q9, QR, dInts] at hk; subst hk; repeat (first | exact QZ | exact Zr hg | exact Zr hu | refine QT ?_)))) (Qe3 (l := [0, 1, 7, 8, 9]) (B := [_, _]) (kp5 rfl rfl rfl rfl rfl) rfl (by intro p hp; simp only [List.mem_cons, List.not_mem_nil, or_false] at hp; rcases hp with rfl | rfl <;> exact ⟨by repeat (first | exact Qx | refine Qk (by first | decide | omega) ?_), rfl⟩) rfl (by intro p hp h; simp only [List.mem_cons, List.not_mem_nil, or_false] at hp; rcases hp with rfl | rfl <;> first | (simp only at h; omega) | (repeat (first | exact QZ | refine QT ?_))) hB hC (by intro p hp k hk; simp only [List.mem_cons, List.not_mem_nil, or_false] at hp; rcases hp with rfl | rfl | rfl | rfl | rfl <;> first | (simp [D.ids, D.sid, Q9, QR, dInts] at hk; done) | (simp [D.ids, D.sid, Q9, QR, dInts] at hk; subst hk; repeat (first | exact QZ | exact Zr hg | exact Zr hu | refine QT ?_))))
    ·exact QnS hx1
  intro ⟨r, J4⟩ hJ
  try dsimp only at hJ
  try dsimp only
  refine ZI fun K hK => Qa Z (Qa Z ?_)
  refine QL Z (by repeat (first | exact hB.none (by decide) | refine Zo (by first | decide | omega) ?_)) ?_
  refine QaK Z Z (fun _ h => Qau Z Z Z h) Z (by simp) Z Z Z (by simp; omega) (by simp; omega) (Qa Z (hK _ ?_))
  refine Qg (Q5 (kp4 Z Z Z Z) (ZI fun K hK => Qa Z (QcQ Z Z (by first | exact Qr (by omega) (by omega) | rfl) (Qa Z (hK _ ?_)))))
  refine Qj (k - 1, ns ++ [r], J4) ?_ ?_ ?_
  ·exact le_trans (QoO (B := [_, _, _, _]) 7 hB hC) (Qe3 (l := [0, 1, 7, 8]) (A := [(7, ⟨ns.map (fun r => [Q9 r]) ++ [[Q9 r]], 1, 51, true⟩), (kg, gB L J4 eg)]) (B := [_, _, _, _]) (kp4 rfl rfl rfl rfl) (by simp [D.scrub, show ¬ kg = 7 by omega, show ¬ ku = 7 by omega] <;> omega) (by intro p hp; simp only [List.mem_cons, List.not_mem_nil, or_false] at hp; rcases hp with rfl | rfl <;> exact ⟨by repeat (first | exact Qx | refine Qk (by first | decide | omega) ?_), rfl⟩) (by simp) (by intro p hp h; simp only [List.mem_cons, List.not_mem_nil, or_false] at hp; rcases hp with rfl | rfl | rfl | rfl <;> first | (simp only at h; omega) | (repeat (first | exact QZ | refine QT ?_))) hB hC (by intro p hp k hk; simp only [List.mem_cons, List.not_mem_nil, or_false] at hp; rcases hp with rfl | rfl | rfl | rfl <;> first | (simp [D.ids, D.sid, Q9, QR, dInts] at hk; done) | (simp [D.ids, D.sid, Q9, QR, dInts] at hk; subst hk; repeat (first | exact QZ | exact Zr hg | exact Zr hu | refine QT ?_))))
  ·exact ⟨by simp only [List.length_append, List.length_singleton]; omega, Qlo hI.2 hJ⟩
  ·show k - 1 < k; omega
 ·try rw [h1]
  try simp only [qA] at h1
  refine Qcq (Y3 (Qw (QD (Q5 (kp1 Z) (Q6 fun K hK => Qa Z (Qa Z (hK _ _ (QK (kp1 Z) ?_))))))))
  refine Qfx ?_
  refine ⟨QR ns, (kg, gB L J eg) :: H, ⟨ns, _, ⟨by omega, hI.2⟩, rfl, rfl⟩, (XA hB hC hkg rfl).1, (XA hB hC hkg rfl).2, ?_⟩
  refine XI Z (by simp [Qko, D.fz, D.fzS, Qfs, lk, D.can, D.canS, QR]) ?_
  exact Qar (B := [_, _]) hB (by repeat (first | exact Qx | refine Qk (by first | decide | omega) ?_)) (by intro p hp h; simp only [List.mem_cons, List.not_mem_nil, or_false] at hp; rcases hp with rfl | rfl <;> first | rfl | (simp only at h; omega))
end Go.Proofs
namespace Go.Proofs
open Go Go.Abs M3 M25
set_option linter.unusedVariables false
set_option linter.unusedSimpArgs false
theorem Qci {kg : Nat} {L : List Int} {I most : Int} {eg eu ec : Nat} (heu : eu = 45) (hec : ec = 53) (hkg : 1000000 <= kg) (hL : ∀ x ∈ L, I64 x) (hm0 : 1 <= most) (hm1 : most <= 5) : ∃ d H2, (∃ us I2, (UnitsIn us /\ 2 <= us.length /\ us.length <= 11) /\ d = .osl 500000 us.length /\ H2 = ((500000, ⟨us.map dUR, 3, eu, false⟩) :: fbx ec us) ++ [(kg, gB L I2 eg), (kg, gB L I eg)]) /\ OkH Try.prog 25 [.ref kg 0 0, .int .i64 most] [(kg, gB L I eg)] d H2 := by
 subst heu hec
 have e3 : ¬ kg = 500000 := by omega
 have k1 := Qmt (a := 18) (b := 500000) hkg (by decide) (by decide)
 have k2 := Qmt (a := 16) (b := 500001) hkg (by decide) (by decide)
 refine OkH.ofX (R := fun d H2 => ∃ us I2, (UnitsIn us /\ 2 <= us.length /\ us.length <= 11) /\ d = .osl 500000 us.length /\ H2 = ((500000, ⟨us.map dUR, 3, 45, false⟩) :: fbx 53 us) ++ [(kg, gB L I2 eg), (kg, gB L I eg)]) Z2 Try.func25 Qqb (Nat.le_of_ble_eq_true Z) ?_
 show TX _ _ tf25.body _ _
 refine Q6 fun K hK => Qa Z (hK _ _ (QK (kp2 Z Z) ?_))
 refine Q6 fun K hK => ?_
 refine QL Z (by repeat (first | exact Z | refine Zo (by first | decide | omega) ?_)) ?_
 refine Qa Z (hK _ _ (QK (kp3 Z Z Z) ?_))
 refine Qkl (QiD (l := [0, 1]) (B := [_]) (A := []) (H0 := [(kg, gB L I eg)]) 14 5 (kp2 rfl rfl) rfl rfl rfl rfl (by intro p hp hk; simp only [List.mem_cons, List.not_mem_nil, or_false] at hp; rcases hp with rfl | rfl <;> first | (simp [D.ids, D.sid, Q9, QR, dInts] at hk; done) | (simp [D.ids, D.sid, Q9, QR, dInts] at hk; omega)) (by intro p hp; cases hp) (by intro p hp h; simp only [List.mem_singleton] at hp; subst hp; simp only at h; omega) (fun k b h => by obtain ⟨rfl, rfl⟩ := XU h; exact hkg) (fun k b h j hj => by obtain ⟨rfl, rfl⟩ := XU h; simp [Box.ids, gB] at hj) (by intro p hp k hk; simp only [List.mem_cons, List.not_mem_nil, or_false] at hp; rcases hp with rfl | rfl <;> first | (simp [D.ids, D.sid, Q9, QR, dInts] at hk; done) | (simp [D.ids, D.sid, Q9, QR, dInts] at hk; subst hk; repeat (first | exact QZ | refine QT ?_)))) ?_
 refine Q6 fun K hK => Q3 Z Z ?_
 refine QL Z (by repeat (first | exact Z | refine Zo (by first | decide | omega) ?_)) ?_
 refine Q3 Z Z ?_
 refine QL Z (by repeat (first | exact Z | refine Zo (by first | decide | omega) ?_)) ?_
 refine Qa Z (hK _ _ (QK (kp4 Z Z Z Z) ?_))
 refine Q6 fun K hK => QC (Yq) Z Z (.inl Z) (Qa Z (hK _ _ (QK (kp5 Z Z Z Z Z) ?_)))
 refine XD ?_ -- 0
 refine Q6 fun K hK => Qa Z (hK _ _ (QK (kp6 Z Z Z Z Z Z) ?_))
 refine YB ?_
 refine QdZ (ι := List UR × Int × Nat) (fun ⟨us, J, n⟩ => ⟨[(0, .ref kg 0 0), (1, .int .i64 most), (5, .sl (Yf names5)), (6, .osl 500000 us.length), (7, .sl (versions.map dVr)), (8, .int .i64 n)], [(500000, ⟨(us).map dUR, 3, 45, false⟩), (kg, gB L (J) eg)] ++ fbx 53 (us)⟩) (fun ⟨us, J, n⟩ => UnitsIn us /\ us.length <= 1 + 2 * n /\ n <= 5 /\ 1 + n <= us.length) (fun ⟨us, J, n⟩ => 5 - n) ([u0 v0], I, 0) ?_ ?_ ?_
 ·refine QkY (l := [0, 1, 5, 6, 7, 8]) hkg (kp6 Z Z Z Z Z Z) ?_; simp only [List.map_cons, List.map_nil, D.ren, D.renS, k1, k2]; rfl
 ·exact ⟨UnitsIn.zero, by simp, by omega, by simp⟩
 intro ⟨us, J, n⟩ hI
 try dsimp only at hI
 have e1 : ¬ kg = 500001 + us.length := by omega
 have e2 : ¬ 500000 = 500001 + us.length := by omega
 have e4 : ¬ 500001 + us.length = 500000 := by omega
 have hx0 : 0 <= nx L J most := Qfd
 have hx1 : nx L J most < most := Qfc (by omega)
 have hn5 := Za
 have hv4 := QbZ
 try dsimp only
 refine XD ?_ -- 1
 refine Q6 fun K hK => Qa Z (Qa Z (Qa Z ?_))
 refine ZY (Xo (I := J) Z (by repeat (first | exact Qx | refine Qk (by omega) ?_)) hL (by omega)) ?_
 refine Zc Z Z (by first | exact Qr (by omega) (by omega) | rfl) (Yx Z Z (Qa Z ?_))
 refine QB (g := 26) Z (fun h1 => ?_) (fun h1 => ?_)
 ·try rw [h1]
  try simp only [qA] at h1
  refine Ql Z (Qa Z (Ql Z (Qa Z (Ql Z ?_))))
  first | refine QY rfl Q2 ?_ | refine QY rfl rfl ?_
  refine Ql Z (Yx Z Z (Qn Z Z (hK _ _ (QK (kp7 Z Z Z Z Z Z Z) ?_))))
  refine YF Z (fun h2 => ?_) (fun h2 => ?_)
  ·try rw [h2]
   try simp only [qA] at h2
   refine YX (Q5 (kp6 Z Z Z Z Z Z) ?_)
   refine XD ?_ -- 2
   refine YB (Q6 fun K hK => Qa Z (hK _ _ (QK (kp7 Z Z Z Z Z Z Z) ?_)))
   refine Q6 fun K hK => Qa Z ?_
   refine ZY (Xo (I := nxI J) Z (by repeat (first | exact Qx | refine Qk (by omega) ?_)) hL (by omega)) ?_
   refine Qa Z (hK _ _ (QK (kp8 Z Z Z Z Z Z Z Z) ?_))
   refine XD ?_ -- 3
   refine Q6 fun K hK => Qa Z (hK _ _ (QK (kp9 Z Z Z Z Z Z Z Z Z) ?_))
   refine YB ?_
   refine QdZ (ι := List CR × Nat) (fun ⟨cs, i⟩ => ⟨[(0, .ref kg 0 0), (1, .int .i64 most), (5, .sl (Yf names5)), (6, .osl 500000 us.length), (7, .sl (versions.map dVr)), (8, .int .i64 n), (9, .osl (500001 + us.length) cs.length), (10, .int .i64 (nx L (nxI J) 16)), (11, .int .i64 i)], [(500001 + (us).length, ⟨(cs).map dCR, 8, 53, true⟩), (500000, ⟨(us).map dUR, 3, 45, false⟩), (kg, gB L (nxI (nxI J)) eg)] ++ fbx 53 (us)⟩) (fun ⟨cs, i⟩ => i <= 4 /\ CsIn i cs) (fun ⟨cs, i⟩ => 4 - i) ([], 0) ?_ ?_ ?_
   ·exact le_trans (XF 9 (500001 + us.length) 8 53 rfl (by repeat (first | exact YS hI.1.keys (.inr (by omega)) | refine Zo (by omega) ?_))) (Qof (l := [0, 1, 5, 6, 7, 8, 9, 10, 11]) (B := [_, _, _, _, _]) (kp9 rfl rfl rfl rfl rfl rfl rfl rfl rfl) rfl hI.1.keys (by repeat (first | exact Qx | refine Qk (by omega) ?_)) (by repeat (first | exact Qx | refine Qk (by omega) ?_)) (by repeat (first | exact Qx | refine Qk (by omega) ?_)) (by intro p hp h; simp only [List.mem_cons, List.not_mem_nil, or_false] at hp; rcases hp with rfl | rfl | rfl | rfl | rfl <;> first | (simp only at h; omega) | exact .inl rfl | exact .inr rfl) (by intro p hp k hk; simp only [List.mem_cons, List.not_mem_nil, or_false] at hp; rcases hp with rfl | rfl | rfl | rfl | rfl | rfl | rfl | rfl | rfl <;> first | (simp [D.ids, D.sid, Q9, QR, dInts] at hk; done) | (simp [D.ids, D.sid, Q9, QR, dInts] at hk; subst hk; first | exact .inl rfl | exact .inr (.inl rfl) | exact .inr (.inr (.inl rfl)) | (refine .inr (.inr (.inl ?_)); simp; done) | (first | exact .inr (.inr ⟨_, List.mem_append_right _ (List.mem_singleton.2 rfl), rfl⟩) | exact .inr (.inr (.inr ⟨_, List.mem_append_right _ (List.mem_singleton.2 rfl), rfl⟩))))))
   ·exact ⟨by omega, CsIn.nil _⟩
   intro ⟨cs, i⟩ hC
   try dsimp only at hC
   have hcl := hC.2.1
   try dsimp only
   refine XD ?_ -- 4
   refine Q6 fun K hK => Qa Z (Qa Z ?_)
   first | refine QY rfl Q2 ?_ | refine QY rfl rfl ?_
   refine Yx Z Z (hK _ _ (QK (Qpe Z Z Z Z Z Z Z Z Z Z) ?_))
   refine YF Z (fun h3 => ?_) (fun h3 => ?_)
   ·try rw [h3]
    try simp only [qA] at h3
    refine YX (Q5 (kp9 Z Z Z Z Z Z Z Z Z) ?_)
    refine XD ?_ -- 5
    refine YB (Q6 fun K hK => Qa Z (Qa Z (QfN Z (QjU (by omega) (by omega)) (Qos Z Z (by omega) (Qol Z Z (YI Z Z (hK _ _ (QK (Qpe Z Z Z Z Z Z Z Z Z Z) ?_))))))))
    refine YF Z (fun h4 => ?_) (fun h4 => ?_)
    ·try rw [h4]
     try simp only [qA] at h4
     refine ZI fun K hK => Qa Z (Qa Z (Qa Z (QN Z Z Z (by omega) (Zf (by omega)) Z (QM (cs := [_, _, _, _, _]) Z Z Z Z (Q3 Z Z ?_)))))
     refine QL Z (by repeat (first | exact YS hI.1.keys (.inl (by omega)) | exact YS hK1.keys (.inl (by omega)) | refine Zo (by first | decide | omega) ?_)) ?_
     refine QaK (hk0 := by omega) Z Z (fun _ h => Qau Z Z Z h) (Qk (by omega) Qx) (by simp) Z Z Z (by simp; omega) (by simp; omega) (Qa Z (hK _ ?_))
     refine Qg (Q5 (kp9 Z Z Z Z Z Z Z Z Z) (ZI fun K hK => Qa Z (Zc Z Z (by first | exact Qr (by omega) (by omega) | rfl) (Qa Z (hK _ ?_)))))
     refine Qj (cs ++ [zr (versions[i]'(by omega)) 0], i + 1) ?_ ?_ ?_
     ·exact le_trans (QgJ (B := [_, _, _, _, _]) (500001 + us.length) (QeT _ _)) (Qof (l := [0, 1, 5, 6, 7, 8, 9, 10, 11]) (B := [_, _, _, _, _]) (kp9 rfl rfl rfl rfl rfl rfl rfl rfl rfl) (by simp [D.scrub, e1, e2, e3, e4] <;> omega) hI.1.keys (by rw [List.map_append]; exact Qx) (by repeat (first | exact Qx | exact Qjx (Qic hI.1.keys) | refine Qk (by omega) ?_)) (by repeat (first | exact Qx | refine Qk (by omega) ?_)) (by intro p hp h; simp only [List.mem_cons, List.not_mem_nil, or_false] at hp; rcases hp with rfl | rfl | rfl | rfl | rfl <;> first | (simp only at h; omega) | exact .inl rfl | exact .inr rfl) (by intro p hp k hk; simp only [List.mem_cons, List.not_mem_nil, or_false] at hp; rcases hp with rfl | rfl | rfl | rfl | rfl | rfl | rfl | rfl | rfl <;> first | (simp [D.ids, D.sid, Q9, QR, dInts] at hk; done) | (simp [D.ids, D.sid, Q9, QR, dInts] at hk; subst hk; first | exact .inl rfl | exact .inr (.inl rfl) | exact .inr (.inr (.inl rfl)) | (refine .inr (.inr (.inl ?_)); simp; done) | (first | exact .inr (.inr ⟨_, List.mem_append_right _ (List.mem_singleton.2 rfl), rfl⟩) | exact .inr (.inr (.inr ⟨_, List.mem_append_right _ (List.mem_singleton.2 rfl), rfl⟩))))))
     ·try dsimp only
      exact ⟨by omega, hC.2.snoc (Qlz (by omega))⟩
     ·show 4 - (i + 1) < 4 - i; omega
    ·try rw [h4]
     try simp only [qA] at h4
     refine YX (Qg (Q5 (kp9 Z Z Z Z Z Z Z Z Z) (ZI fun K hK => Qa Z (Zc Z Z (by first | exact Qr (by omega) (by omega) | rfl) (Qa Z (hK _ ?_))))))
     refine Qj (cs, i + 1) ?_ ?_ ?_
     ·exact Qof (l := [0, 1, 5, 6, 7, 8, 9, 10, 11]) (B := [_, _, _]) (kp9 rfl rfl rfl rfl rfl rfl rfl rfl rfl) rfl hI.1.keys (by repeat (first | exact Qx | refine Qk (by omega) ?_)) (by repeat (first | exact Qx | refine Qk (by omega) ?_)) (by repeat (first | exact Qx | refine Qk (by omega) ?_)) (by intro p hp h; simp only [List.mem_cons, List.not_mem_nil, or_false] at hp; rcases hp with rfl | rfl | rfl <;> first | (simp only at h; omega) | exact .inl rfl | exact .inr rfl) (by intro p hp k hk; simp only [List.mem_cons, List.not_mem_nil, or_false] at hp; rcases hp with rfl | rfl | rfl | rfl | rfl | rfl | rfl | rfl | rfl <;> first | (simp [D.ids, D.sid, Q9, QR, dInts] at hk; done) | (simp [D.ids, D.sid, Q9, QR, dInts] at hk; subst hk; first | exact .inl rfl | exact .inr (.inl rfl) | exact .inr (.inr (.inl rfl)) | (refine .inr (.inr (.inl ?_)); simp; done) | (first | exact .inr (.inr ⟨_, List.mem_append_right _ (List.mem_singleton.2 rfl), rfl⟩) | exact .inr (.inr (.inr ⟨_, List.mem_append_right _ (List.mem_singleton.2 rfl), rfl⟩)))))
     ·try dsimp only
      exact ⟨by omega, hC.2.keep⟩
     ·show 4 - (i + 1) < 4 - i; omega
   ·try rw [h3]
    try simp only [qA] at h3
    refine Qcq (Y3 (Qw (QD (Q5 (kp7 Z Z Z Z Z Z Z) (Q6 fun K hK => Qa Z (Qa Z (Qa Z (QN Z Z Z (by omega) (Zf (by omega)) Z (QF Z Z Z (Qa Z ?_))))))))))
    refine Q3 Z Z ?_
    refine QL Z (by repeat (first | exact YS hI.1.keys (.inl (by omega)) | exact YS hK1.keys (.inl (by omega)) | refine Zo (by first | decide | omega) ?_)) ?_
    refine Qgg (hk0 := by decide) Z Z (fun _ h => Qau Z Z Z h) (Qk (by omega) (Qk (by omega) Qx)) (by simp) Z Z (.inr (QjS hI.1.keys (by omega))) (by simp; omega) (by simp; omega) (Qa Z (hK _ _ (QK (kp7 Z Z Z Z Z Z Z) ?_)))
    have hc4 : CsIn 4 cs := ⟨by omega, hC.2.2⟩
    refine Qkl (le_trans (QgJ (B := [_, _, _, _, _]) 500000 (QeT _ _)) (Qo6 (u := (UR.mk (names5[n]'(by have := Za; omega)) [] (500001 + us.length) cs)) (l := [0, 1, 5, 6, 7, 8, 9]) (fr' := [(0, .ref kg 0 0), (1, .int .i64 most), (5, .sl (Yf names5)), (6, .osl 500000 (us ++ [(UR.mk (names5[n]'(by have := Za; omega)) [] (500001 + us.length) cs)]).length), (7, .sl (versions.map dVr)), (8, .int .i64 n), (9, .osl (500001 + us.length) cs.length)]) (B := [_, _, _, _, _]) (kp7 rfl rfl rfl rfl rfl rfl rfl) (by simp [D.scrub, e1, e2, e3, e4]) hI.1.keys rfl (by repeat (first | exact Qx | refine Qk (by omega) ?_)) (by rw [List.map_append]; exact Qx) (by repeat (first | exact Qx | refine Qk (by omega) ?_)) (by intro p hp h; simp only [List.mem_cons, List.not_mem_nil, or_false] at hp; rcases hp with rfl | rfl | rfl | rfl | rfl <;> first | (simp only at h; omega) | exact .inl rfl | exact .inr rfl) hkg (by omega) (by intro p hp k hk; simp only [List.mem_cons, List.not_mem_nil, or_false] at hp; rcases hp with rfl | rfl | rfl | rfl | rfl | rfl | rfl <;> first | (simp [D.ids, D.sid, Q9, QR, dInts] at hk; done) | (simp [D.ids, D.sid, Q9, QR, dInts] at hk; subst hk; first | exact .inl rfl | exact .inr (.inl rfl) | (first | exact .inr (.inr ⟨_, List.mem_append_right _ (List.mem_singleton.2 rfl), rfl⟩) | exact .inr (.inr (.inr ⟨_, List.mem_append_right _ (List.mem_singleton.2 rfl), rfl⟩))))))) ?_
    have hK1 := hI.1.snoc (n := (names5[n]'(by have := Za; omega))) (f := []) hc4.1 hc4.2
    have hl1 : (us ++ [(UR.mk (names5[n]'(by have := Za; omega)) [] (500001 + us.length) cs)]).length = us.length + 1 := by simp
    have f1 : ¬ kg = 500001 + (us ++ [(UR.mk (names5[n]'(by have := Za; omega)) [] (500001 + us.length) cs)]).length := by omega
    have f2 : ¬ 500000 = 500001 + (us ++ [(UR.mk (names5[n]'(by have := Za; omega)) [] (500001 + us.length) cs)]).length := by omega
    have f4 : ¬ 500001 + (us ++ [(UR.mk (names5[n]'(by have := Za; omega)) [] (500001 + us.length) cs)]).length = 500000 := by omega
    have f5 : ¬ 500001 + us.length = 500001 + (us ++ [(UR.mk (names5[n]'(by have := Za; omega)) [] (500001 + us.length) cs)]).length := by omega
    refine Q6 fun K hK => Qa Z (Yx Z Z (Qa Z ?_))
    refine QB (g := 67) Z (fun h5 => ?_) (fun h5 => ?_)
    ·try rw [h5]
     try simp only [qA] at h5
     refine Ql Z (Qa Z (Ql Z ?_))
     refine ZY (Xo (I := nxI (nxI J)) Z (by repeat (first | exact Qx | refine Qk (by omega) ?_)) hL (by omega)) ?_
     refine Ql Z (YI Z Z (Qn Z Z (hK _ _ (QK (kp8 Z Z Z Z Z Z Z Z) ?_))))
     refine YF Z (fun h6 => ?_) (fun h6 => ?_)
     ·try rw [h6]
      try simp only [qA] at h6
      refine Q6 fun K hK => Qa Z (hK _ _ (QK (kp8 Z Z Z Z Z Z Z Z) ?_))
      refine XD ?_ -- 6
      refine Q6 fun K hK => Qa Z (hK _ _ (QK (kp9 Z Z Z Z Z Z Z Z Z) ?_))
      refine YB ?_
      refine QdZ (ι := List CR × Nat × Int) (fun ⟨c2, m, J3⟩ => ⟨[(0, .ref kg 0 0), (1, .int .i64 most), (5, .sl (Yf names5)), (6, .osl 500000 (us ++ [(UR.mk (names5[n]'(by have := Za; omega)) [] (500001 + us.length) cs)]).length), (7, .sl (versions.map dVr)), (8, .int .i64 n), (9, .osl (500001 + us.length) cs.length), (12, .osl (500001 + (us ++ [(UR.mk (names5[n]'(by have := Za; omega)) [] (500001 + us.length) cs)]).length) c2.length), (13, .int .i64 m)], [(500001 + (us ++ [(UR.mk (names5[n]'(by have := Za; omega)) [] (500001 + us.length) cs)]).length, ⟨(c2).map dCR, 8, 53, true⟩), (500000, ⟨(us ++ [(UR.mk (names5[n]'(by have := Za; omega)) [] (500001 + us.length) cs)]).map dUR, 3, 45, false⟩), (kg, gB L (J3) eg)] ++ fbx 53 (us ++ [(UR.mk (names5[n]'(by have := Za; omega)) [] (500001 + us.length) cs)])⟩) (fun ⟨c2, m, J3⟩ => m <= cs.length /\ CsIn m c2) (fun ⟨c2, m, J3⟩ => cs.length - m) ([], 0, nxI (nxI (nxI J))) ?_ ?_ ?_
      ·exact le_trans (XF 12 (500001 + (us ++ [(UR.mk (names5[n]'(by have := Za; omega)) [] (500001 + us.length) cs)]).length) 8 53 rfl (by repeat (first | exact YS hK1.keys (.inr (by omega)) | refine Zo (by omega) ?_))) (Qof (l := [0, 1, 5, 6, 7, 8, 9, 12, 13]) (B := [_, _, _, _]) (kp9 rfl rfl rfl rfl rfl rfl rfl rfl rfl) rfl hK1.keys (by repeat (first | exact Qx | refine Qk (by omega) ?_)) (by repeat (first | exact Qx | refine Qk (by omega) ?_)) (by repeat (first | exact Qx | refine Qk (by omega) ?_)) (by intro p hp h; simp only [List.mem_cons, List.not_mem_nil, or_false] at hp; rcases hp with rfl | rfl | rfl | rfl <;> first | (simp only at h; omega) | exact .inl rfl | exact .inr rfl) (by intro p hp k hk; simp only [List.mem_cons, List.not_mem_nil, or_false] at hp; rcases hp with rfl | rfl | rfl | rfl | rfl | rfl | rfl | rfl | rfl <;> first | (simp [D.ids, D.sid, Q9, QR, dInts] at hk; done) | (simp [D.ids, D.sid, Q9, QR, dInts] at hk; subst hk; first | exact .inl rfl | exact .inr (.inl rfl) | exact .inr (.inr (.inl rfl)) | (refine .inr (.inr (.inl ?_)); simp; done) | (first | exact .inr (.inr ⟨_, List.mem_append_right _ (List.mem_singleton.2 rfl), rfl⟩) | exact .inr (.inr (.inr ⟨_, List.mem_append_right _ (List.mem_singleton.2 rfl), rfl⟩))))))
      ·exact ⟨by omega, CsIn.nil _⟩
      intro ⟨c2, m, J3⟩ hM
      try dsimp only at hM
      have hcl2 := hM.2.1
      try dsimp only
      refine XD ?_ -- 7
      refine Q6 fun K hK => Qa Z (Qa Z ?_)
      first | refine QY rfl Q2 ?_ | refine QY rfl rfl ?_
      refine Yx Z Z (hK _ _ (QK (Qpe Z Z Z Z Z Z Z Z Z Z) ?_))
      refine YF Z (fun h7 => ?_) (fun h7 => ?_)
      ·try rw [h7]
       try simp only [qA] at h7
       refine YX (Q5 (kp9 Z Z Z Z Z Z Z Z Z) ?_)
       refine XD ?_ -- 8
       refine YB (Q6 fun K hK => Qa Z ?_)
       refine ZY (Xo (I := J3) Z (by repeat (first | exact Qx | refine Qk (by omega) ?_)) hL (by omega)) ?_
       refine Qcp Z Z (hK _ _ (QK (Qpe Z Z Z Z Z Z Z Z Z Z) ?_))
       refine YF Z (fun h8 => ?_) (fun h8 => ?_)
       ·try rw [h8]
        try simp only [qA] at h8
        refine ZI fun K hK => Qa Z (Qa Z (Qa Z (Y4 Z Z (Qk (by omega) (Qk (by omega) (Qk (by omega) (Qk (by omega) (Qgw (u := (UR.mk (names5[n]'(by have := Za; omega)) [] (500001 + us.length) cs)) hI.1.keys Z))))) (by simp) (by omega) (by omega) Z (Qm Z (Zr (Qk (by omega) (Qk (by omega) (Qk (by omega) (Qk (by omega) (Qgw (u := (UR.mk (names5[n]'(by have := Za; omega)) [] (500001 + us.length) cs)) hI.1.keys Z)))))) (QM (cs := [_, _, _, _, _]) Z (Z5 (Qk (by omega) (Qk (by omega) (Qk (by omega) (Qk (by omega) (Qgw (u := (UR.mk (names5[n]'(by have := Za; omega)) [] (500001 + us.length) cs)) hI.1.keys Z))))) (Zf (l := cs) (by omega))) Z Z (Q3 Z Z ?_))))))
        refine QL Z (by repeat (first | exact YS hI.1.keys (.inl (by omega)) | exact YS hK1.keys (.inl (by omega)) | refine Zo (by first | decide | omega) ?_)) ?_
        refine QaK (hk0 := by omega) Z Z (fun _ h => Qau Z Z Z h) (Qk (by omega) (Qk (by omega) Qx)) (by simp) Z Z Z (by simp; omega) (by simp; omega) (Qa Z (hK _ ?_))
        refine Qg (Q5 (kp9 Z Z Z Z Z Z Z Z Z) (ZI fun K hK => Qa Z (Zc Z Z (by first | exact Qr (by omega) (by omega) | rfl) (Qa Z (hK _ ?_)))))
        refine Qj (c2 ++ [zr (cs[m]'(by omega)).v 0], m + 1, nxI J3) ?_ ?_ ?_
        ·exact le_trans (QgJ (B := [_, _, _, _, _, _]) (500001 + (us ++ [(UR.mk (names5[n]'(by have := Za; omega)) [] (500001 + us.length) cs)]).length) (QeT _ _)) (Qof (l := [0, 1, 5, 6, 7, 8, 9, 12, 13]) (B := [_, _, _, _, _, _]) (kp9 rfl rfl rfl rfl rfl rfl rfl rfl rfl) (by simp [D.scrub, f1, f2, f4, f5] <;> omega) hK1.keys (by rw [Qns (cs := c2)]; exact Qx) (by repeat (first | exact Qx | exact Qjx (Qic hK1.keys) | refine Qk (by omega) ?_)) (by repeat (first | exact Qx | refine Qk (by omega) ?_)) (by intro p hp h; simp only [List.mem_cons, List.not_mem_nil, or_false] at hp; rcases hp with rfl | rfl | rfl | rfl | rfl | rfl <;> first | (simp only at h; omega) | exact .inl rfl | exact .inr rfl) (by intro p hp k hk; simp only [List.mem_cons, List.not_mem_nil, or_false] at hp; rcases hp with rfl | rfl | rfl | rfl | rfl | rfl | rfl | rfl | rfl <;> first | (simp [D.ids, D.sid, Q9, QR, dInts] at hk; done) | (simp [D.ids, D.sid, Q9, QR, dInts] at hk; subst hk; first | exact .inl rfl | exact .inr (.inl rfl) | exact .inr (.inr (.inl rfl)) | (refine .inr (.inr (.inl ?_)); simp; done) | (first | exact .inr (.inr ⟨_, List.mem_append_right _ (List.mem_singleton.2 rfl), rfl⟩) | exact .inr (.inr (.inr ⟨_, List.mem_append_right _ (List.mem_singleton.2 rfl), rfl⟩))))))
        ·try dsimp only
         exact ⟨by omega, hM.2.snoc (hC.2.at (by omega))⟩
        ·show cs.length - (m + 1) < cs.length - m; omega
       ·try rw [h8]
        try simp only [qA] at h8
        refine YX (Qg (Q5 (kp9 Z Z Z Z Z Z Z Z Z) (ZI fun K hK => Qa Z (Zc Z Z (by first | exact Qr (by omega) (by omega) | rfl) (Qa Z (hK _ ?_))))))
        refine Qj (c2, m + 1, nxI J3) ?_ ?_ ?_
        ·exact Qof (l := [0, 1, 5, 6, 7, 8, 9, 12, 13]) (B := [_, _, _, _]) (kp9 rfl rfl rfl rfl rfl rfl rfl rfl rfl) rfl hK1.keys (by repeat (first | exact Qx | refine Qk (by omega) ?_)) (by repeat (first | exact Qx | refine Qk (by omega) ?_)) (by repeat (first | exact Qx | refine Qk (by omega) ?_)) (by intro p hp h; simp only [List.mem_cons, List.not_mem_nil, or_false] at hp; rcases hp with rfl | rfl | rfl | rfl <;> first | (simp only at h; omega) | exact .inl rfl | exact .inr rfl) (by intro p hp k hk; simp only [List.mem_cons, List.not_mem_nil, or_false] at hp; rcases hp with rfl | rfl | rfl | rfl | rfl | rfl | rfl | rfl | rfl <;> first | (simp [D.ids, D.sid, Q9, QR, dInts] at hk; done) | (simp [D.ids, D.sid, Q9, QR, dInts] at hk; subst hk; first | exact .inl rfl | exact .inr (.inl rfl) | exact .inr (.inr (.inl rfl)) | (refine .inr (.inr (.inl ?_)); simp; done) | (first | exact .inr (.inr ⟨_, List.mem_append_right _ (List.mem_singleton.2 rfl), rfl⟩) | exact .inr (.inr (.inr ⟨_, List.mem_append_right _ (List.mem_singleton.2 rfl), rfl⟩)))))
        ·try dsimp only
         exact ⟨by omega, hM.2.keep⟩
        ·show cs.length - (m + 1) < cs.length - m; omega
      ·try rw [h7]
       try simp only [qA] at h7
       refine Qcq (Y3 (Qw (QD (Q5 (kp7 Z Z Z Z Z Z Z) (ZI fun K hK => Qa Z (Qa Z (Qa Z (QN Z Z Z (by omega) (Zf (by omega)) Z (QF Z Z Z (Qa Z ?_))))))))))
       refine Q3 Z Z ?_
       refine QL Z (by repeat (first | exact YS hI.1.keys (.inl (by omega)) | exact YS hK1.keys (.inl (by omega)) | refine Zo (by first | decide | omega) ?_)) ?_
       refine Qgg (hk0 := by decide) Z Z (fun _ h => Qau Z Z Z h) (Qk (by omega) (Qk (by omega) Qx)) (by simp) Z Z (.inr (QjS hK1.keys (by omega))) (by simp; omega) (by simp; omega) (Qa Z (hK _ ?_))
       refine Qg (Q5 (kp6 Z Z Z Z Z Z) (ZI fun K hK => Qa Z (Zc Z Z (by first | exact Qr (by omega) (by omega) | rfl) (Qa Z (hK _ ?_)))))
       refine Qj (us ++ [(UR.mk (names5[n]'(by have := Za; omega)) [] (500001 + us.length) cs)] ++ [(UR.mk (names5[n]'(by have := Za; omega)) [102] (500001 + (us ++ [(UR.mk (names5[n]'(by have := Za; omega)) [] (500001 + us.length) cs)]).length) c2)], J3, n + 1) ?_ ?_ ?_
       ·exact le_trans (QgJ (B := [_, _, _, _, _]) 500000 (QeT _ _)) (Qo6 (u := (UR.mk (names5[n]'(by have := Za; omega)) [102] (500001 + (us ++ [(UR.mk (names5[n]'(by have := Za; omega)) [] (500001 + us.length) cs)]).length) c2)) (l := [0, 1, 5, 6, 7, 8]) (B := [_, _, _, _, _]) (kp6 rfl rfl rfl rfl rfl rfl) (by simp [D.scrub, f1, f2, e3, f4, e4] <;> omega) hK1.keys rfl (by repeat (first | exact Qx | refine Qk (by omega) ?_)) (by rw [Qn2 (u := (UR.mk (names5[n]'(by have := Za; omega)) [102] (500001 + (us ++ [(UR.mk (names5[n]'(by have := Za; omega)) [] (500001 + us.length) cs)]).length) c2))]; exact Qx) (by repeat (first | exact Qx | refine Qk (by omega) ?_)) (by intro p hp h; simp only [List.mem_cons, List.not_mem_nil, or_false] at hp; rcases hp with rfl | rfl | rfl | rfl | rfl <;> first | (simp only at h; omega) | exact .inl rfl | exact .inr rfl) hkg (by omega) (by intro p hp k hk; simp only [List.mem_cons, List.not_mem_nil, or_false] at hp; rcases hp with rfl | rfl | rfl | rfl | rfl | rfl <;> first | (simp [D.ids, D.sid, Q9, QR, dInts] at hk; done) | (simp [D.ids, D.sid, Q9, QR, dInts] at hk; subst hk; first | exact .inl rfl | exact .inr (.inl rfl) | (first | exact .inr (.inr ⟨_, List.mem_append_right _ (List.mem_singleton.2 rfl), rfl⟩) | exact .inr (.inr (.inr ⟨_, List.mem_append_right _ (List.mem_singleton.2 rfl), rfl⟩))))))
       ·try dsimp only
        exact ⟨hK1.snoc (by omega) hM.2.2, by simp; omega, by omega, by simp; omega⟩
       ·show 5 - (n + 1) < 5 - n; omega
     ·try rw [h6]
      try simp only [qA] at h6
      refine YX (Qg (Q5 (kp6 Z Z Z Z Z Z) (ZI fun K hK => Qa Z (Zc Z Z (by first | exact Qr (by omega) (by omega) | rfl) (Qa Z (hK _ ?_))))))
      refine Qj (us ++ [(UR.mk (names5[n]'(by have := Za; omega)) [] (500001 + us.length) cs)], nxI (nxI (nxI J)), n + 1) ?_ ?_ ?_
      ·exact QpU (l := [0, 1, 5, 6, 7, 8]) (B := [_, _, _]) (kp6 rfl rfl rfl rfl rfl rfl) rfl hK1.keys (by repeat (first | exact Qx | refine Qk (by omega) ?_)) (by repeat (first | exact Qx | refine Qk (by omega) ?_)) (by intro p hp h; simp only [List.mem_cons, List.not_mem_nil, or_false] at hp; rcases hp with rfl | rfl | rfl <;> first | (simp only at h; omega) | rfl) (by omega) (by intro p hp k hk; simp only [List.mem_cons, List.not_mem_nil, or_false] at hp; rcases hp with rfl | rfl | rfl | rfl | rfl | rfl <;> first | (simp [D.ids, D.sid, Q9, QR, dInts] at hk; done) | (simp [D.ids, D.sid, Q9, QR, dInts] at hk; subst hk; first | exact .inl rfl | exact .inr (.inl rfl) | (first | exact .inr (.inr ⟨_, List.mem_append_right _ (List.mem_singleton.2 rfl), rfl⟩) | exact .inr (.inr (.inr ⟨_, List.mem_append_right _ (List.mem_singleton.2 rfl), rfl⟩)))))
      ·try dsimp only
       exact ⟨hK1, by simp; omega, by omega, by simp; omega⟩
      ·show 5 - (n + 1) < 5 - n; omega
    ·try rw [h5]
     try simp only [qA] at h5
     refine QA Z (QA Z (QA Z (Qn Z Z (hK _ _ (QK (kp8 Z Z Z Z Z Z Z Z) ?_)))))
     refine Qio Z (YX (Qg (Q5 (kp6 Z Z Z Z Z Z) (ZI fun K hK => Qa Z (Zc Z Z (by first | exact Qr (by omega) (by omega) | rfl) (Qa Z (hK _ ?_)))))))
     refine Qj (us ++ [(UR.mk (names5[n]'(by have := Za; omega)) [] (500001 + us.length) cs)], nxI (nxI J), n + 1) ?_ ?_ ?_
     ·exact QpU (l := [0, 1, 5, 6, 7, 8]) (B := [_, _]) (kp6 rfl rfl rfl rfl rfl rfl) rfl hK1.keys (by repeat (first | exact Qx | refine Qk (by omega) ?_)) (by repeat (first | exact Qx | refine Qk (by omega) ?_)) (by intro p hp h; simp only [List.mem_cons, List.not_mem_nil, or_false] at hp; rcases hp with rfl | rfl <;> first | (simp only at h; omega) | rfl) (by omega) (by intro p hp k hk; simp only [List.mem_cons, List.not_mem_nil, or_false] at hp; rcases hp with rfl | rfl | rfl | rfl | rfl | rfl <;> first | (simp [D.ids, D.sid, Q9, QR, dInts] at hk; done) | (simp [D.ids, D.sid, Q9, QR, dInts] at hk; subst hk; first | exact .inl rfl | exact .inr (.inl rfl) | (first | exact .inr (.inr ⟨_, List.mem_append_right _ (List.mem_singleton.2 rfl), rfl⟩) | exact .inr (.inr (.inr ⟨_, List.mem_append_right _ (List.mem_singleton.2 rfl), rfl⟩)))))
     ·try dsimp only
      exact ⟨hK1, by simp; omega, by omega, by simp; omega⟩
     ·show 5 - (n + 1) < 5 - n; omega
  ·try rw [h2]
   try simp only [qA] at h2
   refine Qcq (Y3 (Qw (QD (Q5 (kp1 Z) (Q6 fun K hK => Qa Z (Qa Z (hK _ _ (QK (kp1 Z) ?_))))))))
   refine Qfx ?_
   refine ⟨.osl 500000 us.length, ((500000, ⟨us.map dUR, 3, 45, false⟩) :: fbx 53 us) ++ [(kg, gB L (nxI J) eg), (kg, gB L I eg)], ⟨us, _, ⟨hI.1, by omega, by omega⟩, rfl, rfl⟩, (QaW (g3 := gB L J eg) hI.1.keys hkg Z Z (by omega)).1, (QaW (g3 := gB L J eg) hI.1.keys hkg Z Z (by omega)).2.1, XI Z Z (QaW (g3 := gB L J eg) hI.1.keys hkg Z Z (by omega)).2.2⟩
 ·try rw [h1]
  try simp only [qA] at h1
  refine QA Z (QA Z (QA Z (QA Z (Qn Z Z (hK _ _ (QK (kp7 Z Z Z Z Z Z Z) ?_))))))
  refine Qio Z (Qcq (Y3 (Qw (QD (Q5 (kp1 Z) (Q6 fun K hK => Qa Z (Qa Z (hK _ _ (QK (kp1 Z) ?_)))))))))
  refine Qfx ?_
  refine ⟨.osl 500000 us.length, ((500000, ⟨us.map dUR, 3, 45, false⟩) :: fbx 53 us) ++ [(kg, gB L (nxI J) eg), (kg, gB L I eg)], ⟨us, _, ⟨hI.1, by omega, by omega⟩, rfl, rfl⟩, (QaW (g3 := gB L J eg) hI.1.keys hkg Z Z (by omega)).1, (QaW (g3 := gB L J eg) hI.1.keys hkg Z Z (by omega)).2.1, XI Z Z (QaW (g3 := gB L J eg) hI.1.keys hkg Z Z (by omega)).2.2⟩
end Go.Proofs
