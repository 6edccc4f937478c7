/- Part 4 of the means of the proof: a verified abstract evaluator, the prepared functions, and contracts of functions. It states nothing of the claim by itself. -/
import Derived.Test.YtgikdkfobdfmfaaB3
set_option maxRecDepth 4000
set_option linter.unusedSimpArgs false
set_option linter.unusedVariables false
namespace Go.Proofs
open Go Go.Abs M3
set_option linter.unusedVariables false
set_option linter.unusedSimpArgs false
theorem Qam {s : List UInt8} (hl : s.length <= 1000000) : Ok Try.prog 89 [.str s] (.tup [.int .i64 (Ya s).1, .bool (Ya s).2]) := by
 refine Ok.ofT Z2 Try.func89 Qp5 (Nat.le_of_ble_eq_true Z) ?_
 show TW _ _ tf89.body _ _
 refine Qe fun K hK => Qa Z (Qa Z (hK _ _ (Qb (kp1 Z) ?_)))
 refine QjD (ι := Unit) (fun _u => ⟨[(0, .str s)], []⟩) (fun _u => ¬ (s = [] \/ 4 < s.length \/ (1 < s.length /\ s.head? = some 48))) ?_ ?_
 ·skip
  refine Qe fun K hK => Qa Z (Qbd Z Z (Qa Z ?_))
  refine QA (g := 9) Z (fun h1 => ?_) (fun h1 => ?_)
  ·try rw [h1]
   try simp only [qB, Bool.and_eq_true, Bool.and_eq_false_iff, decide_eq_true_eq] at h1
   refine Qt Z (Qt Z (Qt Z (Ql Z Z (Qa Z (Qt Z (Qt Z (Qt Z (Qt Z (Qr Z (Qr Z (Qr Z ?_)))))))))))
   refine Qt Z (Ql Z Z (hK _ _ (Qb (kp2 Z Z) ?_)))
   refine ZH Z (Qe fun K hK => Qa Z (Qa Z (hK _ _ (Qb (kp2 Z Z) ?_))))
   refine Qs (QbJ (ZR Z Z ?_))
   first | (rw [Qaj (s := s) (by first | (left; assumption) | (right; omega))]; exact ⟨rfl, rfl⟩) | (rw [Yw (s := s) (by omega) (by assumption)]; exact ⟨rfl, rfl⟩) | (rw [Xe (s := s) (i := i) (by omega) (by simp [Yj]; omega)]; exact ⟨rfl, rfl⟩) | (rw [Qbx (s := s) (i := i) hJ (by omega) hI.2.1]; exact ⟨rfl, by simp [X7, D.fz, D.fzS, D.can, D.canS]; omega⟩)
  ·try rw [h1]
   try simp only [qB, Bool.and_eq_true, Bool.and_eq_false_iff, decide_eq_true_eq] at h1
   refine Qf Z (Qa Z (Qf Z (Yk Z (Qf Z (Qcm Z Z (Ql Z Z (Qa Z ?_)))))))
   refine QA (g := 14) Z (fun h2 => ?_) (fun h2 => ?_)
   ·try rw [h2]
    try simp only [qB, Bool.and_eq_true, Bool.and_eq_false_iff, decide_eq_true_eq] at h2
    refine Qt Z (Qt Z (Qt Z (Qt Z (Qr Z (Qr Z (Qr Z (Qt Z (Ql Z Z (hK _ _ (Qb (kp2 Z Z) ?_))))))))))
    refine ZH Z (Qe fun K hK => Qa Z (Qa Z (hK _ _ (Qb (kp2 Z Z) ?_))))
    refine Qs (QbJ (ZR Z Z ?_))
    first | (rw [Qaj (s := s) (by first | (left; assumption) | (right; omega))]; exact ⟨rfl, rfl⟩) | (rw [Yw (s := s) (by omega) (by assumption)]; exact ⟨rfl, rfl⟩) | (rw [Xe (s := s) (i := i) (by omega) (by simp [Yj]; omega)]; exact ⟨rfl, rfl⟩) | (rw [Qbx (s := s) (i := i) hJ (by omega) hI.2.1]; exact ⟨rfl, by simp [X7, D.fz, D.fzS, D.can, D.canS]; omega⟩)
   ·try rw [h2]
    try simp only [qB, Bool.and_eq_true, Bool.and_eq_false_iff, decide_eq_true_eq] at h2
    refine Qf Z (Qa Z (Qf Z (Yc Z Z (by omega) (X1 (i := 0) (List.length_pos_iff.2 (by assumption))) (Qf Z (Xk Z Z (Qf Z (Qa Z ?_)))))))
    refine QA (g := 18) Z (fun h3 => ?_) (fun h3 => ?_)
    ·try rw [h3]
     try simp only [qB, Bool.and_eq_true, Bool.and_eq_false_iff, decide_eq_true_eq] at h3
     refine Qf Z (Qa Z (Qf Z (Yk Z (Qf Z (Qcm Z Z (Qf Z (Ql Z Z (Ql Z Z (hK _ _ (Qb (kp2 Z Z) ?_))))))))))
     refine Qz Z (fun h4 => ?_) (fun h4 => ?_)
     ·try rw [h4]
      try simp only [qB, Bool.and_eq_true, Bool.and_eq_false_iff, decide_eq_true_eq] at h4
      refine Qe fun K hK => Qa Z (Qa Z (hK _ _ (Qb (kp2 Z Z) ?_)))
      refine Qs (QbJ (ZR Z Z ?_))
      first | (rw [Qaj (s := s) (by first | (left; assumption) | (right; omega))]; exact ⟨rfl, rfl⟩) | (rw [Yw (s := s) (by omega) (by assumption)]; exact ⟨rfl, rfl⟩) | (rw [Xe (s := s) (i := i) (by omega) (by simp [Yj]; omega)]; exact ⟨rfl, rfl⟩) | (rw [Qbx (s := s) (i := i) hJ (by omega) hI.2.1]; exact ⟨rfl, by simp [X7, D.fz, D.fzS, D.can, D.canS]; omega⟩)
     ·try rw [h4]
      try simp only [qB, Bool.and_eq_true, Bool.and_eq_false_iff, decide_eq_true_eq] at h4
      refine Qu ?_
      refine Xm () ?_ ?_
      ·exact QV (kp1 rfl)
      ·rintro (q | q | q) <;> first | (simp_all; done) | omega | exact Qf3 (s := s) (by omega) (by assumption) q.2
    ·try rw [h3]
     try simp only [qB, Bool.and_eq_true, Bool.and_eq_false_iff, decide_eq_true_eq] at h3
     refine Qt Z (Qt Z (Qt Z (Qf Z (Ql Z Z (Ql Z Z (hK _ _ (Qb (kp2 Z Z) ?_)))))))
     refine ZB Z (Qu ?_)
     refine Xm () ?_ ?_
     ·exact QV (kp1 rfl)
     ·rintro (q | q | q) <;> first | (simp_all; done) | omega | exact Qf3 (s := s) (by omega) (by assumption) q.2
 intro _u hJ
 try dsimp only
 refine Qe fun K hK => Qa Z (hK _ _ (Qb (kp2 Z Z) ?_))
 refine QF ?_ -- 1
 refine Qe fun K hK => Qa Z (QjC Z Z (hK _ _ (Qb (kp2 Z Z) ?_)))
 refine QH ?_
 refine ZQ (ι := Nat) (fun i => ⟨[(4, .int .i64 (val (s.take i))), (25, .ref 25 0 0)], [(25, ⟨[], 0, Zr s i, false⟩)]⟩) (fun i => i <= s.length /\ (s.take i).all Yj = true /\ s.length <= 4 /\ 0 < s.length) (fun i => s.length - i) 0 ?_ ?_ ?_
 ·exact Zp (l := [4, 25]) (lH := [25]) (kp2 rfl rfl) (QB rfl Qx) (by simp [val]) rfl rfl
 ·exact ⟨Nat.zero_le _, rfl, Nat.le_of_not_lt fun h => hJ (.inr (.inl h)), List.length_pos_iff.2 fun h => hJ (.inl h)⟩
 intro i hI
 have hv := QkO (s := s.take i) hI.2.1
 have hp : 10 ^ (s.take i).length <= 10 ^ 4 := Nat.pow_le_pow_right (by omega) (by simp; omega)
 have hI1 := hI.1
 have hI3 := hI.2.2.1
 try dsimp only
 refine Qe fun K hK => ?_
 rcases Nat.lt_or_ge (i) (s).length with h5 | h5
 ·rcases Nat.lt_or_ge (((s)[i]).toNat) 128 with h6 | h6
  ·refine Qis Z Z h5 (QgW h5 h6) (Zg Z Z (hK _ _ (Qb (kp4 Z Z Z Z) ?_)))
   refine QF ?_ -- 2
   refine ZH Z (Qu (Qd (kp3 Z Z Z) (QH (Qe fun K hK => Zg Z Z (Qa Z (hK _ _ (Qb (kp3 Z Z Z) ?_)))))))
   refine QH (Qe fun K hK => Qa Z (QgE Z Z (Qa Z ?_)))
   refine QA (g := 32) Z (fun h7 => ?_) (fun h7 => ?_)
   ·try rw [h7]
    try simp only [qB, Bool.and_eq_true, Bool.and_eq_false_iff, decide_eq_true_eq] at h7
    refine Qf Z (Qa Z (Qf Z (QkU Z Z (Ql Z Z (Qa Z (hK _ _ (Qb (kp4 Z Z Z Z) ?_)))))))
    refine Qz Z (fun h8 => ?_) (fun h8 => ?_)
    ·try rw [h8]
     try simp only [qB, Bool.and_eq_true, Bool.and_eq_false_iff, decide_eq_true_eq] at h8
     refine Q2 fun K hK => Qa Z (Qmo Z Z (by first | exact Qq (by omega) (by omega) | exact QJ (by omega) (by omega) | exact QM (by omega) (by omega) | rfl) (Qa Z (Qb7 Z Z (by first | exact Qq (by omega) (by omega) | exact QJ (by omega) (by omega) | exact QM (by omega) (by omega) | rfl) (QgD Z (by first | exact Qq (by omega) (by omega) | exact QJ (by omega) (by omega) | exact QM (by omega) (by omega) | rfl) (Zd Z Z (by first | exact Qq (by omega) (by omega) | exact QJ (by omega) (by omega) | exact QM (by omega) (by omega) | rfl) (Qa Z (hK _ ?_)))))))
     refine Qh (Qh ?_)
     refine Qj (i + 1) ?_ ?_ ?_
     ·first | exact Zp (l := [4, 25]) (lH := [25]) (kp2 rfl rfl) (QB rfl Qx) rfl rfl rfl | exact Zp (l := [4, 25]) (lH := [25]) (kp2 rfl rfl) (QB rfl Qx) (by rw [QdS (by omega)]; simp; omega) rfl rfl | (exfalso; omega)
     ·first | exact ⟨by omega, Zf (by omega) hI.2.1 (by simp [Yj]; omega), hI.2.2⟩ | (exfalso; omega)
     ·first | omega | (simp only; omega) | (dsimp only; omega)
    ·try rw [h8]
     try simp only [qB, Bool.and_eq_true, Bool.and_eq_false_iff, decide_eq_true_eq] at h8
     refine Qe fun K hK => Qa Z (Qa Z (hK _ _ (Qb (kp2 Z Z) ?_)))
     refine Qs (Qp (Qp (QZ (Qp (Qk (ZR Z Z ?_))))))
     first | (rw [Qaj (s := s) (by first | (left; assumption) | (right; omega))]; exact ⟨rfl, rfl⟩) | (rw [Yw (s := s) (by omega) (by assumption)]; exact ⟨rfl, rfl⟩) | (rw [Xe (s := s) (i := i) (by omega) (by simp [Yj]; omega)]; exact ⟨rfl, rfl⟩) | (rw [Qbx (s := s) (i := i) hJ (by omega) hI.2.1]; exact ⟨rfl, by simp [X7, D.fz, D.fzS, D.can, D.canS]; omega⟩)
   ·try rw [h7]
    try simp only [qB, Bool.and_eq_true, Bool.and_eq_false_iff, decide_eq_true_eq] at h7
    refine Qt Z (Qt Z (Ql Z Z (Qa Z (hK _ _ (Qb (kp4 Z Z Z Z) ?_)))))
    refine ZB Z (Qe fun K hK => Qa Z (Qa Z (hK _ _ (Qb (kp2 Z Z) ?_))))
    refine Qs (Qp (Qp (QZ (Qp (Qk (ZR Z Z ?_))))))
    first | (rw [Qaj (s := s) (by first | (left; assumption) | (right; omega))]; exact ⟨rfl, rfl⟩) | (rw [Yw (s := s) (by omega) (by assumption)]; exact ⟨rfl, rfl⟩) | (rw [Xe (s := s) (i := i) (by omega) (by simp [Yj]; omega)]; exact ⟨rfl, rfl⟩) | (rw [Qbx (s := s) (i := i) hJ (by omega) hI.2.1]; exact ⟨rfl, by simp [X7, D.fz, D.fzS, D.can, D.canS]; omega⟩)
  ·obtain ⟨cwh6, nwh6, hch6, hdh6⟩ := Qiy h5 h6
   refine Qis Z Z h5 hdh6 (Zg Z Z (hK _ _ (Qb (kp4 Z Z Z Z) ?_)))
   refine QF ?_ -- 2
   refine ZH Z (Qu (Qd (kp3 Z Z Z) (QH (Qe fun K hK => Zg Z Z (Qa Z (hK _ _ (Qb (kp3 Z Z Z) ?_)))))))
   refine QH (Qe fun K hK => Qa Z (QgE Z Z (Qa Z ?_)))
   refine QA (g := 32) Z (fun h9 => ?_) (fun h9 => ?_)
   ·try rw [h9]
    try simp only [qB, Bool.and_eq_true, Bool.and_eq_false_iff, decide_eq_true_eq] at h9
    refine Qf Z (Qa Z (Qf Z (QkU Z Z (Ql Z Z (Qa Z (hK _ _ (Qb (kp4 Z Z Z Z) ?_)))))))
    refine Qz Z (fun h10 => ?_) (fun h10 => ?_)
    ·try rw [h10]
     try simp only [qB, Bool.and_eq_true, Bool.and_eq_false_iff, decide_eq_true_eq] at h10
     refine Q2 fun K hK => Qa Z (Qmo Z Z (by first | exact Qq (by omega) (by omega) | exact QJ (by omega) (by omega) | exact QM (by omega) (by omega) | rfl) (Qa Z (Qb7 Z Z (by first | exact Qq (by omega) (by omega) | exact QJ (by omega) (by omega) | exact QM (by omega) (by omega) | rfl) (QgD Z (by first | exact Qq (by omega) (by omega) | exact QJ (by omega) (by omega) | exact QM (by omega) (by omega) | rfl) (Zd Z Z (by first | exact Qq (by omega) (by omega) | exact QJ (by omega) (by omega) | exact QM (by omega) (by omega) | rfl) (Qa Z (hK _ ?_)))))))
     refine Qh (Qh ?_)
     refine Qj (i + 1) ?_ ?_ ?_
     ·first | exact Zp (l := [4, 25]) (lH := [25]) (kp2 rfl rfl) (QB rfl Qx) rfl rfl rfl | exact Zp (l := [4, 25]) (lH := [25]) (kp2 rfl rfl) (QB rfl Qx) (by rw [QdS (by omega)]; simp; omega) rfl rfl | (exfalso; omega)
     ·first | exact ⟨by omega, Zf (by omega) hI.2.1 (by simp [Yj]; omega), hI.2.2⟩ | (exfalso; omega)
     ·first | omega | (simp only; omega) | (dsimp only; omega)
    ·try rw [h10]
     try simp only [qB, Bool.and_eq_true, Bool.and_eq_false_iff, decide_eq_true_eq] at h10
     refine Qe fun K hK => Qa Z (Qa Z (hK _ _ (Qb (kp2 Z Z) ?_)))
     refine Qs (Qp (Qp (QZ (Qp (Qk (ZR Z Z ?_))))))
     first | (rw [Qaj (s := s) (by first | (left; assumption) | (right; omega))]; exact ⟨rfl, rfl⟩) | (rw [Yw (s := s) (by omega) (by assumption)]; exact ⟨rfl, rfl⟩) | (rw [Xe (s := s) (i := i) (by omega) (by simp [Yj]; omega)]; exact ⟨rfl, rfl⟩) | (rw [Qbx (s := s) (i := i) hJ (by omega) hI.2.1]; exact ⟨rfl, by simp [X7, D.fz, D.fzS, D.can, D.canS]; omega⟩)
   ·try rw [h9]
    try simp only [qB, Bool.and_eq_true, Bool.and_eq_false_iff, decide_eq_true_eq] at h9
    refine Qt Z (Qt Z (Ql Z Z (Qa Z (hK _ _ (Qb (kp4 Z Z Z Z) ?_)))))
    refine ZB Z (Qe fun K hK => Qa Z (Qa Z (hK _ _ (Qb (kp2 Z Z) ?_))))
    refine Qs (Qp (Qp (QZ (Qp (Qk (ZR Z Z ?_))))))
    first | (rw [Qaj (s := s) (by first | (left; assumption) | (right; omega))]; exact ⟨rfl, rfl⟩) | (rw [Yw (s := s) (by omega) (by assumption)]; exact ⟨rfl, rfl⟩) | (rw [Xe (s := s) (i := i) (by omega) (by simp [Yj]; omega)]; exact ⟨rfl, rfl⟩) | (rw [Qbx (s := s) (i := i) hJ (by omega) hI.2.1]; exact ⟨rfl, by simp [X7, D.fz, D.fzS, D.can, D.canS]; omega⟩)
 ·refine QgH Z Z (by omega) (Zg Z Z (hK _ _ (Qb (kp4 Z Z Z Z) ?_)))
  refine QF ?_ -- 2
  refine ZB Z (Zu (QL (Qy (QI (Qd (kp1 Z) (Qe fun K hK => Qa Z (Qa Z (QkU Z Z (Qa Z (Qa Z ?_))))))))))
  refine hK _ _ (Qb (kp2 Z Z) ?_)
  refine Qs (ZR Z Z ?_)
  first | (rw [Qaj (s := s) (by first | (left; assumption) | (right; omega))]; exact ⟨rfl, rfl⟩) | (rw [Yw (s := s) (by omega) (by assumption)]; exact ⟨rfl, rfl⟩) | (rw [Xe (s := s) (i := i) (by omega) (by simp [Yj]; omega)]; exact ⟨rfl, rfl⟩) | (rw [Qbx (s := s) (i := i) hJ (by omega) hI.2.1]; exact ⟨rfl, by simp [X7, D.fz, D.fzS, D.can, D.canS]; omega⟩)
theorem Qao {s : List UInt8} (hl : s.length <= 1000000) : Ok Try.prog 86 [.str s] (.bool (Qb5 s)) := by
 refine Ok.ofT Z2 Try.func86 Qp2 (Nat.le_of_ble_eq_true Z) ?_
 show TW _ _ tf86.body _ _
 refine Qe fun K hK => Qa Z (hK _ _ (Qb (kp1 Z) ?_))
 refine Qmr (Qe fun K hK => Qa Z (QE (XL (by omega)) Z Z (.inl Z) (Qa Z (hK _ _ (Qb (kp1 Z) ?_)))))
 refine Qe fun K hK => Qa Z (Q4 Z Z (QkU Z Z (Qa Z (hK _ _ (Qb (kp2 Z Z) ?_)))))
 refine QF ?_ -- 0
 refine Qu (Qd (kp2 Z Z) ?_)
 refine QF ?_ -- 1
 refine Qe fun K hK => Qa Z (Q4 Z Z (Qa Z (hK _ _ (Qb (kp4 Z Z Z Z) ?_))))
 refine QH ?_
 refine ZQ (ι := Nat) (fun i => ⟨[(4, .bool (decide ((Q5 s 46).length <= 4))), (14, .sl (ZZ (Q5 s 46))), (15, .int .i64 (Q5 s 46).length), (16, .int .i64 i)], []⟩) (fun i => i <= (Q5 s 46).length /\ ((Q5 s 46).take i).all Qbb = true) (fun i => (Q5 s 46).length - i) 0 ?_ ?_ ?_
 ·exact Zp (l := [4, 14, 15, 16]) (kp4 rfl rfl rfl rfl) Qx (by simp [Qg]; omega) rfl rfl
 ·exact ⟨Nat.zero_le _, rfl⟩
 intro i hI
 have sl := Qc3 (s := s) (c := 46)
 try dsimp only
 refine Qe fun K hK => Yz Z Z (hK _ _ (Qb (kp5 Z Z Z Z Z) ?_))
 refine QF ?_ -- 2
 refine Qz Z (fun h1 => ?_) (fun h1 => ?_)
 ·try rw [h1]
  try simp only [qB, Qg] at h1
  refine Qu (Qd (kp4 Z Z Z Z) ?_)
  refine QF ?_ -- 3
  refine QH (Qe fun K hK => QD Z Z Z (by omega) (Xb (by omega)) Z (QG Z Z Z (Qa Z (hK _ _ (Qb (kp5 Z Z Z Z Z) ?_)))))
  refine QF ?_ -- 4
  refine Qe fun K hK => Qa Z (Qbd Z Z (Qa Z ?_))
  refine QA (g := 22) Z (fun h2 => ?_) (fun h2 => ?_)
  ·try rw [h2]
   try simp only [qB, Qg] at h2
   refine Qt Z (Qt Z (Qt Z (Ql Z Z (hK _ _ (Qb (kp6 Z Z Z Z Z Z) ?_)))))
   refine ZH Z (Qe fun K hK => Qa Z (hK _ _ (Qb (kp1 Z) ?_)))
   refine Zu (QL (Ze (by decide) (QL (Qy (QI (Qd (kp1 Z) (Qe fun K hK => Qa Z (Qa Z (hK _ _ (Qb (kp1 Z) ?_))))))))))
   refine Qs (Qo Z ?_)
   first | exact (ZP (i := i) (by omega) (Xd (by first | (left; assumption) | (right; omega)))).symm | exact (ZP (i := i) (by omega) (Xc (Yd (i := j) (by omega) (by simp [ZN]; omega)))).symm | exact (YJ (by omega) hI.2).symm
  ·try rw [h2]
   try simp only [qB, Qg] at h2
   refine Qf Z (Qa Z (Qf Z (Yk Z (Qf Z (Qcm Z Z (Ql Z Z (hK _ _ (Qb (kp6 Z Z Z Z Z Z) ?_))))))))
   refine Qz Z (fun h3 => ?_) (fun h3 => ?_)
   ·try rw [h3]
    try simp only [qB, Qg] at h3
    refine Qe fun K hK => Qa Z (hK _ _ (Qb (kp1 Z) ?_))
    refine Zu (QL (Ze (by decide) (QL (Qy (QI (Qd (kp1 Z) (Qe fun K hK => Qa Z (Qa Z (hK _ _ (Qb (kp1 Z) ?_))))))))))
    refine Qs (Qo Z ?_)
    first | exact (ZP (i := i) (by omega) (Xd (by first | (left; assumption) | (right; omega)))).symm | exact (ZP (i := i) (by omega) (Xc (Yd (i := j) (by omega) (by simp [ZN]; omega)))).symm | exact (YJ (by omega) hI.2).symm
   ·try rw [h3]
    try simp only [qB, Qg] at h3
    refine Qu (Qd (kp5 Z Z Z Z Z) (Qe fun K hK => Qa Z (QjC Z Z (hK _ _ (Qb (kp5 Z Z Z Z Z) ?_)))))
    refine QH ?_
    have hlt : i < (Q5 s 46).length := by omega
    refine ZQ (ι := Nat) (fun j => ⟨[(4, .bool (decide ((Q5 s 46).length <= 4))), (14, .sl (ZZ (Q5 s 46))), (15, .int .i64 (Q5 s 46).length), (16, .int .i64 i), (28, .ref 28 0 0)], [(28, ⟨[], 0, Zr ((Q5 s 46)[i]'hlt) j, false⟩)]⟩) (fun j => j <= ((Q5 s 46)[i]'hlt).length /\ (((Q5 s 46)[i]'hlt).take j).all ZN = true) (fun j => ((Q5 s 46)[i]'hlt).length - j) 0 ?_ ?_ ?_
    ·first | exact Zp (l := [4, 14, 15, 16, 28]) (lH := [28]) (kp5 rfl rfl rfl rfl rfl) (QB rfl Qx) rfl rfl rfl | (exfalso; omega)
    ·exact ⟨Nat.zero_le _, rfl⟩
    intro j hJ
    have hJ1 := hJ.1
    try dsimp only
    refine Qe fun K hK => ?_
    rcases Nat.lt_or_ge (j) (((Q5 s 46)[i]'hlt)).length with h4 | h4
    ·rcases Nat.lt_or_ge (((((Q5 s 46)[i]'hlt))[j]).toNat) 128 with h5 | h5
     ·refine Qis Z Z h4 (QgW h4 h5) (Zg Z Z (hK _ _ (Qb (kp7 Z Z Z Z Z Z Z) ?_)))
      refine QF ?_ -- 5
      refine ZH Z (Qu (Qd (kp6 Z Z Z Z Z Z) (QH (Qe fun K hK => Zg Z Z (Qa Z (hK _ _ (Qb (kp6 Z Z Z Z Z Z) ?_)))))))
      refine Qe fun K hK => Qa Z (Yz Z Z (Qa Z ?_))
      refine QA (g := 34) Z (fun h6 => ?_) (fun h6 => ?_)
      ·try rw [h6]
       try simp only [qB, Qg] at h6
       refine Qt Z (Qt Z (Ql Z Z (Qa Z (Qf Z (Qa Z (Qf Z (Yz Z Z (Qf Z (Qa Z ?_)))))))))
       refine QA (g := 41) Z (fun h7 => ?_) (fun h7 => ?_)
       ·try rw [h7]
        try simp only [qB, Qg] at h7
        refine Qt Z (Qt Z (Qf Z (Ql Z Z (Ql Z Z (Qa Z (Qf Z (Qa Z (Qf Z (YR Z Z (Ql Z Z (hK _ _ (Qb (kp6 Z Z Z Z Z Z) ?_))))))))))))
        refine Qz Z (fun h8 => ?_) (fun h8 => ?_)
        ·try rw [h8]
         try simp only [qB, Qg] at h8
         refine Qe fun K hK => Qa Z (hK _ _ (Qb (kp1 Z) ?_))
         refine Zu (Ze (by decide) (Qy (Ze (by decide) (Ze (by decide) (QL (Qy (QI (Qd (kp1 Z) (Qe fun K hK => Qa Z (Qa Z ?_))))))))))
         refine hK _ _ (Qb (kp1 Z) ?_)
         refine Qs (Qo Z ?_)
         first | exact (ZP (i := i) (by omega) (Xd (by first | (left; assumption) | (right; omega)))).symm | exact (ZP (i := i) (by omega) (Xc (Yd (i := j) (by omega) (by simp [ZN]; omega)))).symm | exact (YJ (by omega) hI.2).symm
        ·try rw [h8]
         try simp only [qB, Qg] at h8
         refine Qu (Qh ?_)
         refine Qj (j + 1) ?_ ?_ ?_
         ·first | exact Zp (l := [4, 14, 15, 16, 28]) (lH := [28]) (kp5 rfl rfl rfl rfl rfl) (QB rfl Qx) rfl rfl rfl | (exfalso; omega)
         ·first | exact ⟨by omega, Zf (by omega) hJ.2 (by simp [ZN]; omega)⟩ | (exfalso; omega)
         ·first | omega | (simp only; omega) | (dsimp only; omega)
       ·try rw [h7]
        try simp only [qB, Qg] at h7
        refine Qf Z (Qa Z (Qf Z (Qcm Z Z (Qf Z (Ql Z Z (Ql Z Z (Qa Z ?_)))))))
        refine QA (g := 46) Z (fun h9 => ?_) (fun h9 => ?_)
        ·try rw [h9]
         try simp only [qB, Qg] at h9
         refine Qf Z (Qa Z (Qf Z (YR Z Z (Ql Z Z (hK _ _ (Qb (kp6 Z Z Z Z Z Z) ?_))))))
         refine Qz Z (fun h10 => ?_) (fun h10 => ?_)
         ·try rw [h10]
          try simp only [qB, Qg] at h10
          refine Qe fun K hK => Qa Z (hK _ _ (Qb (kp1 Z) ?_))
          refine Zu (Ze (by decide) (Qy (Ze (by decide) (Ze (by decide) (QL (Qy (QI (Qd (kp1 Z) (Qe fun K hK => Qa Z (Qa Z ?_))))))))))
          refine hK _ _ (Qb (kp1 Z) ?_)
          refine Qs (Qo Z ?_)
          first | exact (ZP (i := i) (by omega) (Xd (by first | (left; assumption) | (right; omega)))).symm | exact (ZP (i := i) (by omega) (Xc (Yd (i := j) (by omega) (by simp [ZN]; omega)))).symm | exact (YJ (by omega) hI.2).symm
         ·try rw [h10]
          try simp only [qB, Qg] at h10
          refine Qu (Qh ?_)
          refine Qj (j + 1) ?_ ?_ ?_
          ·first | exact Zp (l := [4, 14, 15, 16, 28]) (lH := [28]) (kp5 rfl rfl rfl rfl rfl) (QB rfl Qx) rfl rfl rfl | (exfalso; omega)
          ·first | exact ⟨by omega, Zf (by omega) hJ.2 (by simp [ZN]; omega)⟩ | (exfalso; omega)
          ·first | omega | (simp only; omega) | (dsimp only; omega)
        ·try rw [h9]
         try simp only [qB, Qg] at h9
         refine Qt Z (Qt Z (Ql Z Z (hK _ _ (Qb (kp6 Z Z Z Z Z Z) ?_))))
         refine ZB Z (Qu (Qh ?_))
         refine Qj (j + 1) ?_ ?_ ?_
         ·first | exact Zp (l := [4, 14, 15, 16, 28]) (lH := [28]) (kp5 rfl rfl rfl rfl rfl) (QB rfl Qx) rfl rfl rfl | (exfalso; omega)
         ·first | exact ⟨by omega, Zf (by omega) hJ.2 (by simp [ZN]; omega)⟩ | (exfalso; omega)
         ·first | omega | (simp only; omega) | (dsimp only; omega)
      ·try rw [h6]
       try simp only [qB, Qg] at h6
       refine Qf Z (Qa Z (Qf Z (Qcm Z Z (Ql Z Z (Qa Z ?_)))))
       refine QA (g := 38) Z (fun h11 => ?_) (fun h11 => ?_)
       ·try rw [h11]
        try simp only [qB, Qg] at h11
        refine Qf Z (Qa Z (Qf Z (Yz Z Z (Qf Z (Qa Z ?_)))))
        refine QA (g := 41) Z (fun h12 => ?_) (fun h12 => ?_)
        ·try rw [h12]
         try simp only [qB, Qg] at h12
         refine Qt Z (Qt Z (Qf Z (Ql Z Z (Ql Z Z (Qa Z (Qf Z (Qa Z (Qf Z (YR Z Z (Ql Z Z (hK _ _ (Qb (kp6 Z Z Z Z Z Z) ?_))))))))))))
         refine Qz Z (fun h13 => ?_) (fun h13 => ?_)
         ·try rw [h13]
          try simp only [qB, Qg] at h13
          refine Qe fun K hK => Qa Z (hK _ _ (Qb (kp1 Z) ?_))
          refine Zu (Ze (by decide) (Qy (Ze (by decide) (Ze (by decide) (QL (Qy (QI (Qd (kp1 Z) (Qe fun K hK => Qa Z (Qa Z ?_))))))))))
          refine hK _ _ (Qb (kp1 Z) ?_)
          refine Qs (Qo Z ?_)
          first | exact (ZP (i := i) (by omega) (Xd (by first | (left; assumption) | (right; omega)))).symm | exact (ZP (i := i) (by omega) (Xc (Yd (i := j) (by omega) (by simp [ZN]; omega)))).symm | exact (YJ (by omega) hI.2).symm
         ·try rw [h13]
          try simp only [qB, Qg] at h13
          refine Qu (Qh ?_)
          refine Qj (j + 1) ?_ ?_ ?_
          ·first | exact Zp (l := [4, 14, 15, 16, 28]) (lH := [28]) (kp5 rfl rfl rfl rfl rfl) (QB rfl Qx) rfl rfl rfl | (exfalso; omega)
          ·first | exact ⟨by omega, Zf (by omega) hJ.2 (by simp [ZN]; omega)⟩ | (exfalso; omega)
          ·first | omega | (simp only; omega) | (dsimp only; omega)
        ·try rw [h12]
         try simp only [qB, Qg] at h12
         refine Qf Z (Qa Z (Qf Z (Qcm Z Z (Qf Z (Ql Z Z (Ql Z Z (Qa Z ?_)))))))
         refine QA (g := 46) Z (fun h14 => ?_) (fun h14 => ?_)
         ·try rw [h14]
          try simp only [qB, Qg] at h14
          refine Qf Z (Qa Z (Qf Z (YR Z Z (Ql Z Z (hK _ _ (Qb (kp6 Z Z Z Z Z Z) ?_))))))
          refine Qz Z (fun h15 => ?_) (fun h15 => ?_)
          ·try rw [h15]
           try simp only [qB, Qg] at h15
           refine Qe fun K hK => Qa Z (hK _ _ (Qb (kp1 Z) ?_))
           refine Zu (Ze (by decide) (Qy (Ze (by decide) (Ze (by decide) (QL (Qy (QI (Qd (kp1 Z) (Qe fun K hK => Qa Z (Qa Z ?_))))))))))
           refine hK _ _ (Qb (kp1 Z) ?_)
           refine Qs (Qo Z ?_)
           first | exact (ZP (i := i) (by omega) (Xd (by first | (left; assumption) | (right; omega)))).symm | exact (ZP (i := i) (by omega) (Xc (Yd (i := j) (by omega) (by simp [ZN]; omega)))).symm | exact (YJ (by omega) hI.2).symm
          ·try rw [h15]
           try simp only [qB, Qg] at h15
           refine Qu (Qh ?_)
           refine Qj (j + 1) ?_ ?_ ?_
           ·first | exact Zp (l := [4, 14, 15, 16, 28]) (lH := [28]) (kp5 rfl rfl rfl rfl rfl) (QB rfl Qx) rfl rfl rfl | (exfalso; omega)
           ·first | exact ⟨by omega, Zf (by omega) hJ.2 (by simp [ZN]; omega)⟩ | (exfalso; omega)
           ·first | omega | (simp only; omega) | (dsimp only; omega)
         ·try rw [h14]
          try simp only [qB, Qg] at h14
          refine Qt Z (Qt Z (Ql Z Z (hK _ _ (Qb (kp6 Z Z Z Z Z Z) ?_))))
          refine ZB Z (Qu (Qh ?_))
          refine Qj (j + 1) ?_ ?_ ?_
          ·first | exact Zp (l := [4, 14, 15, 16, 28]) (lH := [28]) (kp5 rfl rfl rfl rfl rfl) (QB rfl Qx) rfl rfl rfl | (exfalso; omega)
          ·first | exact ⟨by omega, Zf (by omega) hJ.2 (by simp [ZN]; omega)⟩ | (exfalso; omega)
          ·first | omega | (simp only; omega) | (dsimp only; omega)
       ·try rw [h11]
        try simp only [qB, Qg] at h11
        refine Qt Z (Qt Z (Qt Z (Qr Z (Qr Z (Qt Z (Ql Z Z (Qa Z (Qt Z (Qt Z (Ql Z Z (hK _ _ (Qb (kp6 Z Z Z Z Z Z) ?_))))))))))))
        refine ZB Z (Qu (Qh ?_))
        refine Qj (j + 1) ?_ ?_ ?_
        ·first | exact Zp (l := [4, 14, 15, 16, 28]) (lH := [28]) (kp5 rfl rfl rfl rfl rfl) (QB rfl Qx) rfl rfl rfl | (exfalso; omega)
        ·first | exact ⟨by omega, Zf (by omega) hJ.2 (by simp [ZN]; omega)⟩ | (exfalso; omega)
        ·first | omega | (simp only; omega) | (dsimp only; omega)
     ·obtain ⟨cwh5, nwh5, hch5, hdh5⟩ := Qiy h4 h5
      refine Qis Z Z h4 hdh5 (Zg Z Z (hK _ _ (Qb (kp7 Z Z Z Z Z Z Z) ?_)))
      refine QF ?_ -- 5
      refine ZH Z (Qu (Qd (kp6 Z Z Z Z Z Z) (QH (Qe fun K hK => Zg Z Z (Qa Z (hK _ _ (Qb (kp6 Z Z Z Z Z Z) ?_)))))))
      refine Qe fun K hK => Qa Z (Yz Z Z (Qa Z ?_))
      refine QA (g := 34) Z (fun h16 => ?_) (fun h16 => ?_)
      ·try rw [h16]
       try simp only [qB, Qg] at h16
       refine Qt Z (Qt Z (Ql Z Z (Qa Z (Qf Z (Qa Z (Qf Z (Yz Z Z (Qf Z (Qa Z ?_)))))))))
       refine QA (g := 41) Z (fun h17 => ?_) (fun h17 => ?_)
       ·try rw [h17]
        try simp only [qB, Qg] at h17
        refine Qt Z (Qt Z (Qf Z (Ql Z Z (Ql Z Z (Qa Z (Qf Z (Qa Z (Qf Z (YR Z Z (Ql Z Z (hK _ _ (Qb (kp6 Z Z Z Z Z Z) ?_))))))))))))
        refine Qz Z (fun h18 => ?_) (fun h18 => ?_)
        ·try rw [h18]
         try simp only [qB, Qg] at h18
         refine Qe fun K hK => Qa Z (hK _ _ (Qb (kp1 Z) ?_))
         refine Zu (Ze (by decide) (Qy (Ze (by decide) (Ze (by decide) (QL (Qy (QI (Qd (kp1 Z) (Qe fun K hK => Qa Z (Qa Z ?_))))))))))
         refine hK _ _ (Qb (kp1 Z) ?_)
         refine Qs (Qo Z ?_)
         first | exact (ZP (i := i) (by omega) (Xd (by first | (left; assumption) | (right; omega)))).symm | exact (ZP (i := i) (by omega) (Xc (Yd (i := j) (by omega) (by simp [ZN]; omega)))).symm | exact (YJ (by omega) hI.2).symm
        ·try rw [h18]
         try simp only [qB, Qg] at h18
         refine Qu (Qh ?_)
         refine Qj (j + 1) ?_ ?_ ?_
         ·first | exact Zp (l := [4, 14, 15, 16, 28]) (lH := [28]) (kp5 rfl rfl rfl rfl rfl) (QB rfl Qx) rfl rfl rfl | (exfalso; omega)
         ·first | exact ⟨by omega, Zf (by omega) hJ.2 (by simp [ZN]; omega)⟩ | (exfalso; omega)
         ·first | omega | (simp only; omega) | (dsimp only; omega)
       ·try rw [h17]
        try simp only [qB, Qg] at h17
        refine Qf Z (Qa Z (Qf Z (Qcm Z Z (Qf Z (Ql Z Z (Ql Z Z (Qa Z ?_)))))))
        refine QA (g := 46) Z (fun h19 => ?_) (fun h19 => ?_)
        ·try rw [h19]
         try simp only [qB, Qg] at h19
         refine Qf Z (Qa Z (Qf Z (YR Z Z (Ql Z Z (hK _ _ (Qb (kp6 Z Z Z Z Z Z) ?_))))))
         refine Qz Z (fun h20 => ?_) (fun h20 => ?_)
         ·try rw [h20]
          try simp only [qB, Qg] at h20
          refine Qe fun K hK => Qa Z (hK _ _ (Qb (kp1 Z) ?_))
          refine Zu (Ze (by decide) (Qy (Ze (by decide) (Ze (by decide) (QL (Qy (QI (Qd (kp1 Z) (Qe fun K hK => Qa Z (Qa Z ?_))))))))))
          refine hK _ _ (Qb (kp1 Z) ?_)
          refine Qs (Qo Z ?_)
          first | exact (ZP (i := i) (by omega) (Xd (by first | (left; assumption) | (right; omega)))).symm | exact (ZP (i := i) (by omega) (Xc (Yd (i := j) (by omega) (by simp [ZN]; omega)))).symm | exact (YJ (by omega) hI.2).symm
         ·try rw [h20]
          try simp only [qB, Qg] at h20
          refine Qu (Qh ?_)
          refine Qj (j + 1) ?_ ?_ ?_
          ·first | exact Zp (l := [4, 14, 15, 16, 28]) (lH := [28]) (kp5 rfl rfl rfl rfl rfl) (QB rfl Qx) rfl rfl rfl | (exfalso; omega)
          ·first | exact ⟨by omega, Zf (by omega) hJ.2 (by simp [ZN]; omega)⟩ | (exfalso; omega)
          ·first | omega | (simp only; omega) | (dsimp only; omega)
        ·try rw [h19]
         try simp only [qB, Qg] at h19
         refine Qt Z (Qt Z (Ql Z Z (hK _ _ (Qb (kp6 Z Z Z Z Z Z) ?_))))
         refine ZB Z (Qu (Qh ?_))
         refine Qj (j + 1) ?_ ?_ ?_
         ·first | exact Zp (l := [4, 14, 15, 16, 28]) (lH := [28]) (kp5 rfl rfl rfl rfl rfl) (QB rfl Qx) rfl rfl rfl | (exfalso; omega)
         ·first | exact ⟨by omega, Zf (by omega) hJ.2 (by simp [ZN]; omega)⟩ | (exfalso; omega)
         ·first | omega | (simp only; omega) | (dsimp only; omega)
      ·try rw [h16]
       try simp only [qB, Qg] at h16
       refine Qf Z (Qa Z (Qf Z (Qcm Z Z (Ql Z Z (Qa Z ?_)))))
       refine QA (g := 38) Z (fun h21 => ?_) (fun h21 => ?_)
       ·try rw [h21]
        try simp only [qB, Qg] at h21
        refine Qf Z (Qa Z (Qf Z (Yz Z Z (Qf Z (Qa Z ?_)))))
        refine QA (g := 41) Z (fun h22 => ?_) (fun h22 => ?_)
        ·try rw [h22]
         try simp only [qB, Qg] at h22
         refine Qt Z (Qt Z (Qf Z (Ql Z Z (Ql Z Z (Qa Z (Qf Z (Qa Z (Qf Z (YR Z Z (Ql Z Z (hK _ _ (Qb (kp6 Z Z Z Z Z Z) ?_))))))))))))
         refine Qz Z (fun h23 => ?_) (fun h23 => ?_)
         ·try rw [h23]
          try simp only [qB, Qg] at h23
          refine Qe fun K hK => Qa Z (hK _ _ (Qb (kp1 Z) ?_))
          refine Zu (Ze (by decide) (Qy (Ze (by decide) (Ze (by decide) (QL (Qy (QI (Qd (kp1 Z) (Qe fun K hK => Qa Z (Qa Z ?_))))))))))
          refine hK _ _ (Qb (kp1 Z) ?_)
          refine Qs (Qo Z ?_)
          first | exact (ZP (i := i) (by omega) (Xd (by first | (left; assumption) | (right; omega)))).symm | exact (ZP (i := i) (by omega) (Xc (Yd (i := j) (by omega) (by simp [ZN]; omega)))).symm | exact (YJ (by omega) hI.2).symm
         ·try rw [h23]
          try simp only [qB, Qg] at h23
          refine Qu (Qh ?_)
          refine Qj (j + 1) ?_ ?_ ?_
          ·first | exact Zp (l := [4, 14, 15, 16, 28]) (lH := [28]) (kp5 rfl rfl rfl rfl rfl) (QB rfl Qx) rfl rfl rfl | (exfalso; omega)
          ·first | exact ⟨by omega, Zf (by omega) hJ.2 (by simp [ZN]; omega)⟩ | (exfalso; omega)
          ·first | omega | (simp only; omega) | (dsimp only; omega)
        ·try rw [h22]
         try simp only [qB, Qg] at h22
         refine Qf Z (Qa Z (Qf Z (Qcm Z Z (Qf Z (Ql Z Z (Ql Z Z (Qa Z ?_)))))))
         refine QA (g := 46) Z (fun h24 => ?_) (fun h24 => ?_)
         ·try rw [h24]
          try simp only [qB, Qg] at h24
          refine Qf Z (Qa Z (Qf Z (YR Z Z (Ql Z Z (hK _ _ (Qb (kp6 Z Z Z Z Z Z) ?_))))))
          refine Qz Z (fun h25 => ?_) (fun h25 => ?_)
          ·try rw [h25]
           try simp only [qB, Qg] at h25
           refine Qe fun K hK => Qa Z (hK _ _ (Qb (kp1 Z) ?_))
           refine Zu (Ze (by decide) (Qy (Ze (by decide) (Ze (by decide) (QL (Qy (QI (Qd (kp1 Z) (Qe fun K hK => Qa Z (Qa Z ?_))))))))))
           refine hK _ _ (Qb (kp1 Z) ?_)
           refine Qs (Qo Z ?_)
           first | exact (ZP (i := i) (by omega) (Xd (by first | (left; assumption) | (right; omega)))).symm | exact (ZP (i := i) (by omega) (Xc (Yd (i := j) (by omega) (by simp [ZN]; omega)))).symm | exact (YJ (by omega) hI.2).symm
          ·try rw [h25]
           try simp only [qB, Qg] at h25
           refine Qu (Qh ?_)
           refine Qj (j + 1) ?_ ?_ ?_
           ·first | exact Zp (l := [4, 14, 15, 16, 28]) (lH := [28]) (kp5 rfl rfl rfl rfl rfl) (QB rfl Qx) rfl rfl rfl | (exfalso; omega)
           ·first | exact ⟨by omega, Zf (by omega) hJ.2 (by simp [ZN]; omega)⟩ | (exfalso; omega)
           ·first | omega | (simp only; omega) | (dsimp only; omega)
         ·try rw [h24]
          try simp only [qB, Qg] at h24
          refine Qt Z (Qt Z (Ql Z Z (hK _ _ (Qb (kp6 Z Z Z Z Z Z) ?_))))
          refine ZB Z (Qu (Qh ?_))
          refine Qj (j + 1) ?_ ?_ ?_
          ·first | exact Zp (l := [4, 14, 15, 16, 28]) (lH := [28]) (kp5 rfl rfl rfl rfl rfl) (QB rfl Qx) rfl rfl rfl | (exfalso; omega)
          ·first | exact ⟨by omega, Zf (by omega) hJ.2 (by simp [ZN]; omega)⟩ | (exfalso; omega)
          ·first | omega | (simp only; omega) | (dsimp only; omega)
       ·try rw [h21]
        try simp only [qB, Qg] at h21
        refine Qt Z (Qt Z (Qt Z (Qr Z (Qr Z (Qt Z (Ql Z Z (Qa Z (Qt Z (Qt Z (Ql Z Z (hK _ _ (Qb (kp6 Z Z Z Z Z Z) ?_))))))))))))
        refine ZB Z (Qu (Qh ?_))
        refine Qj (j + 1) ?_ ?_ ?_
        ·first | exact Zp (l := [4, 14, 15, 16, 28]) (lH := [28]) (kp5 rfl rfl rfl rfl rfl) (QB rfl Qx) rfl rfl rfl | (exfalso; omega)
        ·first | exact ⟨by omega, Zf (by omega) hJ.2 (by simp [ZN]; omega)⟩ | (exfalso; omega)
        ·first | omega | (simp only; omega) | (dsimp only; omega)
    ·refine QgH Z Z (by omega) (Zg Z Z (hK _ _ (Qb (kp7 Z Z Z Z Z Z Z) ?_)))
     refine QF ?_ -- 5
     refine ZB Z (Zu (QL (Qy (QI (Qh (Qd (kp4 Z Z Z Z) (Q2 fun K hK => Zd Z Z (by first | exact Qq (by omega) (by omega) | exact QJ (by omega) (by omega) | exact QM (by omega) (by omega) | rfl) (Qa Z (hK _ ?_)))))))))
     refine Qj (i + 1) ?_ ?_ ?_
     ·exact Zp (l := [4, 14, 15, 16]) (kp4 rfl rfl rfl rfl) Qx rfl rfl rfl
     ·exact ⟨by omega, Zf (by omega) hI.2 (QmO (by assumption) (by omega) (Y0 (by omega) hJ.2))⟩
     ·first | omega | (simp only; omega) | (dsimp only; omega)
 ·try rw [h1]
  try simp only [qB, Qg] at h1
  refine Zu (QL (Qy (QI (Qd (kp1 Z) (Qe fun K hK => Qa Z (Qa Z (hK _ _ (Qb (kp1 Z) ?_))))))))
  refine Qs (Qo Z ?_)
  first | exact (ZP (i := i) (by omega) (Xd (by first | (left; assumption) | (right; omega)))).symm | exact (ZP (i := i) (by omega) (Xc (Yd (i := j) (by omega) (by simp [ZN]; omega)))).symm | exact (YJ (by omega) hI.2).symm
end Go.Proofs
namespace Go.Proofs
open Go Go.Abs M3
set_option linter.unusedVariables false
set_option linter.unusedSimpArgs false
theorem QfQ {a b : List UInt8} (ha : a.length <= 1000000) (hb : b.length <= 1000000) : Ok Try.prog 70 [.str a, .str b] (.int .i64 (Qe5 a b)) := by
 refine Ok.ofT Z2 Try.func70 QpM (Nat.le_of_ble_eq_true Z) ?_
 show TW _ _ tf70.body _ _
 refine Qe fun K hK => Qa Z (hK _ _ (Qb (kp2 Z Z) ?_))
 refine Qe fun K hK => Qa Z (QE (Xl (by omega)) Z Z (.inr Z) (Qa Z (QE (Xl (by omega)) Z Z (.inr Z) (Qa Z (Qa Z (hK _ _ (Qb (kp4 Z Z Z Z) ?_)))))))
 refine QF ?_ -- 0
 refine Qe fun K hK => Qa Z (Qa Z ?_)
 refine QA (g := 16) Z (fun h1 => ?_) (fun h1 => ?_)
 ·try rw [h1]
  try simp only [qB] at h1
  refine Qf Z (Qa Z (Ql Z Z (hK _ _ (Qb (kp5 Z Z Z Z Z) ?_))))
  refine Qz Z (fun h2 => ?_) (fun h2 => ?_)
  ·try rw [h2]
   try simp only [qB] at h2
   refine Qe fun K hK => Qa Z (QE (Qam (by omega)) Z Z (.inr Z) (Qa Z (Zg Z Z (Zg Z Z (Qa Z (Qa Z (hK _ _ (Qb (kp2 Z Z) ?_))))))))
   refine Qe fun K hK => Qa Z (QE (Qam (by omega)) Z Z (.inr Z) (Qa Z (Zg Z Z (Zg Z Z (Qa Z (Qa Z (hK _ _ (Qb (kp2 Z Z) ?_))))))))
   refine Qe fun K hK => Qa Z (Qa Z (QE (Z3) Z Z (.inr Z) (Qa Z (hK _ _ (Qb (kp1 Z) ?_)))))
   refine Qs (Qk (Qw Z ?_))
   (repeat clear hK K); first | (simp [Qe5, h1, h2]; done) | (simp_all [Qe5]; done)
  ·try rw [h2]
   try simp only [qB] at h2
   refine Qu (Qd (kp4 Z Z Z Z) ?_)
   refine QF ?_ -- 1
   refine Qe fun K hK => Qa Z (Qa Z (Qnr Z Z (hK _ _ (Qb (kp4 Z Z Z Z) ?_))))
   refine Qz Z (fun h3 => ?_) (fun h3 => ?_)
   ·try rw [h3]
    try simp only [qB] at h3
    refine QF ?_ -- 2
    refine Qe fun K hK => Qa Z (hK _ _ (Qb (kp1 Z) ?_))
    refine ZH Z (Qe fun K hK => Qa Z (hK _ _ (Qb (kp1 Z) ?_)))
    refine Qs (Qk (Qk (Qw Z ?_)))
    (repeat clear hK K); first | (simp [Qe5, h1, h2, h3]; done) | (simp_all [Qe5]; done)
   ·try rw [h3]
    try simp only [qB] at h3
    refine Qu (Qd (kp2 Z Z) (Qe fun K hK => Qa Z (Qa Z (QE (XB) Z Z (.inr Z) (Qa Z (hK _ _ (Qb (kp1 Z) ?_)))))))
    refine Qs (Qw Z ?_)
    (repeat clear hK K); first | (simp [Qe5, h1, h2, h3]; done) | (simp_all [Qe5]; done)
 ·try rw [h1]
  try simp only [qB] at h1
  refine Qt Z (Ql Z Z (hK _ _ (Qb (kp5 Z Z Z Z Z) ?_)))
  refine ZB Z (Qu (Qd (kp4 Z Z Z Z) ?_))
  refine QF ?_ -- 1
  refine Qe fun K hK => Qa Z (Qa Z (Qnr Z Z (hK _ _ (Qb (kp4 Z Z Z Z) ?_))))
  refine Qz Z (fun h4 => ?_) (fun h4 => ?_)
  ·try rw [h4]
   try simp only [qB] at h4
   refine QF ?_ -- 2
   refine Qe fun K hK => Qa Z (hK _ _ (Qb (kp1 Z) ?_))
   refine ZB Z (Qu (Qd (QO) (Qe fun K hK => Qa Z (hK _ _ (Qb (kp1 Z) ?_)))))
   refine Qs (Qk (Qw Z ?_))
   (repeat clear hK K); first | (simp [Qe5, h1, h4]; done) | (simp_all [Qe5]; done)
  ·try rw [h4]
   try simp only [qB] at h4
   refine Qu (Qd (kp2 Z Z) (Qe fun K hK => Qa Z (Qa Z (QE (XB) Z Z (.inr Z) (Qa Z (hK _ _ (Qb (kp1 Z) ?_)))))))
   refine Qs (Qw Z ?_)
   (repeat clear hK K); first | (simp [Qe5, h1, h4]; done) | (simp_all [Qe5]; done)
theorem QfP {s : List UInt8} (hl : s.length <= 1000000) : Ok Try.prog 85 [.str s] (.bool (Qe6 s)) := by
 refine Ok.ofT Z2 Try.func85 Qp1 (Nat.le_of_ble_eq_true Z) ?_
 show TW _ _ tf85.body _ _
 refine Qe fun K hK => Qa Z (hK _ _ (Qb (kp1 Z) ?_))
 refine QF ?_ -- 0
 refine Qe fun K hK => Qa Z (QE (Qao (by omega)) Z Z (.inr Z) (Yb Z (hK _ _ (Qb (kp2 Z Z) ?_))))
 refine Qz Z (fun h1 => ?_) (fun h1 => ?_)
 ·try rw [h1]
  try simp only [qB, Qg] at h1
  refine Qe fun K hK => Qa Z (hK _ _ (Qb (kp1 Z) ?_))
  refine Qs (Qk (Qo Z ?_))
  first | (simp [Qe6, h1]; done) | exact (Qh9 (i := i) (by omega) (by simp [QdE, h1])).symm | exact (Qgh (i := i) (by assumption) (by omega) hI.2).symm
 ·try rw [h1]
  try simp only [qB, Qg] at h1
  refine Qu (Qd (kp1 Z) ?_)
  refine QF ?_ -- 1
  refine Qe fun K hK => Qa Z (QE (XL (by omega)) Z Z (.inl Z) (Q4 Z Z (Qa Z (hK _ _ (Qb (kp3 Z Z Z) ?_)))))
  refine QH ?_
  refine ZQ (ι := Nat) (fun i => ⟨[(11, .sl (ZZ (Q5 s 46))), (12, .int .i64 (Q5 s 46).length), (13, .int .i64 i)], []⟩) (fun i => i <= (Q5 s 46).length /\ ((Q5 s 46).take i).all QdE = true) (fun i => (Q5 s 46).length - i) 0 ?_ ?_ ?_
  ·exact Zp (l := [11, 12, 13]) (kp3 rfl rfl rfl) Qx (by simp [Qg]) rfl rfl
  ·exact ⟨Nat.zero_le _, rfl⟩
  intro i hI
  have sl := Qc3 (s := s) (c := 46)
  try dsimp only
  refine Qe fun K hK => Yz Z Z (hK _ _ (Qb (kp4 Z Z Z Z) ?_))
  refine QF ?_ -- 2
  refine Qz Z (fun h2 => ?_) (fun h2 => ?_)
  ·try rw [h2]
   try simp only [qB, Qg] at h2
   refine Qu (Qd (kp3 Z Z Z) ?_)
   refine QF ?_ -- 3
   refine QH (Qe fun K hK => QD Z Z Z (by omega) (Xb (by omega)) Z (QG Z Z Z (Qa Z (hK _ _ (Qb (kp4 Z Z Z Z) ?_)))))
   refine Qe fun K hK => Qa Z (QE (Qam (XR (by omega) hl)) Z Z (.inr Z) (Qa Z (Zg Z Z (Zg Z Z (Qa Z (Qa Z (hK _ _ (Qb (kp5 Z Z Z Z Z) ?_))))))))
   refine Qe fun K hK => Qa Z (QE (Xl (XR (by omega) hl)) Z Z (.inr Z) (Qa Z ?_))
   refine QA (g := 24) Z (fun h3 => ?_) (fun h3 => ?_)
   ·try rw [h3]
    try simp only [qB, Qg] at h3
    refine Qf Z (Qa Z (Qf Z (Yb Z (Ql Z Z (hK _ _ (Qb (kp4 Z Z Z Z) ?_))))))
    refine Qz Z (fun h4 => ?_) (fun h4 => ?_)
    ·try rw [h4]
     try simp only [qB, Qg] at h4
     refine Qe fun K hK => Qa Z (hK _ _ (Qb (kp1 Z) ?_))
     refine Qs (Qp (Qk (QZ (Qp (Qk (Qo Z ?_))))))
     first | (simp [Qe6, h1, h2, h3, h4]; done) | exact (Qh9 (i := i) (by omega) (by simp [QdE, h1, h2, h3, h4])).symm | exact (Qgh (i := i) (by assumption) (by omega) hI.2).symm
    ·try rw [h4]
     try simp only [qB, Qg] at h4
     refine Qu (Qh (Qd (kp3 Z Z Z) (Q2 fun K hK => Zd Z Z (by first | exact Qq (by omega) (by omega) | exact QJ (by omega) (by omega) | exact QM (by omega) (by omega) | rfl) (Qa Z (hK _ ?_)))))
     refine Qj (i + 1) ?_ ?_ ?_
     ·exact QV (kp3 rfl rfl rfl)
     ·exact ⟨by omega, Zf (by omega) hI.2 (by simp [QdE, h1, h2, h3, h4])⟩
     ·first | omega | (simp only; omega) | (dsimp only; omega)
   ·try rw [h3]
    try simp only [qB, Qg] at h3
    refine Qt Z (Qt Z (Ql Z Z (hK _ _ (Qb (kp4 Z Z Z Z) ?_))))
    refine ZB Z (Qu (Qh (Qd (kp3 Z Z Z) (Q2 fun K hK => Zd Z Z (by first | exact Qq (by omega) (by omega) | exact QJ (by omega) (by omega) | exact QM (by omega) (by omega) | rfl) (Qa Z (hK _ ?_))))))
    refine Qj (i + 1) ?_ ?_ ?_
    ·exact QV (kp3 rfl rfl rfl)
    ·exact ⟨by omega, Zf (by omega) hI.2 (by simp [QdE, h1, h2, h3])⟩
    ·first | omega | (simp only; omega) | (dsimp only; omega)
  ·try rw [h2]
   try simp only [qB, Qg] at h2
   refine Zu (QL (Qy (QI (Qd (QO) (Qe fun K hK => Qa Z (hK _ _ (Qb (kp1 Z) ?_)))))))
   refine Qs (Qo Z ?_)
   first | (simp [Qe6, h1, h2]; done) | exact (Qh9 (i := i) (by omega) (by simp [QdE, h1, h2])).symm | exact (Qgh (i := i) (by assumption) (by omega) hI.2).symm
theorem Qcy {a b c : Int} {p q : List UInt8} (hp : p.length <= 1000000) (hq : q.length <= 1000000) : Ok Try.prog 65 [.agg [.int .i64 a, .int .i64 b, .int .i64 c, .str p, .str q]] (.bool (Qba a b c p q)) := by
 refine Ok.ofT Z2 Try.func65 QpH (Nat.le_of_ble_eq_true Z) ?_
 show TW _ _ tf65.body _ _
 refine Qe fun K hK => ZL Z Z Z (Qa Z (hK _ _ (Qb (kp1 Z) ?_)))
 refine Qe fun K hK => Qn Z Z (QG Z Z Z (QE (Qan) Z Z (.inr Z) (Qa Z ?_)))
 refine QA (g := 6) Z (fun h1 => ?_) (fun h1 => ?_)
 ·try rw [h1]
  try simp only [qB] at h1
  refine Qf Z (Qn Z Z (Qf Z (QG Z Z Z (Qf Z (QE (Qan) Z Z (.inr Z) (Ql Z Z (Qa Z ?_)))))))
  refine QA (g := 11) Z (fun h2 => ?_) (fun h2 => ?_)
  ·try rw [h2]
   try simp only [qB] at h2
   refine Qf Z (Qn Z Z (Qf Z (QG Z Z Z (Qf Z (QE (Qan) Z Z (.inr Z) (Ql Z Z (Qa Z ?_)))))))
   refine QA (g := 16) Z (fun h3 => ?_) (fun h3 => ?_)
   ·try rw [h3]
    try simp only [qB] at h3
    refine Qf Z (Qn Z Z (Qf Z (QG Z Z Z (Qf Z (Qbd Z Z (Qf Z (Qa Z ?_)))))))
    refine QA (g := 20) Z (fun h4 => ?_) (fun h4 => ?_)
    ·try rw [h4]
     try simp only [qB] at h4
     refine Qt Z (Qt Z (Qt Z (Qf Z (Ql Z Z (Ql Z Z (Qa Z (Qf Z (Qn Z Z (Qf Z (QG Z Z Z (Qf Z ?_)))))))))))
     refine Qbd Z Z (Qf Z (Qa Z ?_))
     refine QA (g := 30) Z (fun h5 => ?_) (fun h5 => ?_)
     ·try rw [h5]
      try simp only [qB] at h5
      refine Qt Z (Qt Z (Qt Z (Qf Z (Ql Z Z (Ql Z Z (Qa Z (hK _ _ (Qb (kp1 Z) ?_))))))))
      refine Qs (Qo Z ?_)
      simp [Qba, YG, Y5, h1, h2, h3, h4, h5]
     ·try rw [h5]
      try simp only [qB] at h5
      refine Qf Z (Qn Z Z (Qf Z (QG Z Z Z (Qf Z (QE (Qao (by omega)) Z Z (.inr Z) (Qf Z (Ql Z Z (Ql Z Z (Qa Z (hK _ _ (Qb (kp1 Z) ?_)))))))))))
      refine Qs (Qo Z ?_)
      simp [Qba, YG, Y5, h1, h2, h3, h4, h5]
    ·try rw [h4]
     try simp only [qB] at h4
     refine Qf Z (Qn Z Z (Qf Z (QG Z Z Z (Qf Z (QE (QfP (by omega)) Z Z (.inr Z) (Qf Z (Ql Z Z (Ql Z Z (Qa Z ?_)))))))))
     refine QA (g := 26) Z (fun h6 => ?_) (fun h6 => ?_)
     ·try rw [h6]
      try simp only [qB] at h6
      refine Qf Z (Qn Z Z (Qf Z (QG Z Z Z (Qf Z (Qbd Z Z (Qf Z (Qa Z ?_)))))))
      refine QA (g := 30) Z (fun h7 => ?_) (fun h7 => ?_)
      ·try rw [h7]
       try simp only [qB] at h7
       refine Qt Z (Qt Z (Qt Z (Qf Z (Ql Z Z (Ql Z Z (Qa Z (hK _ _ (Qb (kp1 Z) ?_))))))))
       refine Qs (Qo Z ?_)
       simp [Qba, YG, Y5, h1, h2, h3, h4, h6, h7]
      ·try rw [h7]
       try simp only [qB] at h7
       refine Qf Z (Qn Z Z (Qf Z (QG Z Z Z (Qf Z (QE (Qao (by omega)) Z Z (.inr Z) (Qf Z (Ql Z Z (Ql Z Z (Qa Z (hK _ _ (Qb (kp1 Z) ?_)))))))))))
       refine Qs (Qo Z ?_)
       simp [Qba, YG, Y5, h1, h2, h3, h4, h6, h7]
     ·try rw [h6]
      try simp only [qB] at h6
      refine Qt Z (Qt Z (Qt Z (Qt Z (Qr Z (Qr Z (Qr Z (Qt Z (Ql Z Z (Qa Z (hK _ _ (Qb (kp1 Z) ?_)))))))))))
      refine Qs (Qo Z ?_)
      simp [Qba, YG, Y5, h1, h2, h3, h4, h6]
   ·try rw [h3]
    try simp only [qB] at h3
    refine Qt Z (Qt Z (Qt Z (Qt Z (Qr Z (Qr Z (Qr Z (Qt Z (Ql Z Z (Qa Z (Qt Z (Qt Z ?_)))))))))))
    refine Qt Z (Qt Z (Qr Z (Qr Z (Qr Z (Qt Z (Ql Z Z (Qa Z (hK _ _ (Qb (kp1 Z) ?_)))))))))
    refine Qs (Qo Z ?_)
    simp [Qba, YG, Y5, h1, h2, h3]
  ·try rw [h2]
   try simp only [qB] at h2
   refine Qt Z (Qt Z (Qt Z (Ql Z Z (Qa Z (Qt Z (Qt Z (Qt Z (Qt Z (Qr Z (Qr Z (Qr Z ?_)))))))))))
   refine Qt Z (Ql Z Z (Qa Z (Qt Z (Qt Z (Qt Z (Qt Z (Qr Z (Qr Z (Qr Z (Qt Z (Ql Z Z ?_)))))))))))
   refine Qa Z (hK _ _ (Qb (kp1 Z) ?_))
   refine Qs (Qo Z ?_)
   simp [Qba, YG, Y5, h1, h2]
 ·try rw [h1]
  try simp only [qB] at h1
  refine Qt Z (Qt Z (Qt Z (Ql Z Z (Qa Z (Qt Z (Qt Z (Qt Z (Ql Z Z (Qa Z (Qt Z (Qt Z ?_)))))))))))
  refine Qt Z (Qt Z (Qr Z (Qr Z (Qr Z (Qt Z (Ql Z Z (Qa Z (Qt Z (Qt Z (Qt Z (Qt Z ?_)))))))))))
  refine Qr Z (Qr Z (Qr Z (Qt Z (Ql Z Z (Qa Z (hK _ _ (Qb (kp1 Z) ?_)))))))
  refine Qs (Qo Z ?_)
  simp [Qba, YG, Y5, h1]
theorem Qdb {a b c : Int} {p q : List UInt8} (hp : p.length <= 1000000) (hq : q.length <= 1000000) {a' b' c' : Int} {p' q' : List UInt8} (hp' : p'.length <= 1000000) (hq' : q'.length <= 1000000) : Ok Try.prog 41 [.agg [.int .i64 a, .int .i64 b, .int .i64 c, .str p, .str q], .agg [.int .i64 a', .int .i64 b', .int .i64 c', .str p', .str q']] (.int .i64 (Qcf a b c p q a' b' c' p' q')) := by
 refine Ok.ofT Z2 Try.func41 Qpj (Nat.le_of_ble_eq_true Z) ?_
 show TW _ _ tf41.body _ _
 refine Qe fun K hK => ZL Z Z Z (ZL Z Z Z (Qa Z (hK _ _ (Qb (kp2 Z Z) ?_))))
 refine QF ?_ -- 0
 refine Qe fun K hK => Q0 (ds0 := [13, 12, 11, 10, 9, 8, 7, 6, 5, 4, 3, 2, 1, 0]) (cs := [_, _, _, _, _]) Z Z Z Z Z Z (Zj (ds0 := [12, 11, 10, 9, 8, 7, 6, 5, 4, 3, 2, 1, 0]) (Qcy (by omega) (by omega)) Z Z (.inr Z) Z Z (Yb Z (Qa Z ?_)))
 refine QA (g := 13) Z (fun h1 => ?_) (fun h1 => ?_)
 ·try rw [h1]
  try simp only [qB, Qg] at h1
  refine Qt Z (Qt Z (Qt Z (Ql Z Z (Qa Z (Qt Z (Qt Z (Qt Z (Qt Z (Qt Z (Ql Z Z (hK _ _ (Qb (kp3 Z Z Z) ?_))))))))))))
  refine ZH Z (Qe fun K hK => Qa Z (hK _ _ (Qb (kp1 Z) ?_)))
  refine Qs (Qk (Qw Z ?_))
  first | (simp [Qcf, h1]; done) | (exact (QcC (by assumption) (by assumption) (by assumption)).symm) | (exact QaK (by assumption) (by assumption) (by assumption)) | (exact (XN (by assumption) (by assumption) (by assumption) (by assumption) (by assumption)).symm) | (exact (XO (by assumption) (by assumption) (by assumption) (by assumption) (by assumption)).symm) | (rw [hI.2.2, Yo (by omega) (by omega) (by assumption)]) | (rw [hI.2.2, Yn (by omega) (by omega) (by omega)]; simp [Qg])
 ·try rw [h1]
  try simp only [qB, Qg] at h1
  refine Qf Z (Q0 (ds0 := [9, 8, 7, 6, 5, 4, 3, 2, 1, 0]) (cs := [_, _, _, _, _]) Z Z Z Z Z Z (Qf Z (Zj (ds0 := [8, 7, 6, 5, 4, 3, 2, 1, 0]) (Qcy (by omega) (by omega)) Z Z (.inr Z) Z Z (Qf Z (Yb Z (Ql Z Z (Qa Z ?_)))))))
  refine QA (g := 18) Z (fun h2 => ?_) (fun h2 => ?_)
  ·try rw [h2]
   try simp only [qB, Qg] at h2
   refine Qt Z (Qt Z (Qt Z (Qt Z (Qt Z (Ql Z Z (hK _ _ (Qb (kp3 Z Z Z) ?_)))))))
   refine ZH Z (Qe fun K hK => Qa Z (hK _ _ (Qb (kp1 Z) ?_)))
   refine Qs (Qk (Qw Z ?_))
   first | (simp [Qcf, h1, h2]; done) | (exact (QcC (by assumption) (by assumption) (by assumption)).symm) | (exact QaK (by assumption) (by assumption) (by assumption)) | (exact (XN (by assumption) (by assumption) (by assumption) (by assumption) (by assumption)).symm) | (exact (XO (by assumption) (by assumption) (by assumption) (by assumption) (by assumption)).symm) | (rw [hI.2.2, Yo (by omega) (by omega) (by assumption)]) | (rw [hI.2.2, Yn (by omega) (by omega) (by omega)]; simp [Qg])
  ·try rw [h2]
   try simp only [qB, Qg] at h2
   refine Qf Z (Q0 (ds0 := [4, 1, 0]) (cs := [_, _, _, _, _]) Z Z Z Z Z Z (Qf Z (Zj (ds0 := [1, 0]) (Qb0) Z Z (.inl Z) Z Z (Qf Z (Q0 (ds0 := [2, 1, 0]) (cs := [_, _, _, _, _]) Z Z Z Z Z Z (Qf Z (Zj (ds0 := [1, 0]) (Qb0) Z Z (.inl Z) Z Z (Qf Z (QjB Z Z Z (Ql Z Z (hK _ _ (Qb (kp3 Z Z Z) ?_))))))))))))
   refine Qz Z (fun h3 => ?_) (fun h3 => ?_)
   ·try rw [h3]
    try simp only [qB, Qg] at h3
    refine Qe fun K hK => Qa Z (hK _ _ (Qb (kp1 Z) ?_))
    refine Qs (Qk (Qw Z ?_))
    first | (simp [Qcf, h1, h2, h3]; done) | (exact (QcC (by assumption) (by assumption) (by assumption)).symm) | (exact QaK (by assumption) (by assumption) (by assumption)) | (exact (XN (by assumption) (by assumption) (by assumption) (by assumption) (by assumption)).symm) | (exact (XO (by assumption) (by assumption) (by assumption) (by assumption) (by assumption)).symm) | (rw [hI.2.2, Yo (by omega) (by omega) (by assumption)]) | (rw [hI.2.2, Yn (by omega) (by omega) (by omega)]; simp [Qg])
   ·try rw [h3]
    try simp only [qB, Qg] at h3
    refine Qu (Qd (kp2 Z Z) ?_)
    refine QF ?_ -- 1
    refine Qe fun K hK => Qn Z Z (QP (ds0 := [13, 2, 1, 0]) Z Z Z Z Z (Qn Z Z (QP (ds0 := [13, 2, 1, 0]) Z Z Z Z Z (Zj (ds0 := [2, 1, 0]) (Z3) Z Z (.inr Z) Z Z (Qn Z Z (QP (ds0 := [8, 2, 1, 0]) Z Z Z Z Z (Qn Z Z (QP (ds0 := [8, 2, 1, 0]) Z Z Z Z Z (Zj (ds0 := [2, 1, 0]) (Z3) Z Z (.inr Z) Z Z (Qn Z Z ?_))))))))))
    refine QP (ds0 := [3, 2, 1, 0]) Z Z Z Z Z (Qn Z Z (QP (ds0 := [3, 2, 1, 0]) Z Z Z Z Z (Zj (ds0 := [2, 1, 0]) (Z3) Z Z (.inr Z) Z Z (QN Z Z (Zj (ds0 := [0]) (QgP (l := [ZW a a', ZW b b', ZW c c']) (by simp)) Z Z (.inr Z) Z Z (Qa Z (hK _ _ (Qb (kp3 Z Z Z) ?_))))))))
    refine Qe fun K hK => Qa Z (YR Z Z (hK _ _ (Qb (kp4 Z Z Z Z) ?_)))
    refine Qz Z (fun h4 => ?_) (fun h4 => ?_)
    ·try rw [h4]
     try simp only [qB, Qg] at h4
     refine Qe fun K hK => Qa Z (Qa Z (hK _ _ (Qb (kp1 Z) ?_)))
     refine Qs (Qk (Qw Z ?_))
     first | (simp [Qcf, h1, h2, h3, h4]; done) | (exact (QcC (by assumption) (by assumption) (by assumption)).symm) | (exact QaK (by assumption) (by assumption) (by assumption)) | (exact (XN (by assumption) (by assumption) (by assumption) (by assumption) (by assumption)).symm) | (exact (XO (by assumption) (by assumption) (by assumption) (by assumption) (by assumption)).symm) | (rw [hI.2.2, Yo (by omega) (by omega) (by assumption)]) | (rw [hI.2.2, Yn (by omega) (by omega) (by omega)]; simp [Qg])
    ·try rw [h4]
     try simp only [qB, Qg] at h4
     refine Qu (Qd (kp2 Z Z) ?_)
     refine QF ?_ -- 2
     refine Qe fun K hK => Qn Z Z (QG Z Z Z (Qbd Z Z (hK _ _ (Qb (kp3 Z Z Z) ?_))))
     refine Qz Z (fun h5 => ?_) (fun h5 => ?_)
     ·try rw [h5]
      try simp only [qB, Qg] at h5
      refine Qe fun K hK => Qa Z (hK _ _ (Qb (kp1 Z) ?_))
      refine Qs (Qk (Qw Z ?_))
      first | (simp [Qcf, h1, h2, h3, h4, h5]; done) | (exact (QcC (by assumption) (by assumption) (by assumption)).symm) | (exact QaK (by assumption) (by assumption) (by assumption)) | (exact (XN (by assumption) (by assumption) (by assumption) (by assumption) (by assumption)).symm) | (exact (XO (by assumption) (by assumption) (by assumption) (by assumption) (by assumption)).symm) | (rw [hI.2.2, Yo (by omega) (by omega) (by assumption)]) | (rw [hI.2.2, Yn (by omega) (by omega) (by omega)]; simp [Qg])
     ·try rw [h5]
      try simp only [qB, Qg] at h5
      refine Qu (Qd (kp2 Z Z) ?_)
      refine QF ?_ -- 3
      refine Qe fun K hK => Qn Z Z (QG Z Z Z (Qbd Z Z (hK _ _ (Qb (kp3 Z Z Z) ?_))))
      refine Qz Z (fun h6 => ?_) (fun h6 => ?_)
      ·try rw [h6]
       try simp only [qB, Qg] at h6
       refine Qe fun K hK => Qa Z (hK _ _ (Qb (kp1 Z) ?_))
       refine Qs (Qk (Qw Z ?_))
       first | (simp [Qcf, h1, h2, h3, h4, h5, h6]; done) | (exact (QcC (by assumption) (by assumption) (by assumption)).symm) | (exact QaK (by assumption) (by assumption) (by assumption)) | (exact (XN (by assumption) (by assumption) (by assumption) (by assumption) (by assumption)).symm) | (exact (XO (by assumption) (by assumption) (by assumption) (by assumption) (by assumption)).symm) | (rw [hI.2.2, Yo (by omega) (by omega) (by assumption)]) | (rw [hI.2.2, Yn (by omega) (by omega) (by omega)]; simp [Qg])
      ·try rw [h6]
       try simp only [qB, Qg] at h6
       refine Qu (Qd (kp2 Z Z) (Qe fun K hK => Qn Z Z (QP (ds0 := [5, 1]) Z Z Z Z Z (Zj (ds0 := [1]) (XL (by omega)) Z Z (.inl Z) Z Z (Qn Z Z (QP (ds0 := [2, 0]) Z Z Z Z Z (Zj (ds0 := [0]) (XL (by omega)) Z Z (.inl Z) Z Z (Qa Z (Qa Z (hK _ _ (Qb (kp2 Z Z) ?_)))))))))))
       refine QF ?_ -- 4
       refine Qe fun K hK => Qa Z (hK _ _ (Qb (kp3 Z Z Z) ?_))
       refine QH ?_
       refine ZQ (ι := Nat) (fun i => ⟨[(6, .sl (ZZ (Q5 p 46))), (7, .sl (ZZ (Q5 p' 46))), (8, .int .i64 i)], []⟩) (fun i => i <= (Q5 p 46).length /\ i <= (Q5 p' 46).length /\ Qcf a b c p q a' b' c' p' q' = QiT ((Q5 p 46).drop i) ((Q5 p' 46).drop i)) (fun i => (Q5 p 46).length - i) 0 ?_ ?_ ?_
       ·exact Zp (l := [6, 7, 8]) (kp3 rfl rfl rfl) Qx rfl rfl rfl
       ·exact ⟨Nat.zero_le _, Nat.zero_le _, QmD (by assumption) (by assumption) (by assumption) (by assumption) (by assumption) (by assumption)⟩
       intro i hI
       have sl := Qc3 (s := p) (c := 46)
       try dsimp only
       refine QF ?_ -- 5
       refine Qe fun K hK => Qa Z (Qa Z (Q4 Z Z (Yz Z Z (Qa Z ?_))))
       refine QA (g := 61) Z (fun h7 => ?_) (fun h7 => ?_)
       ·try rw [h7]
        try simp only [qB, Qg] at h7
        refine Qf Z (Qa Z (Qf Z (Qa Z (Qf Z (Q4 Z Z (Qf Z (Yz Z Z (Ql Z Z (hK _ _ (Qb (kp4 Z Z Z Z) ?_))))))))))
        refine Qz Z (fun h8 => ?_) (fun h8 => ?_)
        ·try rw [h8]
         try simp only [qB, Qg] at h8
         refine Qu (Qd (kp3 Z Z Z) ?_)
         refine QF ?_ -- 6
         refine QH (Qe fun K hK => Qa Z (Qa Z (QD Z Z Z (by omega) (Xb (by omega)) Z (QP (ds0 := [1, 0]) Z Z Z Z Z (Qa Z (Qa Z (QD Z Z Z (by omega) (Xb (by omega)) Z (QP (ds0 := [1, 0]) Z Z Z Z Z (Zj (ds0 := [0]) (QfQ (XR (by omega) hp) (XR (by omega) hp')) Z Z (.inr Z) Z Z (Qa Z ?_))))))))))
         refine hK _ _ (Qb (kp4 Z Z Z Z) ?_)
         refine Qe fun K hK => Qa Z (YR Z Z (hK _ _ (Qb (kp5 Z Z Z Z Z) ?_)))
         refine Qz Z (fun h9 => ?_) (fun h9 => ?_)
         ·try rw [h9]
          try simp only [qB, Qg] at h9
          refine Qe fun K hK => Qa Z (Qa Z (hK _ _ (Qb (kp1 Z) ?_)))
          refine Qs (Qp (Qk (QZ (Qp (Qk (Qw Z ?_))))))
          first | (simp [Qcf, h1, h2, h3, h4, h5, h6, h7, h8, h9]; done) | (exact (QcC (by assumption) (by assumption) (by assumption)).symm) | (exact QaK (by assumption) (by assumption) (by assumption)) | (exact (XN (by assumption) (by assumption) (by assumption) (by assumption) (by assumption)).symm) | (exact (XO (by assumption) (by assumption) (by assumption) (by assumption) (by assumption)).symm) | (rw [hI.2.2, Yo (by omega) (by omega) (by assumption)]) | (rw [hI.2.2, Yn (by omega) (by omega) (by omega)]; simp [Qg])
         ·try rw [h9]
          try simp only [qB, Qg] at h9
          refine Qu (Qh (Qd (kp3 Z Z Z) (Q2 fun K hK => Qa Z (Zd Z Z (by first | exact Qq (by omega) (by omega) | exact QJ (by omega) (by omega) | exact QM (by omega) (by omega) | rfl) (Qa Z (hK _ ?_))))))
          refine Qj (i + 1) ?_ ?_ ?_
          ·exact QV (kp3 rfl rfl rfl)
          ·exact ⟨by omega, by omega, by rw [hI.2.2, Qhi (by omega) (by omega) (by assumption)]⟩
          ·first | omega | (simp only; omega) | (dsimp only; omega)
        ·try rw [h8]
         try simp only [qB, Qg] at h8
         refine Zu (QL (Qy (QI (Qd (kp2 Z Z) (Qe fun K hK => Qa Z (Q4 Z Z (Qa Z (Q4 Z Z (QE (Z3) Z Z (.inr Z) (Qa Z ?_))))))))))
         refine hK _ _ (Qb (kp1 Z) ?_)
         refine Qs (Qw Z ?_)
         first | (simp [Qcf, h1, h2, h3, h4, h5, h6, h7, h8]; done) | (exact (QcC (by assumption) (by assumption) (by assumption)).symm) | (exact QaK (by assumption) (by assumption) (by assumption)) | (exact (XN (by assumption) (by assumption) (by assumption) (by assumption) (by assumption)).symm) | (exact (XO (by assumption) (by assumption) (by assumption) (by assumption) (by assumption)).symm) | (rw [hI.2.2, Yo (by omega) (by omega) (by assumption)]) | (rw [hI.2.2, Yn (by omega) (by omega) (by omega)]; simp [Qg])
       ·try rw [h7]
        try simp only [qB, Qg] at h7
        refine Qt Z (Qt Z (Qt Z (Qt Z (Ql Z Z (hK _ _ (Qb (kp4 Z Z Z Z) ?_))))))
        refine ZB Z (Zu (QL (Qy (QI (Qd (kp2 Z Z) (Qe fun K hK => Qa Z (Q4 Z Z (Qa Z (Q4 Z Z (QE (Z3) Z Z (.inr Z) ?_))))))))))
        refine Qa Z (hK _ _ (Qb (kp1 Z) ?_))
        refine Qs (Qw Z ?_)
        first | (simp [Qcf, h1, h2, h3, h4, h5, h6, h7]; done) | (exact (QcC (by assumption) (by assumption) (by assumption)).symm) | (exact QaK (by assumption) (by assumption) (by assumption)) | (exact (XN (by assumption) (by assumption) (by assumption) (by assumption) (by assumption)).symm) | (exact (XO (by assumption) (by assumption) (by assumption) (by assumption) (by assumption)).symm) | (rw [hI.2.2, Yo (by omega) (by omega) (by assumption)]) | (rw [hI.2.2, Yn (by omega) (by omega) (by omega)]; simp [Qg])
end Go.Proofs
namespace M3
open Go Go.Abs
end M3
namespace M3
open Go Go.Abs
end M3
namespace M3
open Go Go.Abs
end M3
namespace M25
open Go Go.Abs M3
def Qfr (a b c : Int) : Bool := decide (a = 0) && decide (b = 0) && decide (c = 0)
def XP (a b c : Int) (p q : List UInt8) (part : Int) : Option (Int × Int × Int) :=
 if Qba a b c p q = false \/ part < 0 \/ 2 < part then none
 else
  let o := if part = 0 then (a + 1, 0, 0) else if part = 1 then (a, b + 1, 0) else (a, b, c + 1)
  if Qba o.1 o.2.1 o.2.2 [] [] = true then some o else none
def dOV (o : Option (Int × Int × Int)) : D := .tup [.agg [.int .i64 (o.getD (0, 0, 0)).1, .int .i64 (o.getD (0, 0, 0)).2.1, .int .i64 (o.getD (0, 0, 0)).2.2, .str [], .str []], .bool o.isSome]
def Xp (a b c : Int) (p q : List UInt8) : Nat -> Option (Int × Int × Int)
 | 0 => none
 | n + 1 => if (XP a b c p q n).isSome = true then XP a b c p q n else Xp a b c p q n
def Qhe (a b c : Int) (p q : List UInt8) : Option (Int × Int × Int) :=
 if Qba a b c p q = false then none else if p ≠ [] then some (a, b, c) else Xp a b c p q 3
theorem QbL {a b c : Int} {p q : List UInt8} (h : Qba a b c p q = true) : (0 <= a /\ a <= 9999) /\ (0 <= b /\ b <= 9999) /\ (0 <= c /\ c <= 9999) := by
 simp only [Qba, Qe1, Bool.and_eq_true, decide_eq_true_eq] at h
 omega
theorem QhM {a b c : Int} {p q : List UInt8} {m : Nat} (hm : 0 < m) (h : (XP a b c p q ((m : Int) - 1)).isSome = false) : Xp a b c p q m = Xp a b c p q (m - 1) := by
 obtain ⟨n, rfl⟩ : ∃ n, m = n + 1 := ⟨m - 1, by omega⟩
 rw [show ((n + 1 : Nat) : Int) - 1 = (n : Int) by omega] at h
 rw [Xp, if_neg (by rw [h]; simp)]; rfl
theorem QgO {a b c : Int} {p q : List UInt8} {m : Nat} (hm : 0 < m) (h : (XP a b c p q ((m : Int) - 1)).isSome = true) : Xp a b c p q m = XP a b c p q ((m : Int) - 1) := by
 obtain ⟨n, rfl⟩ : ∃ n, m = n + 1 := ⟨m - 1, by omega⟩
 rw [show ((n + 1 : Nat) : Int) - 1 = (n : Int) by omega] at h ⊢
 rw [Xp, if_pos h]
def dCu (x : Cu) : List D := [.int .i64 x.e, .int .i64 x.a, .int .i64 x.b, .int .i64 x.c, .str x.p, .str x.q, .bool x.f]
def QdB (s : Cu × Cu) : List D := dCu s.1 ++ dCu s.2
def ZO (l : List (Cu × Cu)) : D := .sl (l.map QdB)
def Qgw (s : List (Cu × Cu) × List (Cu × Cu)) : D := .agg [ZO s.1, ZO s.2]
def Qb1 : Cu := ⟨-1, 0, 0, 0, [], [], false⟩
def Qe0 : Cu := ⟨1, 0, 0, 0, [], [], false⟩
def QeD (a b c : Int) : Cu := if Qfr a b c = true then Qb1 else ⟨0, a, b, c, [], [], false⟩
def QcP (a b c : Int) : Cu := match Qhe a b c [] [] with
 | none => Qe0
 | some o => ⟨0, o.1, o.2.1, o.2.2, [], [], false⟩
def Y4 (a b c : Int) (p q : List UInt8) : List (Cu × Cu) × List (Cu × Cu) :=
 if Qba a b c p q = false then ([], []) else if p ≠ [] then ([], [(⟨0, a, b, c, p, [], false⟩, ⟨0, a, b, c, p, [], true⟩)]) else ([(QeD a b c, QcP a b c)], [])
def Qfs (e a b c : Int) (p q : List UInt8) (f : Bool) : Bool := !decide (e = 0) || (!f && decide (p = []) && !Qfr a b c)
def Cu.sm (x : Cu) : Prop := x.p.length <= 1000000 /\ x.q.length <= 1000000
def Sm (l : List (Cu × Cu)) : Prop := l.length <= 1000000 /\ ∀ s ∈ l, Cu.sm s.1 /\ Cu.sm s.2
theorem Sm.at {l : List (Cu × Cu)} (h : Sm l) {i : Nat} (hi : i < l.length) : (l[i].1.p.length <= 1000000 /\ l[i].1.q.length <= 1000000) /\ (l[i].2.p.length <= 1000000 /\ l[i].2.q.length <= 1000000) := h.2 _ (List.getElem_mem hi)
def QcR (s : Cu × Cu) : Bool := Qhj s.1.e s.1.a s.1.b s.1.c s.1.p s.1.q s.1.f s.2.e s.2.a s.2.b s.2.c s.2.p s.2.q s.2.f
def QaV (x y : Cu) : Int := QaU x.e x.a x.b x.c x.p x.q x.f y.e y.a y.b y.c y.p y.q y.f
def Qnd (l : List (Cu × Cu)) (i : Nat) : Bool := match l[i]? with
 | none => true
 | some s => QcR s && (decide (i = 0) || match l[i - 1]? with | none => true | some r => decide (QaV r.2 s.1 < 0))
theorem Qkp {l : List (Cu × Cu)} {i : Nat} (h : i < l.length) : Qnd l i = (QcR l[i] && (decide (i = 0) || decide (QaV (l[i - 1]'(by omega)).2 l[i].1 < 0))) := by
 unfold Qnd
 rw [List.getElem?_eq_getElem h, List.getElem?_eq_getElem (show i - 1 < l.length by omega)]
theorem Ql9 {l : List (Cu × Cu)} {i : Nat} (h : i < l.length) (h1 : QcR l[i] = true) (h2 : i = 0 \/ QaV (l[i - 1]'(by omega)).2 l[i].1 < 0) : Qnd l i = true := by
 rw [Qkp h, h1]; simpa using h2
theorem Qfx {l : List (Cu × Cu)} {i : Nat} (h : i < l.length) (h1 : QcR l[i] = false \/ (i ≠ 0 /\ 0 <= QaV (l[i - 1]'(by omega)).2 l[i].1)) : Qnd l i = false := by
 rw [Qkp h]
 rcases h1 with h1 | ⟨h1, h2⟩
 ·rw [h1]; rfl
 ·simp only [Bool.and_eq_false_iff, Bool.or_eq_false_iff, decide_eq_false_iff_not]
  exact .inr ⟨h1, by omega⟩
def Qe3 (l : List (Cu × Cu)) : Bool := (List.range l.length).all (Qnd l)
theorem QaX {n i : Nat} {p : Nat -> Bool} (h : i < n) (hp : p i = false) : (List.range n).all p = false := by
 rw [Bool.eq_false_iff]; intro ha
 rw [List.all_eq_true] at ha
 rw [ha i (List.mem_range.2 h)] at hp; cases hp
theorem QdR {i : Nat} {p : Nat -> Bool} (h : (List.range i).all p = true) (hp : p i = true) : (List.range (i + 1)).all p = true := by
 rw [List.range_succ, List.all_append, h]; simp [hp]
theorem Qgi {i : Nat} {p : Nat -> Bool} {n : Nat} (h : (List.range i).all p = true) (hn : n <= i) : (List.range n).all p = true := by
 rw [List.all_eq_true] at h ⊢
 exact fun x hx => h x (List.mem_range.2 (Nat.lt_of_lt_of_le (List.mem_range.1 hx) hn))
def inC (x y : Cu) (s : Cu × Cu) : Bool := decide (QaV s.1 x <= 0) && decide (QaV y s.2 <= 0)
theorem QnI {x y : Cu} {s : Cu × Cu} (h1 : QaV s.1 x <= 0) (h2 : QaV y s.2 <= 0) : inC x y s = true := by simp [inC, h1, h2]
theorem QnH {x y : Cu} {s : Cu × Cu} (h : ¬ QaV s.1 x <= 0 \/ ¬ QaV y s.2 <= 0) : inC x y s = false := by
 simp only [inC, Bool.and_eq_false_iff, decide_eq_false_iff_not]; exact h
def mIn (l : List (Cu × Cu)) (x y : Cu) : Bool := l.any (inC x y)
theorem QhK {α : Type} {s : List α} {p : α -> Bool} {i : Nat} (h : i < s.length) (hp : p s[i] = true) : s.any p = true := List.any_eq_true.2 ⟨_, List.getElem_mem h, hp⟩
theorem QlS {α : Type} {s : List α} {p : α -> Bool} {i : Nat} (hi : s.length <= i) (h : (s.take i).any p = false) : s.any p = false := by rwa [List.take_of_length_le hi] at h
theorem Qfb {α : Type} {s : List α} {p : α -> Bool} {i : Nat} (h : i < s.length) (ha : (s.take i).any p = false) (hp : p s[i] = false) : (s.take (i + 1)).any p = false := by
 rw [List.take_succ_eq_append_getElem h, List.any_append, ha]; simp [hp]
def Qa4 (x : Cu) : Bool := Qfs x.e x.a x.b x.c x.p x.q x.f
def Qe4 (s : List (Cu × Cu) × List (Cu × Cu)) : Bool := Qe3 s.1 && Qe3 s.2 && s.1.all fun x => Qa4 x.1 && Qa4 x.2
theorem Qat {s : List (Cu × Cu) × List (Cu × Cu)} (h : Qe3 s.1 = false \/ Qe3 s.2 = false) : Qe4 s = false := by
 rw [Qe4]; rcases h with h | h <;> simp [h]
theorem Qas {s : List (Cu × Cu) × List (Cu × Cu)} {i : Nat} (hi : i < s.1.length) (h : Qa4 s.1[i].1 = false \/ Qa4 s.1[i].2 = false) : Qe4 s = false := by
 have : (s.1.all fun x => Qa4 x.1 && Qa4 x.2) = false := Yd hi (by rcases h with h | h <;> simp [h])
 rw [Qe4, this, Bool.and_false]
theorem QcT {s : List (Cu × Cu) × List (Cu × Cu)} {i : Nat} (h1 : Qe3 s.1 = true) (h2 : Qe3 s.2 = true) (hi : s.1.length <= i) (h : (s.1.take i).all (fun x => Qa4 x.1 && Qa4 x.2) = true) : Qe4 s = true := by
 rw [List.take_of_length_le hi] at h
 rw [Qe4, h1, h2, h]; rfl
def QfS (l : List Cu) : D := .sl (l.map dCu)
theorem Qht {l : List Cu} : ∀ r ∈ l.map dCu, r.length = 7 := fun r hr => by obtain ⟨x, _, rfl⟩ := List.mem_map.1 hr; rfl
theorem QlG {l : List Cu} {a b : Nat} : ∀ r ∈ ((l.map dCu).take a).drop b, r.length = 7 := fun r hr => Qht r (List.mem_of_mem_take (List.mem_of_mem_drop hr))
def Qbu : List Cu -> Cu -> List Cu
 | [], c => [c]
 | x :: r, c => if QaV x c < 0 then x :: Qbu r c else if QaV x c = 0 then x :: r else c :: x :: r
theorem Qkg {l : List Cu} {c : Cu} {k : Nat} (hk : k < l.length) (h : QaV l[k] c < 0) (hi : Qbu l c = l.take k ++ Qbu (l.drop k) c) : Qbu l c = l.take (k + 1) ++ Qbu (l.drop (k + 1)) c := by
 rw [hi, List.drop_eq_getElem_cons hk, Qbu, if_pos h, List.take_succ_eq_append_getElem hk, List.append_assoc]; rfl
theorem Qkf {l : List Cu} {c : Cu} {k : Nat} (hk : k < l.length) (h : QaV l[k] c = 0) (hi : Qbu l c = l.take k ++ Qbu (l.drop k) c) : Qbu l c = l := by
 rw [hi, List.drop_eq_getElem_cons hk, Qbu, if_neg (by omega), if_pos h, <- List.drop_eq_getElem_cons hk, List.take_append_drop]
theorem QiS {l : List Cu} {c : Cu} {k : Nat} (h : l.length <= k \/ ∃ hk : k < l.length, ¬ QaV l[k] c < 0 /\ QaV l[k] c ≠ 0) (hi : Qbu l c = l.take k ++ Qbu (l.drop k) c) : Qbu l c = l.take k ++ c :: l.drop k := by
 rw [hi]
 rcases h with h | ⟨hk, h1, h2⟩
 ·rw [List.drop_eq_nil_of_le h, Qbu]
 ·rw [List.drop_eq_getElem_cons hk, Qbu, if_neg h1, if_neg h2]
theorem QdN : ∀ (l : List Cu) (c : Cu), (Qbu l c).length <= l.length + 1
 | [], c => by simp [Qbu]
 | x :: r, c => by
  have := QdN r c
  simp only [Qbu]
  (repeat' split) <;> simp <;> omega
theorem Qgc : ∀ {l : List Cu} {c : Cu}, (∀ x ∈ l, Cu.sm x) -> Cu.sm c -> ∀ x ∈ Qbu l c, Cu.sm x
 | [], c, _, hc, x, hx => by simp [Qbu] at hx; exact hx ▸ hc
 | y :: r, c, hl, hc, x, hx => by
  simp only [Qbu] at hx
  split at hx
  ·rcases List.mem_cons.1 hx with rfl | hx
   ·exact hl _ (by simp)
   ·exact Qgc (fun z hz => hl z (by simp [hz])) hc x hx
  ·split at hx
   ·exact hl x hx
   ·rcases List.mem_cons.1 hx with rfl | hx
    ·exact hc
    ·exact hl x hx
def YM (l : List (Cu × Cu)) : List Cu := l.foldl (fun out s => Qbu (Qbu out s.1) s.2) [Qb1, Qe0]
theorem Qlq {l : List (Cu × Cu)} {i : Nat} (h : i < l.length) : YM (l.take (i + 1)) = Qbu (Qbu (YM (l.take i)) l[i].1) l[i].2 := by
 rw [List.take_succ_eq_append_getElem h, YM, List.foldl_append]; rfl
theorem Qfo : ∀ (l : List (Cu × Cu)) (out : List Cu), (l.foldl (fun out s => Qbu (Qbu out s.1) s.2) out).length <= out.length + 2 * l.length
 | [], out => by simp
 | s :: l, out => by
  have h1 := QdN out s.1
  have h2 := QdN (Qbu out s.1) s.2
  have := Qfo l (Qbu (Qbu out s.1) s.2)
  simp only [List.foldl_cons, List.length_cons]; omega
theorem Qbr (l : List (Cu × Cu)) : (YM l).length <= 2 + 2 * l.length := Qfo l _
theorem Qhb : ∀ {l : List (Cu × Cu)} {out : List Cu}, (∀ s ∈ l, Cu.sm s.1 /\ Cu.sm s.2) -> (∀ x ∈ out, Cu.sm x) -> ∀ x ∈ l.foldl (fun out s => Qbu (Qbu out s.1) s.2) out, Cu.sm x
 | [], _, _, h => h
 | s :: l, out, hl, h => by
  rw [List.foldl_cons]
  exact Qhb (fun t ht => hl t (by simp [ht])) (Qgc (Qgc h (hl s (by simp)).1) (hl s (by simp)).2)
theorem QiP {l : List (Cu × Cu)} (hl : ∀ s ∈ l, Cu.sm s.1 /\ Cu.sm s.2) : ∀ x ∈ YM l, Cu.sm x := Qhb hl (by
 intro x hx
 simp only [List.mem_cons, List.not_mem_nil, or_false] at hx
 rcases hx with rfl | rfl <;> exact ⟨Nat.zero_le _, Nat.zero_le _⟩)
theorem QdM {l : List (Cu × Cu)} (hl : Sm l) (i : Nat) : (YM (l.take i)).length <= 2000002 /\ ∀ x ∈ YM (l.take i), Cu.sm x := by
 refine ⟨?_, QiP fun s hs => hl.2 s (List.mem_of_mem_take hs)⟩
 have := Qbr (l.take i)
 have h2 : (l.take i).length <= l.length := List.length_take_le' ..
 have := hl.1
 omega
def Qbt (l : List (Cu × Cu)) (x y : Cu) : List (Cu × Cu) := match l.getLast? with
 | some s => if QaV s.2 x = 0 then l.dropLast ++ [(s.1, y)] else l ++ [(x, y)]
 | none => l ++ [(x, y)]
theorem Qhc {l : List (Cu × Cu)} {x y : Cu} {i : Nat} (hi : i + 1 = l.length) (h : QaV (l[i]'(by omega)).2 x = 0) : Qbt l x y = l.set i ((l[i]'(by omega)).1, y) := by
 have hg : l.getLast? = some (l[i]'(by omega)) := by
  rw [List.getLast?_eq_getElem?, show l.length - 1 = i by omega, List.getElem?_eq_getElem]
 rw [Qbt, hg]
 simp only [h, if_true]
 rw [List.dropLast_eq_take, show l.length - 1 = i by omega, List.set_eq_take_append_cons_drop, if_pos (by omega), List.drop_eq_nil_of_le (by omega)]
theorem QcQ {l : List (Cu × Cu)} {x y : Cu} (h : l = [] \/ ∃ i, ∃ hi : i + 1 = l.length, QaV (l[i]'(by omega)).2 x ≠ 0) : Qbt l x y = l ++ [(x, y)] := by
 rcases h with rfl | ⟨i, hi, h⟩
 ·rfl
 ·have hg : l.getLast? = some (l[i]'(by omega)) := by
   rw [List.getLast?_eq_getElem?, show l.length - 1 = i by omega, List.getElem?_eq_getElem]
  rw [Qbt, hg]
  simp only [if_neg h]
theorem Qhd (l : List (Cu × Cu)) (x y : Cu) : (Qbt l x y).length <= l.length + 1 := by
 unfold Qbt
 split
 ·split
  ·simp
  ·simp
 ·simp
theorem QiQ {l : List (Cu × Cu)} {x y : Cu} (hl : ∀ s ∈ l, Cu.sm s.1 /\ Cu.sm s.2) (hx : Cu.sm x) (hy : Cu.sm y) : ∀ s ∈ Qbt l x y, Cu.sm s.1 /\ Cu.sm s.2 := by
 intro s hs
 unfold Qbt at hs
 split at hs
 ·rename_i t ht
  have ht' := List.mem_of_getLast? ht
  split at hs
  ·rcases List.mem_append.1 hs with hs | hs
   ·exact hl s (List.dropLast_subset _ hs)
   ·simp at hs; subst hs; exact ⟨(hl t ht').1, hy⟩
  ·rcases List.mem_append.1 hs with hs | hs
   ·exact hl s hs
   ·simp at hs; subst hs; exact ⟨hx, hy⟩
 ·rcases List.mem_append.1 hs with hs | hs
  ·exact hl s hs
  ·simp at hs; subst hs; exact ⟨hx, hy⟩
theorem QiL {α β : Type} {l : List α} {f : α -> β} {i : Nat} (h : i + 1 < l.length) : (l.map f)[((i : Int) + 1).toNat]? = some (f l[i + 1]) := by
 rw [show ((i : Int) + 1).toNat = i + 1 by omega, List.getElem?_map, List.getElem?_eq_getElem h]; rfl
def Qbs (f : Cu -> Cu -> Bool) : List Cu -> List (Cu × Cu) -> List (Cu × Cu)
 | x :: y :: r, out => Qbs f (y :: r) (if f x y = true then Qbt out x y else out)
 | _, out => out
def Qh4 (l : List (Cu × Cu)) : List (Cu × Cu) := if l.all QcR = true then Qbs (mIn l) (YM l) [] else []
theorem Qfp {f : Cu -> Cu -> Bool} {c : List Cu} {out : List (Cu × Cu)} {i : Nat} (h : i + 1 < c.length) : Qbs f (c.drop i) out = Qbs f (c.drop (i + 1)) (if f c[i] c[i + 1] = true then Qbt out c[i] c[i + 1] else out) := by
 rw [List.drop_eq_getElem_cons (show i < c.length by omega), List.drop_eq_getElem_cons h, Qbs]
theorem Qke {f : Cu -> Cu -> Bool} {c : List Cu} {out : List (Cu × Cu)} {i : Nat} (h : c.length <= i + 1) : Qbs f (c.drop i) out = out := by
 have : (c.drop i).length <= 1 := by simp; omega
 match hd : c.drop i with
 | [] => rfl
 | [x] => rfl
 | x :: y :: r => rw [hd] at this; simp at this
def FillI (f : Cu -> Cu -> Bool) (c : List Cu) (i : Nat) (out : List (Cu × Cu)) : Prop :=
 out.length <= i /\ (∀ s ∈ out, Cu.sm s.1 /\ Cu.sm s.2) /\ Qbs f c [] = Qbs f (c.drop i) out
theorem FillI.zero {f : Cu -> Cu -> Bool} {c : List Cu} : FillI f c 0 [] := ⟨Nat.zero_le _, by simp, by simp⟩
theorem FillI.take {f : Cu -> Cu -> Bool} {c : List Cu} {i : Nat} {out : List (Cu × Cu)} (h : FillI f c i out) (hc : ∀ x ∈ c, Cu.sm x) (hi : i + 1 < c.length) (ht : f c[i] c[i + 1] = true) : FillI f c (i + 1) (Qbt out c[i] c[i + 1]) := by
 obtain ⟨h1, h2, h3⟩ := h
 refine ⟨Nat.le_trans (Qhd ..) (by omega), QiQ h2 (hc _ (List.getElem_mem _)) (hc _ (List.getElem_mem _)), ?_⟩
 rw [h3, Qfp hi, if_pos ht]
theorem FillI.skip {f : Cu -> Cu -> Bool} {c : List Cu} {i : Nat} {out : List (Cu × Cu)} (h : FillI f c i out) (hi : i + 1 < c.length) (ht : f c[i] c[i + 1] = false) : FillI f c (i + 1) out := by
 obtain ⟨h1, h2, h3⟩ := h
 exact ⟨by omega, h2, by rw [h3, Qfp hi, if_neg (by rw [ht]; simp)]⟩
theorem FillI.done {f : Cu -> Cu -> Bool} {c : List Cu} {i : Nat} {out : List (Cu × Cu)} (h : FillI f c i out) (hi : c.length <= i + 1) : Qbs f c [] = out := by rw [h.2.2, Qke hi]
theorem Yr {l : List (Cu × Cu)} (hl : Sm l) : ∀ x ∈ YM l, Cu.sm x := QiP hl.2
def Ql4 (a b : List (Cu × Cu)) : List (Cu × Cu) := if Qe3 a = true /\ Qe3 b = true then Qh4 (a ++ b) else []
def Qh5 (a : List (Cu × Cu)) : List (Cu × Cu) := if Qe3 a = true then Qbs (fun x y => !mIn a x y) (YM a) [] else []
theorem Qmb {l : List (Cu × Cu)} : ∀ r ∈ l.map QdB, r.length = 14 := fun r hr => by obtain ⟨x, _, rfl⟩ := List.mem_map.1 hr; rfl
theorem Sm.app {a b : List (Cu × Cu)} (ha : Sm a) (hb : Sm b) (h : a.length + b.length <= 1000000) : Sm (a ++ b) := by
 refine ⟨by simp; omega, fun s hs => ?_⟩
 rcases List.mem_append.1 hs with hs | hs
 ·exact ha.2 s hs
 ·exact hb.2 s hs
theorem Qop {H : List (Nat × Box)} {S : Nat -> Bool} {k n : Nat} {b : Box} (hS : S k = true) (hb : lk H k = some b) (hp : b.pr = true) (hn : n = b.rows.length) : (D.osl k n).fz H S = .sl b.rows := by
 simp only [D.fz, D.fzS, hS, hb, if_true, hp, hn, and_self]
abbrev QhE := List (Cu × Cu) × List (Cu × Cu)
def Ql5 (a b : QhE) : QhE := if Qe4 a = true /\ Qe4 b = true then (Ql4 a.1 b.1, Ql4 a.2 b.2) else ([], [])
def Qgb (a : QhE) : QhE := if Qe4 a = true then (Qh5 a.1, Qh5 a.2) else ([], [])
def mPl (v n : Int) : Int := if n < 1 then 0 else QeF v n
theorem Qhg {v n : Int} : 0 <= mPl v n := by
 unfold mPl; split
 ·omega
 ·exact QlA (by omega)
theorem Qhf {v n : Int} (h : 1 <= n) : mPl v n < n := by
 rw [mPl, if_neg (by omega)]; exact Qlz (by omega)
def QkW (l : List Int) (i : Int) : Int := if i < 0 \/ (l.length : Int) <= i then i.tmod 3 else l.getD i.toNat 0
theorem Qkc {l : List Int} {i : Int} (h0 : 0 <= i) (h : i < l.length) : QkW l i = l[i.toNat]'(by omega) := by
 rw [QkW, if_neg (by omega), List.getD_eq_getElem?_getD, List.getElem?_eq_getElem (by omega)]; rfl
def I64 (x : Int) : Prop := -9223372036854775808 <= x /\ x <= 9223372036854775807
theorem Qlp {l : List Int} {i : Int} (hl : ∀ x ∈ l, I64 x) (hi : I64 i) : I64 (QkW l i) := by
 by_cases h : i < 0 \/ (l.length : Int) <= i
 ·rw [QkW, if_pos h]
  have h1 := Int.tmod_lt_of_pos i (show (0 : Int) < 3 by omega)
  have h2 := Int.lt_tmod_of_pos i (show (0 : Int) < 3 by omega)
  exact ⟨by omega, by omega⟩
 ·rw [Qkc (by omega) (by omega)]
  exact hl _ (List.getElem_mem _)
theorem QkT (x : Int) : I64 (IntKind.i64.wrap x) := by
 unfold IntKind.wrap I64
 simp only [IntKind.bits, IntKind.signed, Bool.true_and]
 split
 ·rename_i h
  have := of_decide_eq_true h
  omega
 ·rename_i h
  have : ¬ (x % 2 ^ 64 >= 2 ^ (64 - 1)) := fun hh => h (decide_eq_true hh)
  omega
theorem Qdj {α : Type} {k : Nat} {v : α} {l : List (Nat × α)} : lk ((k, v) :: l) k = some v := by rw [Qm, if_pos rfl]
theorem QdL {α : Type} {k : Nat} {v : α} {l : List (Nat × α)} : (lk ((k, v) :: l) k).isSome = true := by rw [Qdj]; rfl
def gB (L : List Int) (I : Int) (et : Nat) : Box := ⟨[[Zz L, .int .i64 I]], 2, et, true⟩
def nxI (I : Int) : Int := IntKind.i64.wrap (I + 1)
def nx (L : List Int) (I n : Int) : Int := mPl (QkW L (IntKind.i64.wrap (nxI I - 1))) n
def Qhk (h m : Int) : Int := if Qdi .and .i64 h m = h then 2 else if Qdi .and .i64 h m = 0 then 0 else 1
structure Vr where
 a : Int
 b : Int
 c : Int
 p : List UInt8
 q : List UInt8
def dVr (v : Vr) : List D := [.int .i64 v.a, .int .i64 v.b, .int .i64 v.c, .str v.p, .str v.q]
def Vr.sm (v : Vr) : Prop := v.p.length <= 100 /\ v.q.length <= 100
def versions : List Vr := [⟨1, 0, 0, [], []⟩, ⟨1, 2, 0, [], []⟩, ⟨2, 0, 0, [97, 46, 49], []⟩, ⟨2, 0, 0, [], []⟩]
theorem Qim : ∀ v ∈ versions, v.sm := by
 intro v hv
 simp only [versions, List.mem_cons, List.not_mem_nil, or_false] at hv
 rcases hv with rfl | rfl | rfl | rfl <;> exact ⟨by decide, by decide⟩
theorem QcV {i : Nat} : ((i : Int) - 1).toNat = i - 1 := by omega
end M25
namespace Go.Proofs
open Go Go.Abs M3 M25
set_option linter.unusedVariables false
set_option linter.unusedSimpArgs false
theorem XU {a b c : Int} {p q : List UInt8} : Ok Try.prog 76 [.agg [.int .i64 a, .int .i64 b, .int .i64 c, .str p, .str q]] (.agg [.int .i64 a, .int .i64 b, .int .i64 c, .str p, .str []]) := by
 refine Ok.ofT Z2 Try.func76 QpS (Nat.le_of_ble_eq_true Z) ?_
 show TW _ _ tf76.body _ _
 refine Qe fun K hK => ZL Z Z Z (ZU Z (hK _ _ (Qb (kp2 Z Z) ?_)))
 refine Qe fun K hK => Qn Z Z (Q6 Z Z Z Z Z Z Z Z (hK _ _ (Qb (kp2 Z Z) ?_)))
 refine Qe fun K hK => QR (cs := [_, _, _, _, _]) Z Z Z Z (Q6 Z Z Z Z Z Z Z Z (hK _ _ (Qb (kp1 Z) ?_)))
 refine Qs (ZF (cs := [_, _, _, _, _]) Z Z Z Z ?_)
 exact rfl
theorem YQ  : Ok Try.prog 78 [] (.agg [.int .i64 (-1), .int .i64 0, .int .i64 0, .int .i64 0, .str [], .str [], .bool false]) := by
 refine Ok.ofT Z2 Try.func78 QpU (Nat.le_of_ble_eq_true Z) ?_
 show TW _ _ tf78.body _ _
 refine Qe fun K hK => ZU Z (hK _ _ (Qb (kp1 Z) ?_))
 refine Qe fun K hK => Q3 Z Z (Q6 Z Z Z Z Z Z Z Z (hK _ _ (Qb (kp1 Z) ?_)))
 refine Qs (ZF (cs := [_, _, _, _, _, _, _]) Z Z Z Z ?_)
 exact rfl
theorem Y1  : Ok Try.prog 80 [] (.agg [.int .i64 1, .int .i64 0, .int .i64 0, .int .i64 0, .str [], .str [], .bool false]) := by
 refine Ok.ofT Z2 Try.func80 QpW (Nat.le_of_ble_eq_true Z) ?_
 show TW _ _ tf80.body _ _
 refine Qe fun K hK => ZU Z (hK _ _ (Qb (kp1 Z) ?_))
 refine Qe fun K hK => Q3 Z Z (Q6 Z Z Z Z Z Z Z Z (hK _ _ (Qb (kp1 Z) ?_)))
 refine Qs (ZF (cs := [_, _, _, _, _, _, _]) Z Z Z Z ?_)
 exact rfl
theorem YB {a b c : Int} {p q : List UInt8} : Ok Try.prog 54 [.agg [.int .i64 a, .int .i64 b, .int .i64 c, .str p, .str q]] (.agg [.int .i64 0, .int .i64 a, .int .i64 b, .int .i64 c, .str p, .str [], .bool false]) := by
 refine Ok.ofT Z2 Try.func54 Qpw (Nat.le_of_ble_eq_true Z) ?_
 show TW _ _ tf54.body _ _
 refine Qe fun K hK => ZL Z Z Z (ZU Z (hK _ _ (Qb (kp2 Z Z) ?_)))
 refine Qe fun K hK => QR (cs := [_, _, _, _, _]) Z Z Z Z (QE (XU) Z Z (.inl Z) (Q3 Z Z (Q6 Z Z Z Z Z Z Z Z (hK _ _ (Qb (kp1 Z) ?_)))))
 refine Qs (ZF (cs := [_, _, _, _, _, _, _]) Z Z Z Z ?_)
 exact rfl
theorem Qbi {a b c : Int} {p q : List UInt8} : Ok Try.prog 55 [.agg [.int .i64 a, .int .i64 b, .int .i64 c, .str p, .str q]] (.agg [.int .i64 0, .int .i64 a, .int .i64 b, .int .i64 c, .str p, .str [], .bool true]) := by
 refine Ok.ofT Z2 Try.func55 Qpx (Nat.le_of_ble_eq_true Z) ?_
 show TW _ _ tf55.body _ _
 refine Qe fun K hK => ZL Z Z Z (ZU Z (hK _ _ (Qb (kp2 Z Z) ?_)))
 refine Qe fun K hK => QR (cs := [_, _, _, _, _]) Z Z Z Z (QE (XU) Z Z (.inl Z) (Q3 Z Z (Q6 Z Z Z Z Z Z Z Z (hK _ _ (Qb (kp1 Z) ?_)))))
 refine Qs (ZF (cs := [_, _, _, _, _, _, _]) Z Z Z Z ?_)
 exact rfl
theorem XE {a b c : Int} {p q : List UInt8} : Ok Try.prog 77 [.agg [.int .i64 a, .int .i64 b, .int .i64 c, .str p, .str q]] (.bool (Qfr a b c)) := by
 refine Ok.ofT Z2 Try.func77 QpT (Nat.le_of_ble_eq_true Z) ?_
 show TW _ _ tf77.body _ _
 refine Qe fun K hK => ZL Z Z Z (Qa Z (hK _ _ (Qb (kp1 Z) ?_)))
 refine Qe fun K hK => Qn Z Z (QG Z Z Z (Xk Z Z (Qa Z ?_)))
 refine QA (g := 6) Z (fun h1 => ?_) (fun h1 => ?_)
 ·try rw [h1]
  try simp only [qB] at h1
  refine Qf Z (Qn Z Z (Qf Z (QG Z Z Z (Qf Z (Xk Z Z (Ql Z Z (Qa Z ?_)))))))
  refine QA (g := 11) Z (fun h2 => ?_) (fun h2 => ?_)
  ·try rw [h2]
   try simp only [qB] at h2
   refine Qf Z (Qn Z Z (Qf Z (QG Z Z Z (Qf Z (Xk Z Z (Ql Z Z (Qa Z (hK _ _ (Qb (kp1 Z) ?_)))))))))
   refine Qs (Qo Z ?_)
   (repeat clear hK K); simp_all [Qfr]
  ·try rw [h2]
   try simp only [qB] at h2
   refine Qt Z (Qt Z (Qt Z (Ql Z Z (Qa Z (hK _ _ (Qb (kp1 Z) ?_))))))
   refine Qs (Qo Z ?_)
   (repeat clear hK K); simp_all [Qfr]
 ·try rw [h1]
  try simp only [qB] at h1
  refine Qt Z (Qt Z (Qt Z (Ql Z Z (Qa Z (Qt Z (Qt Z (Qt Z (Ql Z Z (Qa Z (hK _ _ (Qb (kp1 Z) ?_)))))))))))
  refine Qs (Qo Z ?_)
  (repeat clear hK K); simp_all [Qfr]
end Go.Proofs
namespace Go.Proofs
open Go Go.Abs M3 M25
set_option linter.unusedVariables false
set_option linter.unusedSimpArgs false
theorem Qca {a b c : Int} {p q : List UInt8} (hp : p.length <= 1000000) (hq : q.length <= 1000000) {part : Int} : Ok Try.prog 95 [.agg [.int .i64 a, .int .i64 b, .int .i64 c, .str p, .str q], .int .i64 part] (dOV (XP a b c p q part)) := by
 refine Ok.ofT Z2 Try.func95 Qqb (Nat.le_of_ble_eq_true Z) ?_
 show TW _ _ tf95.body _ _
 refine Qe fun K hK => ZL Z Z Z (ZU Z (Qa Z (hK _ _ (Qb (kp3 Z Z Z) ?_))))
 refine QF ?_ -- 0
 refine Qe fun K hK => QR (cs := [_, _, _, _, _]) Z Z Z Z (QE (Zw (by omega) (by omega)) Z Z (.inr Z) (Yb Z (Qa Z ?_)))
 refine QA (g := 10) Z (fun h1 => ?_) (fun h1 => ?_)
 ·try rw [h1]
  try simp only [qB] at h1
  refine Qt Z (Qt Z (Ql Z Z (Qa Z (Qt Z (Qt Z (Ql Z Z (hK _ _ (Qb (kp4 Z Z Z Z) ?_))))))))
  refine ZH Z (Qe fun K hK => Q3 Z Z (Q6 Z Z Z Z Z Z Z Z (Qa Z (hK _ _ (Qb (kp2 Z Z) ?_)))))
  refine Qs (Qk (Post.eq (Xn (ds := [.int .i64 _, .int .i64 _, .int .i64 _, .str _, .str _]) (d' := .bool _) (cs := [_, _, _, _, _]) Z Z Z Z Z ⟨rfl, rfl⟩) ?_))
  (repeat clear hK K); first | (simp [XP, dOV, h1]; done) | (simp_all [XP, dOV]; done)
 ·try rw [h1]
  try simp only [qB] at h1
  refine Qf Z (Qa Z (Qf Z (Yz Z Z (Ql Z Z (Qa Z ?_)))))
  refine QA (g := 14) Z (fun h2 => ?_) (fun h2 => ?_)
  ·try rw [h2]
   try simp only [qB] at h2
   refine Qt Z (Qt Z (Ql Z Z (hK _ _ (Qb (kp4 Z Z Z Z) ?_))))
   refine ZH Z (Qe fun K hK => Q3 Z Z (Q6 Z Z Z Z Z Z Z Z (Qa Z (hK _ _ (Qb (kp2 Z Z) ?_)))))
   refine Qs (Qk (Post.eq (Xn (ds := [.int .i64 _, .int .i64 _, .int .i64 _, .str _, .str _]) (d' := .bool _) (cs := [_, _, _, _, _]) Z Z Z Z Z ⟨rfl, rfl⟩) ?_))
   (repeat clear hK K); first | (simp [XP, dOV, h1, h2]; done) | (simp_all [XP, dOV]; done)
  ·try rw [h2]
   try simp only [qB] at h2
   refine Qf Z (Qa Z (Qf Z (Qcm Z Z (Ql Z Z (hK _ _ (Qb (kp4 Z Z Z Z) ?_))))))
   refine Qz Z (fun h3 => ?_) (fun h3 => ?_)
   ·try rw [h3]
    try simp only [qB] at h3
    refine Qe fun K hK => Q3 Z Z (Q6 Z Z Z Z Z Z Z Z (Qa Z (hK _ _ (Qb (kp2 Z Z) ?_))))
    refine Qs (Qk (Post.eq (Xn (ds := [.int .i64 _, .int .i64 _, .int .i64 _, .str _, .str _]) (d' := .bool _) (cs := [_, _, _, _, _]) Z Z Z Z Z ⟨rfl, rfl⟩) ?_))
    (repeat clear hK K); first | (simp [XP, dOV, h1, h2, h3]; done) | (simp_all [XP, dOV]; done)
   ·try rw [h3]
    try simp only [qB] at h3
    refine Qu (Qd (kp3 Z Z Z) (Qe fun K hK => ZU Z (hK _ _ (Qb (kp4 Z Z Z Z) ?_))))
    refine QF ?_ -- 1
    refine Qe fun K hK => Qa Z (hK _ _ (Qb (kp4 Z Z Z Z) ?_))
    refine QH (Qe fun K hK => Xk Z Z (Qa Z (hK _ _ (Qb (kp5 Z Z Z Z Z) ?_))))
    refine Qz Z (fun h4 => ?_) (fun h4 => ?_)
    ·try rw [h4]
     try simp only [qB] at h4
     refine Q2 fun K hK => Qn Z Z (QG Z Z Z (Zd Z Z (Qq (by have := QbL (by simpa using h1); omega) (by have := QbL (by simpa using h1); omega)) (Q3 Z Z (Q6 Z Z Z Z Z Z Z Z (hK _ ?_)))))
     refine Qh (Qd (kp2 Z Z) ?_)
     refine QF ?_ -- 2
     refine Qe fun K hK => QR (cs := [_, _, _, _, _]) Z Z Z Z (QE (Zw (by simp) (by simp)) Z Z (.inr Z) (Yb Z (hK _ _ (Qb (kp3 Z Z Z) ?_))))
     refine Qz Z (fun h5 => ?_) (fun h5 => ?_)
     ·try rw [h5]
      try simp only [qB] at h5
      refine Qe fun K hK => Q3 Z Z (Q6 Z Z Z Z Z Z Z Z (Qa Z (hK _ _ (Qb (kp2 Z Z) ?_))))
      refine Qs (Qk (Post.eq (Xn (ds := [.int .i64 _, .int .i64 _, .int .i64 _, .str _, .str _]) (d' := .bool _) (cs := [_, _, _, _, _]) Z Z Z Z Z ⟨rfl, rfl⟩) ?_))
      (repeat clear hK K); first | (simp [XP, dOV, h1, h2, h3, h4, h5]; done) | (simp_all [XP, dOV]; done)
     ·try rw [h5]
      try simp only [qB] at h5
      refine Qu (Qd (kp2 Z Z) (Qe fun K hK => QR (cs := [_, _, _, _, _]) Z Z Z Z (Q6 Z Z Z Z Z Z Z Z (Qa Z (hK _ _ (Qb (kp2 Z Z) ?_))))))
      refine Qs (Post.eq (Xn (ds := [.int .i64 _, .int .i64 _, .int .i64 _, .str _, .str _]) (d' := .bool _) (cs := [_, _, _, _, _]) Z Z Z Z Z ⟨rfl, rfl⟩) ?_)
      (repeat clear hK K); first | (simp [XP, dOV, h1, h2, h3, h4, h5]; done) | (simp_all [XP, dOV]; done)
    ·try rw [h4]
     try simp only [qB] at h4
     refine Qe fun K hK => Xk Z Z (Qa Z (hK _ _ (Qb (kp4 Z Z Z Z) ?_)))
     refine Qz Z (fun h6 => ?_) (fun h6 => ?_)
     ·try rw [h6]
      try simp only [qB] at h6
      refine Q2 fun K hK => Qn Z Z (QG Z Z Z (Qn Z Z (QG Z Z Z (Zd Z Z (Qq (by have := QbL (by simpa using h1); omega) (by have := QbL (by simpa using h1); omega)) (Q3 Z Z (Q6 Z Z Z Z Z Z Z Z (hK _ ?_)))))))
      refine Qh (Qd (kp2 Z Z) ?_)
      refine QF ?_ -- 2
      refine Qe fun K hK => QR (cs := [_, _, _, _, _]) Z Z Z Z (QE (Zw (by simp) (by simp)) Z Z (.inr Z) (Yb Z (hK _ _ (Qb (kp3 Z Z Z) ?_))))
      refine Qz Z (fun h7 => ?_) (fun h7 => ?_)
      ·try rw [h7]
       try simp only [qB] at h7
       refine Qe fun K hK => Q3 Z Z (Q6 Z Z Z Z Z Z Z Z (Qa Z (hK _ _ (Qb (kp2 Z Z) ?_))))
       refine Qs (Qk (Post.eq (Xn (ds := [.int .i64 _, .int .i64 _, .int .i64 _, .str _, .str _]) (d' := .bool _) (cs := [_, _, _, _, _]) Z Z Z Z Z ⟨rfl, rfl⟩) ?_))
       (repeat clear hK K); first | (simp [XP, dOV, h1, h2, h3, h4, h6, h7]; done) | (simp_all [XP, dOV]; done)
      ·try rw [h7]
       try simp only [qB] at h7
       refine Qu (Qd (kp2 Z Z) (Qe fun K hK => QR (cs := [_, _, _, _, _]) Z Z Z Z (Q6 Z Z Z Z Z Z Z Z (Qa Z (hK _ _ (Qb (kp2 Z Z) ?_))))))
       refine Qs (Post.eq (Xn (ds := [.int .i64 _, .int .i64 _, .int .i64 _, .str _, .str _]) (d' := .bool _) (cs := [_, _, _, _, _]) Z Z Z Z Z ⟨rfl, rfl⟩) ?_)
       (repeat clear hK K); first | (simp [XP, dOV, h1, h2, h3, h4, h6, h7]; done) | (simp_all [XP, dOV]; done)
     ·try rw [h6]
      try simp only [qB] at h6
      refine Q2 fun K hK => Qn Z Z (QG Z Z Z (Qn Z Z (QG Z Z Z (Qn Z Z (QG Z Z Z (Zd Z Z (Qq (by have := QbL (by simpa using h1); omega) (by have := QbL (by simpa using h1); omega)) (Q3 Z Z (Q6 Z Z Z Z Z Z Z Z (hK _ ?_)))))))))
      refine Qh (Qd (kp2 Z Z) ?_)
      refine QF ?_ -- 2
      refine Qe fun K hK => QR (cs := [_, _, _, _, _]) Z Z Z Z (QE (Zw (by simp) (by simp)) Z Z (.inr Z) (Yb Z (hK _ _ (Qb (kp3 Z Z Z) ?_))))
      refine Qz Z (fun h8 => ?_) (fun h8 => ?_)
      ·try rw [h8]
       try simp only [qB] at h8
       refine Qe fun K hK => Q3 Z Z (Q6 Z Z Z Z Z Z Z Z (Qa Z (hK _ _ (Qb (kp2 Z Z) ?_))))
       refine Qs (Qk (Post.eq (Xn (ds := [.int .i64 _, .int .i64 _, .int .i64 _, .str _, .str _]) (d' := .bool _) (cs := [_, _, _, _, _]) Z Z Z Z Z ⟨rfl, rfl⟩) ?_))
       (repeat clear hK K); first | (simp [XP, dOV, h1, h2, h3, h4, h6, h8]; done) | (simp_all [XP, dOV]; done)
      ·try rw [h8]
       try simp only [qB] at h8
       refine Qu (Qd (kp2 Z Z) (Qe fun K hK => QR (cs := [_, _, _, _, _]) Z Z Z Z (Q6 Z Z Z Z Z Z Z Z (Qa Z (hK _ _ (Qb (kp2 Z Z) ?_))))))
       refine Qs (Post.eq (Xn (ds := [.int .i64 _, .int .i64 _, .int .i64 _, .str _, .str _]) (d' := .bool _) (cs := [_, _, _, _, _]) Z Z Z Z Z ⟨rfl, rfl⟩) ?_)
       (repeat clear hK K); first | (simp [XP, dOV, h1, h2, h3, h4, h6, h8]; done) | (simp_all [XP, dOV]; done)
theorem Qcb {a b c : Int} {p q : List UInt8} (hp : p.length <= 1000000) (hq : q.length <= 1000000) : Ok Try.prog 79 [.agg [.int .i64 a, .int .i64 b, .int .i64 c, .str p, .str q]] (dOV (Qhe a b c p q)) := by
 refine Ok.ofT Z2 Try.func79 QpV (Nat.le_of_ble_eq_true Z) ?_
 show TW _ _ tf79.body _ _
 refine Qe fun K hK => ZL Z Z Z (ZU Z (Qa Z (hK _ _ (Qb (kp2 Z Z) ?_))))
 refine QF ?_ -- 0
 refine Qe fun K hK => QR (cs := [_, _, _, _, _]) Z Z Z Z (QE (Zw (by omega) (by omega)) Z Z (.inr Z) (Yb Z (hK _ _ (Qb (kp3 Z Z Z) ?_))))
 refine Qz Z (fun h1 => ?_) (fun h1 => ?_)
 ·try rw [h1]
  try simp only [qB] at h1
  refine Qe fun K hK => Q3 Z Z (Q6 Z Z Z Z Z Z Z Z (Qa Z (hK _ _ (Qb (kp2 Z Z) ?_))))
  refine Qs (Qk (Post.eq (Xn (ds := [.int .i64 _, .int .i64 _, .int .i64 _, .str _, .str _]) (d' := .bool _) (cs := [_, _, _, _, _]) Z Z Z Z Z ⟨rfl, rfl⟩) ?_))
  simp [Qhe, dOV, h1]
 ·try rw [h1]
  try simp only [qB] at h1
  refine Qu (Qd (kp2 Z Z) ?_)
  refine QF ?_ -- 1
  refine Qe fun K hK => Qn Z Z (QG Z Z Z (QgG Z Z (hK _ _ (Qb (kp3 Z Z Z) ?_))))
  refine Qz Z (fun h2 => ?_) (fun h2 => ?_)
  ·try rw [h2]
   try simp only [qB] at h2
   refine Qe fun K hK => Qn Z Z (QG Z Z Z (Qn Z Z (QG Z Z Z (Qn Z Z (QG Z Z Z (Q3 Z Z (Q6 Z Z Z Z Z Z Z Z (Qa Z (hK _ _ (Qb (kp2 Z Z) ?_))))))))))
   refine Qs (Qk (Post.eq (Xn (ds := [.int .i64 _, .int .i64 _, .int .i64 _, .str _, .str _]) (d' := .bool _) (cs := [_, _, _, _, _]) Z Z Z Z Z ⟨rfl, rfl⟩) ?_))
   simp [Qhe, dOV, h1, h2]
  ·try rw [h2]
   try simp only [qB] at h2
   refine Qu (Qd (kp2 Z Z) ?_)
   refine QF ?_ -- 2
   refine Qe fun K hK => Qa Z (hK _ _ (Qb (kp3 Z Z Z) ?_))
   refine QH ?_
   refine ZQ (ι := Nat) (fun m => ⟨[(1, .ref 1 0 0), (2, .ref 2 0 0), (4, .int .i64 ((m : Int) - 1))], [(1, ⟨[[.int .i64 a, .int .i64 b, .int .i64 c, .str p, .str q]], 5, 49, true⟩), (2, ⟨[[.int .i64 0, .int .i64 0, .int .i64 0, .str [], .str []]], 5, 49, true⟩)]⟩) (fun m => m <= 3 /\ Xp a b c p q 3 = Xp a b c p q m) (fun m => m) 3 ?_ ?_ ?_
   ·exact Zp (l := [1, 2, 4]) (lH := [1, 2]) (kp3 rfl rfl rfl) (QB rfl (QB rfl Qx)) rfl rfl rfl
   ·exact ⟨by omega, rfl⟩
   intro m hI
   obtain ⟨hI1, hI2⟩ := hI
   try dsimp only
   refine QF ?_ -- 3
   refine Qe fun K hK => Qa Z (QgE Z Z (hK _ _ (Qb (kp4 Z Z Z Z) ?_)))
   refine Qz Z (fun h3 => ?_) (fun h3 => ?_)
   ·try rw [h3]
    try simp only [qB] at h3
    rcases Nat.eq_zero_or_pos m with hm | hm <;> first | omega | skip
    refine Qu (Qd (kp3 Z Z Z) ?_)
    refine QF ?_ -- 4
    refine QH (Qe fun K hK => QR (cs := [_, _, _, _, _]) Z Z Z Z (Qa Z (QE (Qca (by omega) (by omega)) Z Z (.inl Z) (Qa Z (Zg Z Z (Zg Z Z (ZU Z (Q6 Z Z Z Z Z Z Z Z (Qa Z (hK _ _ (Qb (kp5 Z Z Z Z Z) ?_)))))))))))
    refine Qe fun K hK => Qa Z (hK _ _ (Qb (kp5 Z Z Z Z Z) ?_))
    refine Qz Z (fun h4 => ?_) (fun h4 => ?_)
    ·try rw [h4]
     try simp only [qB] at h4
     refine Qe fun K hK => QR (cs := [_, _, _, _, _]) Z Z Z Z (Q6 Z Z Z Z Z Z Z Z (Qa Z (hK _ _ (Qb (kp2 Z Z) ?_))))
     refine Qs (Qp (Qk (QZ (Qp (Qk (Post.eq (Xn (ds := [.int .i64 _, .int .i64 _, .int .i64 _, .str _, .str _]) (d' := .bool _) (cs := [_, _, _, _, _]) Z Z Z Z Z ⟨rfl, rfl⟩) ?_))))))
     subst h2
     simp [Qhe, dOV, h1, hI2, QgO hm h4, h4]
    ·try rw [h4]
     try simp only [qB] at h4
     refine Qu (Qh (Qd (kp3 Z Z Z) (Q2 fun K hK => Qa Z (Qb7 Z Z (by first | exact Qq (by omega) (by omega) | rfl) (Qa Z (hK _ ?_))))))
     refine Qj (m - 1) ?_ ?_ ?_
     ·refine Zp (l := [1, 2, 4]) (lH := [1, 2]) (kp3 Z Z Z) (QB Z (QB Z Qx)) ?_ Z rfl; simp only [List.cons.injEq, Prod.mk.injEq, D.int.injEq, and_true, true_and]; omega
     ·exact ⟨by omega, by rw [hI2]; exact QhM hm h4⟩
     ·show m - 1 < m; omega
   ·try rw [h3]
    try simp only [qB] at h3
    rcases Nat.eq_zero_or_pos m with hm | hm <;> first | omega | skip
    refine Zu (QL (Qy (QI (Qd (kp1 Z) (Qe fun K hK => Q3 Z Z (Q6 Z Z Z Z Z Z Z Z (Qa Z (hK _ _ (Qb (kp2 Z Z) ?_)))))))))
    refine Qs (Post.eq (Xn (ds := [.int .i64 _, .int .i64 _, .int .i64 _, .str _, .str _]) (d' := .bool _) (cs := [_, _, _, _, _]) Z Z Z Z Z ⟨rfl, rfl⟩) ?_)
    subst h2
    subst hm
    have hb : Xp a b c [] q 3 = none := hI2
    simp [Qhe, dOV, h1, hb]
end Go.Proofs
namespace Go.Proofs
open Go Go.Abs M3 M25
set_option linter.unusedVariables false
set_option linter.unusedSimpArgs false
theorem XF {e a b c : Int} {p q : List UInt8} {f : Bool} : Ok Try.prog 103 [.agg [.int .i64 e, .int .i64 a, .int .i64 b, .int .i64 c, .str p, .str q, .bool f]] (.bool (Qfs e a b c p q f)) := by
 refine Ok.ofT Z2 Try.func103 Qoy (Nat.le_of_ble_eq_true Z) ?_
 show TW _ _ tf103.body _ _
 refine Qe fun K hK => ZL Z Z Z (Qa Z (hK _ _ (Qb (kp1 Z) ?_)))
 refine Qe fun K hK => Qn Z Z (QG Z Z Z (YR Z Z (Qa Z ?_)))
 refine QA (g := 6) Z (fun h1 => ?_) (fun h1 => ?_)
 ·try rw [h1]
  try simp only [qB] at h1
  refine Qt Z (Qt Z (Qt Z (Qt Z (Qr Z (Qr Z (Qr Z (Qr Z (Qt Z (Qt Z (Qr Z (Qr Z ?_)))))))))))
  refine Qr Z (Qr Z (Qt Z (Ql Z Z (Qa Z (hK _ _ (Qb (kp1 Z) ?_))))))
  refine Qs (Qo Z ?_)
  (repeat clear hK K); simp_all [Qfs]
 ·try rw [h1]
  try simp only [qB] at h1
  refine Qf Z (Qn Z Z (Qf Z (QG Z Z Z (Qf Z (Yb Z (Qf Z (Qa Z ?_)))))))
  refine QA (g := 10) Z (fun h2 => ?_) (fun h2 => ?_)
  ·try rw [h2]
   try simp only [qB] at h2
   refine Qf Z (Qn Z Z (Qf Z (Qn Z Z (Qf Z (QG Z Z Z (Qf Z (Qbd Z Z (Qf Z (Ql Z Z (Qf Z (Qa Z ?_)))))))))))
   refine QA (g := 16) Z (fun h3 => ?_) (fun h3 => ?_)
   ·try rw [h3]
    try simp only [qB] at h3
    refine Qf Z (Qn Z Z (Qf Z (QR (cs := [_, _, _, _, _]) Z Z Z Z (Qf Z (QE (XE) Z Z (.inr Z) (Qf Z (Yb Z (Qf Z (Ql Z Z (Ql Z Z (Qa Z ?_)))))))))))
    refine hK _ _ (Qb (kp1 Z) ?_)
    refine Qs (Qo Z ?_)
    (repeat clear hK K); simp_all [Qfs]
   ·try rw [h3]
    try simp only [qB] at h3
    refine Qt Z (Qt Z (Qt Z (Qt Z (Qf Z (Ql Z Z (Ql Z Z (Qa Z (hK _ _ (Qb (kp1 Z) ?_)))))))))
    refine Qs (Qo Z ?_)
    (repeat clear hK K); simp_all [Qfs]
  ·try rw [h2]
   try simp only [qB] at h2
   refine Qt Z (Qt Z (Qt Z (Qt Z (Qf Z (Ql Z Z (Qf Z (Qa Z (Qt Z (Qt Z (Qt Z (Qt Z ?_)))))))))))
   refine Qf Z (Ql Z Z (Ql Z Z (Qa Z (hK _ _ (Qb (kp1 Z) ?_)))))
   refine Qs (Qo Z ?_)
   (repeat clear hK K); simp_all [Qfs]
theorem QbX {a b c : Int} {p q : List UInt8} : Ok Try.prog 56 [.agg [.int .i64 a, .int .i64 b, .int .i64 c, .str p, .str q]] (.agg (dCu (QeD a b c))) := by
 refine Ok.ofT Z2 Try.func56 Qpy (Nat.le_of_ble_eq_true Z) ?_
 show TW _ _ tf56.body _ _
 refine Qe fun K hK => ZL Z Z Z (ZU Z (hK _ _ (Qb (kp2 Z Z) ?_)))
 refine QF ?_ -- 0
 refine Qe fun K hK => QR (cs := [_, _, _, _, _]) Z Z Z Z (QE (XE) Z Z (.inr Z) (hK _ _ (Qb (kp3 Z Z Z) ?_)))
 refine Qz Z (fun h1 => ?_) (fun h1 => ?_)
 ·try rw [h1]
  try simp only [qB] at h1
  refine Qe fun K hK => QE (YQ) Z Z (.inl Z) (Q6 Z Z Z Z Z Z Z Z (hK _ _ (Qb (kp1 Z) ?_)))
  refine Qs (Qk (Post.eq (ZF (ds := [.int .i64 _, .int .i64 _, .int .i64 _, .int .i64 _, .str _, .str _, .bool _]) (cs := [_, _, _, _, _, _, _]) Z Z Z Z Z) ?_))
  simp [QeD, dCu, Qb1, h1]
 ·try rw [h1]
  try simp only [qB] at h1
  refine Qu (Qd (kp2 Z Z) (Qe fun K hK => Qn Z Z (QG Z Z Z (Qn Z Z (QG Z Z Z (Qn Z Z (QG Z Z Z (Q3 Z Z (QE (YB) Z Z (.inl Z) (Q6 Z Z Z Z Z Z Z Z ?_))))))))))
  refine hK _ _ (Qb (kp1 Z) ?_)
  refine Qs (Post.eq (ZF (ds := [.int .i64 _, .int .i64 _, .int .i64 _, .int .i64 _, .str _, .str _, .bool _]) (cs := [_, _, _, _, _, _, _]) Z Z Z Z Z) ?_)
  simp [QeD, dCu, Qb1, h1]
theorem Qbj {a b c : Int} {p q : List UInt8} : Ok Try.prog 57 [.agg [.int .i64 a, .int .i64 b, .int .i64 c, .str p, .str q]] (.agg (dCu (QcP a b c))) := by
 refine Ok.ofT Z2 Try.func57 Qpz (Nat.le_of_ble_eq_true Z) ?_
 show TW _ _ tf57.body _ _
 refine Qe fun K hK => ZL Z Z Z (ZU Z (hK _ _ (Qb (kp2 Z Z) ?_)))
 refine Qe fun K hK => Qn Z Z (QG Z Z Z (Qn Z Z (QG Z Z Z (Qn Z Z (QG Z Z Z (Q3 Z Z (QE (Qcb (by simp) (by simp)) Z Z (.inl Z) (Qa Z (Zg Z Z (Zg Z Z ?_))))))))))
 refine ZU Z (Q6 Z Z Z Z Z Z Z Z (Qa Z (hK _ _ (Qb (kp3 Z Z Z) ?_))))
 refine QF ?_ -- 0
 refine Qe fun K hK => Qa Z (Yb Z (hK _ _ (Qb (kp3 Z Z Z) ?_)))
 refine Qz Z (fun h1 => ?_) (fun h1 => ?_)
 ·try rw [h1]
  try simp only [qB] at h1
  refine Qe fun K hK => QE (Y1) Z Z (.inl Z) (Q6 Z Z Z Z Z Z Z Z (hK _ _ (Qb (kp1 Z) ?_)))
  refine Qs (Qk (Post.eq (ZF (ds := [.int .i64 _, .int .i64 _, .int .i64 _, .int .i64 _, .str _, .str _, .bool _]) (cs := [_, _, _, _, _, _, _]) Z Z Z Z Z) ?_))
  cases hn : Qhe a b c [] [] <;> simp [QcP, dCu, Qe0, hn] at *
 ·try rw [h1]
  try simp only [qB] at h1
  refine Qu (Qd (kp2 Z Z) (Qe fun K hK => QR (cs := [_, _, _, _, _]) Z Z Z Z (QE (YB) Z Z (.inl Z) (Q6 Z Z Z Z Z Z Z Z (hK _ _ (Qb (kp1 Z) ?_))))))
  refine Qs (Post.eq (ZF (ds := [.int .i64 _, .int .i64 _, .int .i64 _, .int .i64 _, .str _, .str _, .bool _]) (cs := [_, _, _, _, _, _, _]) Z Z Z Z Z) ?_)
  cases hn : Qhe a b c [] [] <;> simp [QcP, dCu, Qe0, hn] at *
theorem XG  : Ok Try.prog 98 [] (ZO [(Qb1, Qe0)]) := by
 refine Ok.ofT Z2 Try.func98 Qqe (Nat.le_of_ble_eq_true Z) ?_
 show TW _ _ tf98.body _ _
 refine Qe fun K hK => Qa Z (hK _ _ (Qb (QO) ?_))
 refine Qe fun K hK => QE (YQ) Z Z (.inl Z) (QE (Y1) Z Z (.inl Z) (Q3 Z Z (QN Z Z (Qa Z (hK _ _ (Qb (kp1 Z) ?_))))))
 refine Qs (ZI Z ?_)
 rfl
theorem Z4  : Ok Try.prog 53 [] (Qgw ([], [])) := by
 refine Ok.ofT Z2 Try.func53 Qpv (Nat.le_of_ble_eq_true Z) ?_
 show TW _ _ tf53.body _ _
 refine Qe fun K hK => ZU Z (hK _ _ (Qb (kp1 Z) ?_))
 refine Qe fun K hK => Q3 Z Z (Q6 Z Z Z Z Z Z Z Z (hK _ _ (Qb (kp1 Z) ?_)))
 refine Qs (Post.eq (ZF (ds := [.sl _, .sl _]) (cs := [_, _]) Z Z Z Z Z) ?_)
 rfl
theorem Qcw  : Ok Try.prog 82 [] (Qgw ([(Qb1, Qe0)], [(Qb1, Qe0)])) := by
 refine Ok.ofT Z2 Try.func82 QpY (Nat.le_of_ble_eq_true Z) ?_
 show TW _ _ tf82.body _ _
 refine Qe fun K hK => ZU Z (hK _ _ (Qb (kp1 Z) ?_))
 refine Qe fun K hK => QE (XG) Z Z (.inl Z) (QE (XG) Z Z (.inl Z) (Q3 Z Z (Q6 Z Z Z Z Z Z Z Z (hK _ _ (Qb (kp1 Z) ?_)))))
 refine Qs (Post.eq (ZF (ds := [.sl _, .sl _]) (cs := [_, _]) Z Z Z Z Z) ?_)
 rfl
theorem XD {a b c : Int} {p q : List UInt8} (hp : p.length <= 1000000) (hq : q.length <= 1000000) : Ok Try.prog 27 [.agg [.int .i64 a, .int .i64 b, .int .i64 c, .str p, .str q]] (Qgw (Y4 a b c p q)) := by
 refine Ok.ofT Z2 Try.func27 Qo7 (Nat.le_of_ble_eq_true Z) ?_
 show TW _ _ tf27.body _ _
 refine Qe fun K hK => ZL Z Z Z (ZU Z (hK _ _ (Qb (kp2 Z Z) ?_)))
 refine QF ?_ -- 0
 refine Qe fun K hK => QR (cs := [_, _, _, _, _]) Z Z Z Z (QE (Zw (by omega) (by omega)) Z Z (.inr Z) (Yb Z (hK _ _ (Qb (kp3 Z Z Z) ?_))))
 refine Qz Z (fun h1 => ?_) (fun h1 => ?_)
 ·try rw [h1]
  try simp only [qB] at h1
  refine Qe fun K hK => QE (Z4) Z Z (.inl Z) (Q6 Z Z Z Z Z Z Z Z (hK _ _ (Qb (kp1 Z) ?_)))
  refine Qs (Qk (Post.eq (ZF (ds := [.sl _, .sl _]) (cs := [_, _]) Z Z Z Z Z) ?_))
  simp [Y4, Qgw, ZO, QdB, dCu, h1]
 ·try rw [h1]
  try simp only [qB] at h1
  refine Qu (Qd (kp2 Z Z) ?_)
  refine QF ?_ -- 1
  refine Qe fun K hK => Qn Z Z (QG Z Z Z (QgG Z Z (hK _ _ (Qb (kp3 Z Z Z) ?_))))
  refine Qz Z (fun h2 => ?_) (fun h2 => ?_)
  ·try rw [h2]
   try simp only [qB] at h2
   refine Qe fun K hK => Q0 (ds0 := [6, 3, 2, 1, 0]) (cs := [_, _, _, _, _]) Z Z Z Z Z Z (Zj (ds0 := [3, 2, 1, 0]) (YB) Z Z (.inl Z) Z Z (Q0 (ds0 := [4, 3, 2, 1, 0]) (cs := [_, _, _, _, _]) Z Z Z Z Z Z (Zj (ds0 := [3, 2, 1, 0]) (Qbi) Z Z (.inl Z) Z Z (Q3 Z Z (QN Z Z (Q3 Z Z (XJ (ds0 := []) Z Z Z Z Z Z Z Z Z Z (hK _ _ (Qb (kp1 Z) ?_)))))))))
   refine Qs (Qk (Post.eq (ZF (ds := [.sl _, .sl _]) (cs := [_, _]) Z Z Z Z Z) ?_))
   simp [Y4, Qgw, ZO, QdB, dCu, h1, h2]
  ·try rw [h2]
   try simp only [qB] at h2
   refine Qu (Qd (kp2 Z Z) (Qe fun K hK => Q0 (ds0 := [6, 3, 2, 1, 0]) (cs := [_, _, _, _, _]) Z Z Z Z Z Z (Zj (ds0 := [3, 2, 1, 0]) (QbX) Z Z (.inl Z) Z Z (Q0 (ds0 := [4, 3, 2, 1, 0]) (cs := [_, _, _, _, _]) Z Z Z Z Z Z (Zj (ds0 := [3, 2, 1, 0]) (Qbj) Z Z (.inl Z) Z Z (Q3 Z Z (QN Z Z (Q3 Z Z (XJ (ds0 := []) Z Z Z Z Z Z Z Z Z Z (hK _ _ (Qb (kp1 Z) ?_)))))))))))
   refine Qs (Post.eq (ZF (ds := [.sl _, .sl _]) (cs := [_, _]) Z Z Z Z Z) ?_)
   subst h2
   simp [Y4, Qgw, ZO, QdB, dCu, h1]
end Go.Proofs
namespace Go.Proofs
open Go Go.Abs M3 M25
set_option linter.unusedVariables false
set_option linter.unusedSimpArgs false
theorem Z7 {l : List (Cu × Cu)} (hl : Sm l) : Ok Try.prog 102 [ZO l] (.bool (Qe3 l)) := by
 refine Ok.ofT Z2 Try.func102 Qox (Nat.le_of_ble_eq_true Z) ?_
 show TW _ _ tf102.body _ _
 have hn := hl.1
 refine Qe fun K hK => Qa Z (hK _ _ (Qb (kp1 Z) ?_))
 refine QF ?_ -- 0
 refine Qe fun K hK => Qa Z (hK _ _ (Qb (kp2 Z Z) ?_))
 refine QH ?_
 refine ZQ (ι := Nat) (fun i => ⟨[(0, ZO l), (3, .int .i64 i)], []⟩) (fun i => i <= l.length /\ (List.range i).all (Qnd l) = true) (fun i => l.length - i) 0 ?_ ?_ ?_
 ·exact QV (kp2 rfl rfl)
 ·exact ⟨Nat.zero_le _, rfl⟩
 intro i hI
 try dsimp only
 refine QF ?_ -- 1
 refine Qe fun K hK => Qa Z (Qa Z (Q4 Z Z (Yz Z Z (hK _ _ (Qb (kp3 Z Z Z) ?_)))))
 refine Qz Z (fun h1 => ?_) (fun h1 => ?_)
 ·try rw [h1]
  try simp only [qA] at h1
  refine Qu (Qd (kp2 Z Z) ?_)
  refine QF ?_ -- 2
  refine QH (Qe fun K hK => Qa Z (Qa Z (QD Z Z Z (by omega) (Q9 (by omega)) Z (Q0 (ds0 := [20, 19, 18, 17, 16, 15, 14, 13, 12, 11, 10, 9, 8, 7, 6, 5, 4, 3, 2, 1, 0]) (cs := [_, _, _, _, _, _, _, _, _, _, _, _, _, _]) Z Z Z Z Z Z (Zj (ds0 := [19, 18, 17, 16, 15, 14, 13, 12, 11, 10, 9, 8, 7, 6, 5, 4, 3, 2, 1, 0]) (Xj (hl.at (i := i) (by omega)).1.1 (hl.at (i := i) (by omega)).1.2 (hl.at (i := i) (by omega)).2.1 (hl.at (i := i) (by omega)).2.2) Z Z (.inr Z) Z Z (Yb Z (Qa Z ?_)))))))
  refine QA (g := 16) Z (fun h2 => ?_) (fun h2 => ?_)
  ·try rw [h2]
   try simp only [qA] at h2
   refine Qt Z (Qt Z (Qt Z (Qr Z (Qr Z (Qr Z (Qr Z (Qr Z (Qr Z (Qr Z (Qr Z (Qr Z ?_)))))))))))
   refine Qr Z (Qr Z (Qr Z (Qr Z (Qt Z (Ql Z Z (hK _ _ (Qb (kp3 Z Z Z) ?_)))))))
   refine ZH Z (Qe fun K hK => Qa Z (hK _ _ (Qb (kp1 Z) ?_)))
   refine Qs (Qp (Qk (QZ (Qp (Qk (Qo Z ?_))))))
   first
    | exact (Qgi hI.2 (by omega)).symm
    | exact (QaX (i := i) (by omega) (Qfx (by omega) (.inl h2))).symm
    | (simp only [QcV] at *; exact (QaX (i := i) (by omega) (Qfx (by omega) (.inr ⟨by omega, h4⟩))).symm)
  ·try rw [h2]
   try simp only [qA] at h2
   refine Qf Z (Qa Z (Qf Z (Qcm Z Z (Qf Z (Qa Z ?_)))))
   refine QA (g := 19) Z (fun h3 => ?_) (fun h3 => ?_)
   ·try rw [h3]
    try simp only [qA] at h3
    refine Qf Z (Qa Z (Qf Z (Qa Z (Qf Z (Qb7 Z Z (by first | exact Qq (by omega) (by omega) | rfl) (Qf Z (QD Z Z Z (by omega) (Zn (by omega) (by omega)) Z (Qf Z (Yu Z Z (Qf Z (Q0 (ds0 := [3, 2, 1, 0]) (cs := [_, _, _, _, _, _, _]) Z Z Z Z Z Z ?_)))))))))))
    refine Qf Z (Qa Z (Qf Z (Qa Z (Qf Z (QD Z Z Z (by omega) (Q9 (by omega)) Z (Qf Z (Yu Z Z (Qf Z (Q0 (ds0 := [3, 2, 1, 0]) (cs := [_, _, _, _, _, _, _]) Z Z Z Z Z Z (Qf Z (Zj (ds0 := [2, 1, 0]) (Zv (hl.at (i := ((i : Int) - 1).toNat) (by omega)).2.1 (hl.at (i := ((i : Int) - 1).toNat) (by omega)).2.2 (hl.at (i := i) (by omega)).1.1 (hl.at (i := i) (by omega)).1.2) Z Z (.inr Z) Z Z ?_)))))))))))
    refine Qf Z (QgE Z Z (Qf Z (Ql Z Z (Ql Z Z (hK _ _ (Qb (kp3 Z Z Z) ?_))))))
    refine Qz Z (fun h4 => ?_) (fun h4 => ?_)
    ·try rw [h4]
     try simp only [qA] at h4
     refine Qe fun K hK => Qa Z (hK _ _ (Qb (kp1 Z) ?_))
     refine Qs (Qp (Qk (QZ (Qp (Qk (Qo Z ?_))))))
     first
      | exact (Qgi hI.2 (by omega)).symm
      | exact (QaX (i := i) (by omega) (Qfx (by omega) (.inl h2))).symm
      | (simp only [QcV] at *; exact (QaX (i := i) (by omega) (Qfx (by omega) (.inr ⟨by omega, h4⟩))).symm)
    ·try rw [h4]
     try simp only [qA] at h4
     refine Qu (Qh (Qd (kp2 Z Z) (Q2 fun K hK => Qa Z (Zd Z Z (by first | exact Qq (by omega) (by omega) | rfl) (Qa Z (hK _ ?_))))))
     refine Qj (i + 1) ?_ ?_ ?_
     ·exact QV (kp2 rfl rfl)
     ·exact ⟨by omega, QdR hI.2 (Ql9 (by omega) h2 (by first | exact .inl (by omega) | (simp only [QcV] at *; exact .inr (Int.not_le.1 h4))))⟩
     ·first | omega | (simp only; omega) | (dsimp only; omega)
   ·try rw [h3]
    try simp only [qA] at h3
    refine Qt Z (Qt Z (Qt Z (Qt Z (Qt Z (Qt Z (Qt Z (Qt Z (Qt Z (Qt Z (Qt Z (Qt Z ?_)))))))))))
    refine Qt Z (Qf Z (Ql Z Z (Ql Z Z (hK _ _ (Qb (kp3 Z Z Z) ?_)))))
    refine ZB Z (Qu (Qh (Qd (kp2 Z Z) (Q2 fun K hK => Qa Z (Zd Z Z (by first | exact Qq (by omega) (by omega) | rfl) (Qa Z (hK _ ?_)))))))
    refine Qj (i + 1) ?_ ?_ ?_
    ·exact QV (kp2 rfl rfl)
    ·exact ⟨by omega, QdR hI.2 (Ql9 (by omega) h2 (by first | exact .inl (by omega) | (simp only [QcV] at *; exact .inr (Int.not_le.1 h4))))⟩
    ·first | omega | (simp only; omega) | (dsimp only; omega)
 ·try rw [h1]
  try simp only [qA] at h1
  refine Zu (QL (Qy (QI (Qd (QO) (Qe fun K hK => Qa Z (hK _ _ (Qb (kp1 Z) ?_)))))))
  refine Qs (Qo Z ?_)
  first
   | exact (Qgi hI.2 (by omega)).symm
   | exact (QaX (i := i) (by omega) (Qfx (by omega) (.inl h2))).symm
   | (simp only [QcV] at *; exact (QaX (i := i) (by omega) (Qfx (by omega) (.inr ⟨by omega, h4⟩))).symm)
theorem Qay {l : List (Cu × Cu)} (hl : Sm l) {x y : Cu} (hx : Cu.sm x) (hy : Cu.sm y) : Ok Try.prog 106 [ZO l, .agg (dCu x), .agg (dCu y)] (.bool (mIn l x y)) := by
 refine Ok.ofT Z2 Try.func106 QoB (Nat.le_of_ble_eq_true Z) ?_
 show TW _ _ tf106.body _ _
 have hn := hl.1
 refine Qe fun K hK => ZL Z Z Z (ZL Z Z Z (Qa Z (hK _ _ (Qb (kp3 Z Z Z) ?_))))
 refine QF ?_ -- 0
 refine Qe fun K hK => Qa Z (hK _ _ (Qb (kp4 Z Z Z Z) ?_))
 refine QH ?_
 refine ZQ (ι := Nat) (fun i => ⟨[(0, ZO l), (4, .ref 4 0 0), (5, .ref 5 0 0), (7, .int .i64 i)], [(4, ⟨[dCu x], 7, 96, true⟩), (5, ⟨[dCu y], 7, 96, true⟩)]⟩) (fun i => i <= l.length /\ (l.take i).any (inC x y) = false) (fun i => l.length - i) 0 ?_ ?_ ?_
 ·exact Zp (l := [0, 4, 5, 7]) (lH := [4, 5]) (kp4 rfl rfl rfl rfl) (QB rfl (QB rfl Qx)) rfl rfl rfl
 ·exact ⟨Nat.zero_le _, by simp⟩
 intro i hI
 try dsimp only
 refine QF ?_ -- 1
 refine Qe fun K hK => Qa Z (Qa Z (Q4 Z Z (Yz Z Z (hK _ _ (Qb (kp5 Z Z Z Z Z) ?_)))))
 refine Qz Z (fun h1 => ?_) (fun h1 => ?_)
 ·try rw [h1]
  try simp only [qA] at h1
  refine Qu (Qd (kp4 Z Z Z Z) ?_)
  refine QF ?_ -- 2
  refine QH (Qe fun K hK => Qa Z (Qa Z (QD Z Z Z (by omega) (Q9 (by omega)) Z (Yu Z Z (Q0 (ds0 := [11, 10, 9, 8, 7, 6, 5, 4, 3, 2, 1, 0]) (cs := [_, _, _, _, _, _, _]) Z Z Z Z Z Z (Q0 (ds0 := [11, 10, 9, 8, 7, 6, 5, 4, 3, 2, 1, 0]) (cs := [_, _, _, _, _, _, _]) Z Z Z Z Z Z (Zj (ds0 := [10, 9, 8, 7, 6, 5, 4, 3, 2, 1, 0]) (Zv (hl.at (i := i) (by omega)).1.1 (hl.at (i := i) (by omega)).1.2 hx.1 hx.2) Z Z (.inr Z) Z Z (QkU Z Z (Qa Z ?_)))))))))
  refine QA (g := 22) Z (fun h2 => ?_) (fun h2 => ?_)
  ·try rw [h2]
   try simp only [qA] at h2
   refine Qf Z (Q0 (ds0 := [2, 1, 0]) (cs := [_, _, _, _, _, _, _]) Z Z Z Z Z Z (Qf Z (Qa Z (Qf Z (Qa Z (Qf Z (QD Z Z Z (by omega) (Q9 (by omega)) Z (Qf Z (Yu Z Z (Qf Z (Q0 (ds0 := [2, 1, 0]) (cs := [_, _, _, _, _, _, _]) Z Z Z Z Z Z ?_)))))))))))
   refine Qf Z (Zj (ds0 := [1, 0]) (Zv hy.1 hy.2 (hl.at (i := i) (by omega)).2.1 (hl.at (i := i) (by omega)).2.2) Z Z (.inr Z) Z Z (Qf Z (QkU Z Z (Ql Z Z (hK _ _ (Qb (kp5 Z Z Z Z Z) ?_))))))
   refine Qz Z (fun h3 => ?_) (fun h3 => ?_)
   ·try rw [h3]
    try simp only [qA] at h3
    refine Qe fun K hK => Qa Z (hK _ _ (Qb (kp1 Z) ?_))
    refine Qs (Qp (Qk (QZ (Qp (Qk (Qo Z ?_))))))
    first
     | exact (QlS (i := i) (by omega) hI.2).symm
     | exact (QhK (i := i) (by omega) (QnI h2 h3)).symm
   ·try rw [h3]
    try simp only [qA] at h3
    refine Qu (Qh (Qd (kp4 Z Z Z Z) (Q2 fun K hK => Qa Z (Zd Z Z (by first | exact Qq (by omega) (by omega) | rfl) (Qa Z (hK _ ?_))))))
    refine Qj (i + 1) ?_ ?_ ?_
    ·exact Zp (l := [0, 4, 5, 7]) (lH := [4, 5]) (kp4 rfl rfl rfl rfl) (QB rfl (QB rfl Qx)) rfl rfl rfl
    ·exact ⟨by omega, Qfb (by omega) hI.2 (QnH (by first | exact .inl h2 | exact .inr h3))⟩
    ·first | omega | (simp only; omega) | (dsimp only; omega)
  ·try rw [h2]
   try simp only [qA] at h2
   refine Qt Z (Qt Z (Qt Z (Qt Z (Qt Z (Qt Z (Qt Z (Qt Z (Ql Z Z (hK _ _ (Qb (kp5 Z Z Z Z Z) ?_))))))))))
   refine ZB Z (Qu (Qh (Qd (kp4 Z Z Z Z) (Q2 fun K hK => Qa Z (Zd Z Z (by first | exact Qq (by omega) (by omega) | rfl) (Qa Z (hK _ ?_)))))))
   refine Qj (i + 1) ?_ ?_ ?_
   ·exact Zp (l := [0, 4, 5, 7]) (lH := [4, 5]) (kp4 rfl rfl rfl rfl) (QB rfl (QB rfl Qx)) rfl rfl rfl
   ·exact ⟨by omega, Qfb (by omega) hI.2 (QnH (by first | exact .inl h2 | exact .inr h3))⟩
   ·first | omega | (simp only; omega) | (dsimp only; omega)
 ·try rw [h1]
  try simp only [qA] at h1
  refine Zu (QL (Qy (QI (Qd (QO) (Qe fun K hK => Qa Z (hK _ _ (Qb (kp1 Z) ?_)))))))
  refine Qs (Qo Z ?_)
  first
   | exact (QlS (i := i) (by omega) hI.2).symm
   | exact (QhK (i := i) (by omega) (QnI h2 h3)).symm
end Go.Proofs
namespace Go.Proofs
open Go Go.Abs M3 M25
set_option linter.unusedVariables false
set_option linter.unusedSimpArgs false
theorem Y9 {s : List (Cu × Cu) × List (Cu × Cu)} (h1s : Sm s.1) (h2s : Sm s.2) : Ok Try.prog 96 [Qgw s] (.bool (Qe4 s)) := by
 refine Ok.ofT Z2 Try.func96 Qqc (Nat.le_of_ble_eq_true Z) ?_
 show TW _ _ tf96.body _ _
 have hn := h1s.1
 refine Qe fun K hK => ZL Z Z Z (Qa Z (hK _ _ (Qb (kp1 Z) ?_)))
 refine QF ?_ -- 0
 refine Qe fun K hK => Qn Z Z (QG Z Z Z (QE (Z7 h1s) Z Z (.inr Z) (Yb Z (Qa Z ?_))))
 refine QA (g := 8) Z (fun h1 => ?_) (fun h1 => ?_)
 ·try rw [h1]
  try simp only [qA] at h1
  refine Qt Z (Qt Z (Qt Z (Qt Z (Ql Z Z (hK _ _ (Qb (kp2 Z Z) ?_))))))
  refine ZH Z (Qe fun K hK => Qa Z (hK _ _ (Qb (kp1 Z) ?_)))
  refine Qs (Qk (Qo Z ?_))
  first
   | exact (QcT (i := i) h1 h2 (by omega) hI.2).symm
   | exact (Qas (i := i) (by omega) (.inl h4)).symm
   | exact (Qas (i := i) (by omega) (.inr h5)).symm
   | exact (Qat (.inl h1)).symm
   | exact (Qat (.inr h2)).symm
 ·try rw [h1]
  try simp only [qA] at h1
  refine Qf Z (Qn Z Z (Qf Z (QG Z Z Z (Qf Z (QE (Z7 h2s) Z Z (.inr Z) (Qf Z (Yb Z (Ql Z Z (hK _ _ (Qb (kp2 Z Z) ?_))))))))))
  refine Qz Z (fun h2 => ?_) (fun h2 => ?_)
  ·try rw [h2]
   try simp only [qA] at h2
   refine Qe fun K hK => Qa Z (hK _ _ (Qb (kp1 Z) ?_))
   refine Qs (Qk (Qo Z ?_))
   first
    | exact (QcT (i := i) h1 h2 (by omega) hI.2).symm
    | exact (Qas (i := i) (by omega) (.inl h4)).symm
    | exact (Qas (i := i) (by omega) (.inr h5)).symm
    | exact (Qat (.inl h1)).symm
    | exact (Qat (.inr h2)).symm
  ·try rw [h2]
   try simp only [qA] at h2
   refine Qu (Qd (kp1 Z) ?_)
   refine QF ?_ -- 1
   refine Qe fun K hK => Qa Z (hK _ _ (Qb (kp2 Z Z) ?_))
   refine QH ?_
   refine ZQ (ι := Nat) (fun i => ⟨[(1, .ref 1 0 0), (3, .int .i64 i)], [(1, ⟨[[ZO s.1, ZO s.2]], 2, 74, true⟩)]⟩) (fun i => i <= s.1.length /\ (s.1.take i).all (fun x => Qa4 x.1 && Qa4 x.2) = true) (fun i => s.1.length - i) 0 ?_ ?_ ?_
   ·exact Zp (l := [1, 3]) (lH := [1]) (kp2 rfl rfl) (QB rfl Qx) rfl rfl rfl
   ·exact ⟨Nat.zero_le _, by simp⟩
   intro i hI
   try dsimp only
   refine QF ?_ -- 2
   refine Qe fun K hK => Qa Z (Qn Z Z (QG Z Z Z (Q4 Z Z (Yz Z Z (hK _ _ (Qb (kp3 Z Z Z) ?_))))))
   refine Qz Z (fun h3 => ?_) (fun h3 => ?_)
   ·try rw [h3]
    try simp only [qA] at h3
    refine Qu (Qd (kp2 Z Z) ?_)
    refine QF ?_ -- 3
    refine QH (Qe fun K hK => Qn Z Z (QG Z Z Z (Qa Z (QD Z Z Z (by omega) (Q9 (by omega)) Z (Yu Z Z (QR (cs := [_, _, _, _, _, _, _]) Z Z Z Z (QE (XF) Z Z (.inr Z) (Yb Z (Qa Z ?_)))))))))
    refine QA (g := 29) Z (fun h4 => ?_) (fun h4 => ?_)
    ·try rw [h4]
     try simp only [qA] at h4
     refine Qt Z (Qt Z (Qt Z (Qt Z (Qt Z (Qt Z (Qt Z (Qt Z (Ql Z Z (hK _ _ (Qb (kp3 Z Z Z) ?_))))))))))
     refine ZH Z (Qe fun K hK => Qa Z (hK _ _ (Qb (kp1 Z) ?_)))
     refine Qs (Qp (Qk (QZ (Qp (Qk (Qo Z ?_))))))
     first
      | exact (QcT (i := i) h1 h2 (by omega) hI.2).symm
      | exact (Qas (i := i) (by omega) (.inl h4)).symm
      | exact (Qas (i := i) (by omega) (.inr h5)).symm
      | exact (Qat (.inl h1)).symm
      | exact (Qat (.inr h2)).symm
    ·try rw [h4]
     try simp only [qA] at h4
     refine Qf Z (Qn Z Z (Qf Z (QG Z Z Z (Qf Z (Qa Z (Qf Z (QD Z Z Z (by omega) (Q9 (by omega)) Z (Qf Z (Yu Z Z (Qf Z (QR (cs := [_, _, _, _, _, _, _]) Z Z Z Z ?_)))))))))))
     refine Qf Z (QE (XF) Z Z (.inr Z) (Qf Z (Yb Z (Ql Z Z (hK _ _ (Qb (kp3 Z Z Z) ?_))))))
     refine Qz Z (fun h5 => ?_) (fun h5 => ?_)
     ·try rw [h5]
      try simp only [qA] at h5
      refine Qe fun K hK => Qa Z (hK _ _ (Qb (kp1 Z) ?_))
      refine Qs (Qp (Qk (QZ (Qp (Qk (Qo Z ?_))))))
      first
       | exact (QcT (i := i) h1 h2 (by omega) hI.2).symm
       | exact (Qas (i := i) (by omega) (.inl h4)).symm
       | exact (Qas (i := i) (by omega) (.inr h5)).symm
       | exact (Qat (.inl h1)).symm
       | exact (Qat (.inr h2)).symm
     ·try rw [h5]
      try simp only [qA] at h5
      refine Qu (Qh (Qd (kp2 Z Z) (Q2 fun K hK => Qa Z (Zd Z Z (by first | exact Qq (by omega) (by omega) | rfl) (Qa Z (hK _ ?_))))))
      refine Qj (i + 1) ?_ ?_ ?_
      ·exact Zp (l := [1, 3]) (lH := [1]) (kp2 rfl rfl) (QB rfl Qx) rfl rfl rfl
      ·exact ⟨by omega, Zf (by omega) hI.2 (by rw [show Qa4 s.1[i].1 = true from h4, show Qa4 s.1[i].2 = true from h5]; rfl)⟩
      ·first | omega | (simp only; omega) | (dsimp only; omega)
   ·try rw [h3]
    try simp only [qA] at h3
    refine Zu (QL (Qy (QI (Qd (QO) (Qe fun K hK => Qa Z (hK _ _ (Qb (kp1 Z) ?_)))))))
    refine Qs (Qo Z ?_)
    first
     | exact (QcT (i := i) h1 h2 (by omega) hI.2).symm
     | exact (Qas (i := i) (by omega) (.inl h4)).symm
     | exact (Qas (i := i) (by omega) (.inr h5)).symm
     | exact (Qat (.inl h1)).symm
     | exact (Qat (.inr h2)).symm
end Go.Proofs
namespace Go.Proofs
open Go Go.Abs M3 M25
set_option linter.unusedVariables false
set_option linter.unusedSimpArgs false
theorem Qaf {l : List Cu} {c : Cu} (hl : l.length <= 3000000) (hs : ∀ x ∈ l, Cu.sm x) (hc : Cu.sm c) : Ok Try.prog 110 [QfS l, .agg (dCu c)] (QfS (Qbu l c)) := by
 refine Ok.ofT Z2 Try.func110 QoF (Nat.le_of_ble_eq_true Z) ?_
 show TW _ _ tf110.body _ _
 refine Qe fun K hK => ZL Z Z Z (Qa Z (hK _ _ (Qb (kp2 Z Z) ?_)))
 refine Qe fun K hK => Qa Z (hK _ _ (Qb (kp3 Z Z Z) ?_))
 refine QF ?_ -- 0
 refine QH ?_
 refine ZQ (ι := Nat) (fun k => ⟨[(0, QfS l), (3, .ref 3 0 0), (5, .int .i64 k)], [(3, ⟨[dCu c], 7, 96, true⟩)]⟩) (fun k => k <= l.length /\ Qbu l c = l.take k ++ Qbu (l.drop k) c) (fun k => l.length - k) 0 ?_ ?_ ?_
 ·exact Zp (l := [0, 3, 5]) (lH := [3]) (kp3 rfl rfl rfl) (QB rfl Qx) rfl rfl rfl
 ·exact ⟨Nat.zero_le _, by simp⟩
 intro k hI
 try dsimp only
 refine QF ?_ -- 1
 refine Qe fun K hK => Qa Z (Qa Z (Q4 Z Z (Yz Z Z (Qa Z ?_))))
 refine QA (g := 10) Z (fun h1 => ?_) (fun h1 => ?_)
 ·try rw [h1]
  try simp only [qA] at h1
  refine Qf Z (Qa Z (Qf Z (Qa Z (Qf Z (QD Z Z Z (by omega) (Q9 (by omega)) Z (Qf Z (Q0 (ds0 := [2, 1, 0]) (cs := [_, _, _, _, _, _, _]) Z Z Z Z Z Z (Qf Z (Q0 (ds0 := [2, 1, 0]) (cs := [_, _, _, _, _, _, _]) Z Z Z Z Z Z (Qf Z (Zj (ds0 := [1, 0]) (Zv (hs _ (List.getElem_mem (by omega))).1 (hs _ (List.getElem_mem (by omega))).2 hc.1 hc.2) Z Z (.inr Z) Z Z ?_)))))))))))
  refine Qf Z (Yz Z Z (Ql Z Z (hK _ _ (Qb (kp4 Z Z Z Z) ?_))))
  refine Qz Z (fun h2 => ?_) (fun h2 => ?_)
  ·try rw [h2]
   try simp only [qA] at h2
   refine Qu (Qd (kp3 Z Z Z) (QH (Q2 fun K hK => Qa Z (Zd Z Z (by first | exact Qq (by omega) (by omega) | rfl) (Qa Z (hK _ ?_))))))
   refine Qh ?_
   refine Qj (k + 1) ?_ ?_ ?_
   ·exact Zp (l := [0, 3, 5]) (lH := [3]) (kp3 rfl rfl rfl) (QB rfl Qx) rfl rfl rfl
   ·exact ⟨by omega, Qkg (by omega) h2 hI.2⟩
   ·first | omega | (simp only; omega) | (dsimp only; omega)
  ·try rw [h2]
   try simp only [qA] at h2
   refine Zu (QL (Qy (QI (Qd (kp3 Z Z Z) ?_))))
   refine QF ?_ -- 2
   refine Qe fun K hK => Qa Z (Qa Z (Q4 Z Z (Yz Z Z (Qa Z ?_))))
   refine QA (g := 25) Z (fun h3 => ?_) (fun h3 => ?_)
   ·try rw [h3]
    try simp only [qA] at h3
    refine Qf Z (Qa Z (Qf Z (Qa Z (Qf Z (QD Z Z Z (by omega) (Q9 (by omega)) Z (Qf Z (Q0 (ds0 := [2, 1, 0]) (cs := [_, _, _, _, _, _, _]) Z Z Z Z Z Z (Qf Z (Q0 (ds0 := [2, 1, 0]) (cs := [_, _, _, _, _, _, _]) Z Z Z Z Z Z (Qf Z (Zj (ds0 := [1, 0]) (Zv (hs _ (List.getElem_mem (by omega))).1 (hs _ (List.getElem_mem (by omega))).2 hc.1 hc.2) Z Z (.inr Z) Z Z ?_)))))))))))
    refine Qf Z (Xk Z Z (Ql Z Z (hK _ _ (Qb (kp4 Z Z Z Z) ?_))))
    refine Qz Z (fun h4 => ?_) (fun h4 => ?_)
    ·try rw [h4]
     try simp only [qA] at h4
     refine Qe fun K hK => Qa Z (Qa Z (hK _ _ (Qb (kp1 Z) ?_)))
     refine Qs (Qk (ZI Z ?_))
     rw [Qkf (k := k) (by omega) (by assumption) hI.2]; rfl
    ·try rw [h4]
     try simp only [qA] at h4
     refine Qu (Qd (kp3 Z Z Z) (Qe fun K hK => Qa Z (Qa Z (Qd0 Z Z Z Z (by omega) (by omega) (by simp; omega) Qht Z (QhH (ds0 := [5, 1, 0]) Z Z (fun _ h => ⟨QlG, h⟩) Z (.inl Z) (by simp) (by simp; omega) (by simp; omega) Z Z (Q0 (ds0 := [6, 5, 1, 0]) (cs := [_, _, _, _, _, _, _]) Z Z Z Z Z Z (QN Z Z (QdY (ds0 := [1, 0]) Z Z (by simp [D.ids, D.sid]) ⟨_, rfl, rfl, rfl, rfl, rfl⟩ Z Z (by simp) Z Z (by simp; omega) (by simp; omega) Z Z (Qa Z (Qa Z ?_))))))))))
     refine Qd0 Z Z Z Z (by omega) (by simp; omega) (by simp) Qht Z (QdY (ds0 := [0]) Z Z (by simp [D.ids, D.sid]) ⟨rfl, QlG, rfl⟩ Z Z (by simp) Z Z (by simp; omega) (by simp; omega) Z Z (Qa Z (hK _ _ (Qb (kp1 Z) ?_))))
     refine Qs (ZI Z ?_)
     rw [QiS (k := k) (by first | exact .inl (by omega) | exact .inr ⟨by omega, by assumption, by assumption⟩) hI.2]; simp [X7, D.fz, D.fzS, Qc8, lk, D.can, D.canS, QfS, D.sid, (show ∀ a b : Nat, a + 1 + b = a + (b + 1) from fun a b => by omega), List.take_of_length_le (show (l.map dCu).length <= l.length by simp)] <;> rfl
   ·try rw [h3]
    try simp only [qA] at h3
    exact absurd h1 h3
 ·try rw [h1]
  try simp only [qA] at h1
  refine Qt Z (Qt Z (Qt Z (Qt Z (Qt Z (Qt Z (Qt Z (Ql Z Z (hK _ _ (Qb (kp4 Z Z Z Z) ?_)))))))))
  refine ZB Z (Zu (QL (Qy (QI (Qd (kp3 Z Z Z) ?_)))))
  refine QF ?_ -- 2
  refine Qe fun K hK => Qa Z (Qa Z (Q4 Z Z (Yz Z Z (Qa Z ?_))))
  refine QA (g := 25) Z (fun h5 => ?_) (fun h5 => ?_)
  ·try rw [h5]
   try simp only [qA] at h5
   exact absurd h5 h1
  ·try rw [h5]
   try simp only [qA] at h5
   refine Qt Z (Qt Z (Qt Z (Qt Z (Qt Z (Qt Z (Qt Z (Ql Z Z (hK _ _ (Qb (kp4 Z Z Z Z) ?_)))))))))
   refine ZB Z (Qu (Qd (kp3 Z Z Z) (Qe fun K hK => Qa Z (Qa Z (Qd0 Z Z Z Z (by omega) (by omega) (by simp; omega) Qht Z (QhH (ds0 := [5, 1, 0]) Z Z (fun _ h => ⟨QlG, h⟩) Z (.inl Z) (by simp) (by simp; omega) (by simp; omega) Z Z (Q0 (ds0 := [6, 5, 1, 0]) (cs := [_, _, _, _, _, _, _]) Z Z Z Z Z Z (QN Z Z (QdY (ds0 := [1, 0]) Z Z (by simp [D.ids, D.sid]) ⟨_, rfl, rfl, rfl, rfl, rfl⟩ Z Z (by simp) Z Z (by simp; omega) (by simp; omega) Z Z (Qa Z ?_))))))))))
   refine Qa Z (Qd0 Z Z Z Z (by omega) (by simp; omega) (by simp) Qht Z (QdY (ds0 := [0]) Z Z (by simp [D.ids, D.sid]) ⟨rfl, QlG, rfl⟩ Z Z (by simp) Z Z (by simp; omega) (by simp; omega) Z Z (Qa Z (hK _ _ (Qb (kp1 Z) ?_)))))
   refine Qs (ZI Z ?_)
   rw [QiS (k := k) (by first | exact .inl (by omega) | exact .inr ⟨by omega, by assumption, by assumption⟩) hI.2]; simp [X7, D.fz, D.fzS, Qc8, lk, D.can, D.canS, QfS, D.sid, (show ∀ a b : Nat, a + 1 + b = a + (b + 1) from fun a b => by omega), List.take_of_length_le (show (l.map dCu).length <= l.length by simp)] <;> rfl
theorem XX {l : List (Cu × Cu)} (hl : Sm l) : Ok Try.prog 105 [ZO l] (QfS (YM l)) := by
 refine Ok.ofT Z2 Try.func105 QoA (Nat.le_of_ble_eq_true Z) ?_
 show TW _ _ tf105.body _ _
 have hn := hl.1
 refine Qe fun K hK => Qa Z (hK _ _ (Qb (kp1 Z) ?_))
 refine Qe fun K hK => QE (YQ) Z Z (.inl Z) (QE (Y1) Z Z (.inl Z) (QN Z Z (Qa Z (hK _ _ (Qb (kp2 Z Z) ?_)))))
 refine QF ?_ -- 0
 refine Qe fun K hK => Qa Z (hK _ _ (Qb (kp3 Z Z Z) ?_))
 refine QH ?_
 refine ZQ (ι := Nat) (fun i => ⟨[(0, ZO l), (3, QfS (YM (l.take i))), (4, .int .i64 i)], []⟩) (fun i => i <= l.length) (fun i => l.length - i) 0 ?_ ?_ ?_
 ·exact le_trans (Qka 7 _ (by decide)) (Zp (l := [0, 3, 4]) (lH := []) (kp3 rfl rfl rfl) Qx rfl rfl rfl)
 ·exact Nat.zero_le _
 intro i hI
 try dsimp only
 refine QF ?_ -- 1
 refine Qe fun K hK => Qa Z (Qa Z (Q4 Z Z (Yz Z Z (hK _ _ (Qb (kp4 Z Z Z Z) ?_)))))
 refine Qz Z (fun h1 => ?_) (fun h1 => ?_)
 ·try rw [h1]
  try simp only [qA] at h1
  refine Qu (Qd (kp3 Z Z Z) ?_)
  refine QF ?_ -- 2
  refine QH (Q2 fun K hK => Qa Z (Qa Z (Qa Z (QD Z Z Z (by omega) (Q9 (by omega)) Z (Yu Z Z (Q0 (ds0 := [7, 1, 0]) (cs := [_, _, _, _, _, _, _]) Z Z Z Z Z Z (Zj (ds0 := [1, 0]) (Qaf (Nat.le_trans (QdM hl i).1 (by omega)) (QdM hl i).2 (hl.2 _ (List.getElem_mem (by omega))).1) Z Z (.inl Z) Z Z (Qa Z (Qa Z (QD Z Z Z (by omega) (Q9 (by omega)) Z ?_))))))))))
  refine Yu Z Z (Q0 (ds0 := [1, 0]) (cs := [_, _, _, _, _, _, _]) Z Z Z Z Z Z (Zj (ds0 := [0]) (Qaf (Nat.le_trans (QdN _ _) (by have := (QdM hl i).1; omega)) (Qgc (QdM hl i).2 (hl.2 _ (List.getElem_mem (by omega))).1) (hl.2 _ (List.getElem_mem (by omega))).2) Z Z (.inl Z) Z Z (Qa Z (hK _ ?_))))
  refine Qh (Qd (kp3 Z Z Z) (Q2 fun K hK => Qa Z (Zd Z Z (by first | exact Qq (by omega) (by omega) | rfl) (Qa Z (hK _ ?_)))))
  refine Qj (i + 1) ?_ ?_ ?_
  ·exact Zp (l := [0, 3, 4]) (lH := []) (kp3 rfl rfl rfl) Qx (by rw [Qlq (by omega)]; rfl) rfl rfl
  ·omega
  ·first | omega | (simp only; omega) | (dsimp only; omega)
 ·try rw [h1]
  try simp only [qA] at h1
  refine Zu (QL (Qy (QI (Qd (kp1 Z) (Qe fun K hK => Qa Z (Qa Z (hK _ _ (Qb (kp1 Z) ?_))))))))
  refine Qs (ZI Z ?_)
  rw [List.take_of_length_le (show l.length <= i by omega)]; rfl
end Go.Proofs
namespace Go.Proofs
open Go Go.Abs M3 M25
set_option linter.unusedVariables false
set_option linter.unusedSimpArgs false
theorem XY {l : List (Cu × Cu)} {x y : Cu} (hn : l.length <= 3000000) (hl : ∀ s ∈ l, Cu.sm s.1 /\ Cu.sm s.2) (hx : Cu.sm x) (hy : Cu.sm y) : OkH Try.prog 107 [.osl 500000 l.length, .agg (dCu x), .agg (dCu y)] [(500000, ⟨l.map QdB, 14, 99, true⟩)] (.osl 500000 (Qbt l x y).length) [(500000, ⟨(Qbt l x y).map QdB, 14, 99, true⟩)] := by
 refine OkH.mv Z2 Try.func107 QoC (Nat.le_of_ble_eq_true Z) Z ?_
 show TW _ _ tf107.body _ _
 refine Qe fun K hK => ZL Z Z Z (ZL Z Z Z (Qa Z (hK _ _ (Qb (kp3 Z Z Z) ?_))))
 refine QF ?_ -- 0
 refine Qe fun K hK => Qa Z (Q4 Z Z (Qb7 Z Z (by first | exact Qq (by omega) (by omega) | rfl) (Qa Z (hK _ _ (Qb (kp4 Z Z Z Z) ?_)))))
 refine Qe fun K hK => Qa Z (QgE Z Z (Qa Z ?_))
 refine QA (g := 13) Z (fun h1 => ?_) (fun h1 => ?_)
 ·try rw [h1]
  try simp only [qA] at h1
  refine Qf Z (Qa Z (Qf Z (Qa Z (Qf Z (Qco (ds0 := [5, 4, 2, 1, 0]) Z Z Z (by simp) (by omega) (by omega) Z Z Z (Qf Z (Qn Z Z (Qf Z (Q0 (ds0 := [2, 1, 0]) (cs := [_, _, _, _, _, _, _]) Z (Ye Z (Zn (by omega) (by omega))) Z Z Z Z (Qf Z (Q0 (ds0 := [2, 1, 0]) (cs := [_, _, _, _, _, _, _]) Z Z Z Z Z Z ?_)))))))))))
  refine Qf Z (Zj (ds0 := [1, 0]) (Zv (hl _ (List.getElem_mem (by omega))).2.1 (hl _ (List.getElem_mem (by omega))).2.2 hx.1 hx.2) Z Z (.inr Z) Z Z (Qf Z (Xk Z Z (Ql Z Z (hK _ _ (Qb (kp5 Z Z Z Z Z) ?_))))))
  refine Qz Z (fun h2 => ?_) (fun h2 => ?_)
  ·try rw [h2]
   try simp only [qA] at h2
   refine Qe fun K hK => Qa Z (Qa Z (QR (cs := [_, _, _, _, _, _, _]) Z Z Z Z (XI Z Z Z (by simp) (by omega) (by omega) Z (Qn Z Z (Q6 Z Z (Zn (by omega) (by omega)) Z Z Z Z Z (hK _ _ (Qb (kp1 Z) ?_)))))))
   refine Qe fun K hK => Qa Z (Qa Z (hK _ _ (Qb (kp1 Z) ?_)))
   refine Qs (Qk ?_)
   refine X3 Z ?_ (Qig ?_)
   ·rw [Qhc (i := ((l.length : Int) - 1).toNat) (by omega) h2]; simp [QkV, D.fz, D.fzS, Qe8, D.can, D.canS]
   ·rw [Qhc (i := ((l.length : Int) - 1).toNat) (by omega) h2]; simp [lk, List.map_set, QdB, dCu, setRow, D.sid]
  ·try rw [h2]
   try simp only [qA] at h2
   refine Qu (Qd (kp3 Z Z Z) (Qe fun K hK => Qa Z (QR (cs := [_, _, _, _, _, _, _]) Z Z Z Z (QR (cs := [_, _, _, _, _, _, _]) Z Z Z Z (Q3 Z Z (QN Z Z (Qbc Z Z (fun _ h => Qa5 Z Z Z h) Z (by simp) Z Z Z (by simp; omega) (by simp; omega) (Qa Z (hK _ _ (Qb (kp1 Z) ?_))))))))))
   refine Qs ?_
   refine X3 Z ?_ (Qig ?_)
   ·rw [QcQ (.inr ⟨((l.length : Int) - 1).toNat, by omega, h2⟩)]; simp [QkV, D.fz, D.fzS, Qe8, D.can, D.canS]
   ·rw [QcQ (.inr ⟨((l.length : Int) - 1).toNat, by omega, h2⟩)]; simp [lk, QdB, dCu, D.sid]
 ·try rw [h1]
  try simp only [qA] at h1
  refine Qt Z (Qt Z (Qt Z (Qt Z (Qt Z (Qt Z (Qt Z (Qt Z (Ql Z Z (hK _ _ (Qb (kp5 Z Z Z Z Z) ?_))))))))))
  refine ZB Z (Qu (Qd (kp3 Z Z Z) (Qe fun K hK => Qa Z (QR (cs := [_, _, _, _, _, _, _]) Z Z Z Z (QR (cs := [_, _, _, _, _, _, _]) Z Z Z Z (Q3 Z Z (QN Z Z (Qbc Z Z (fun _ h => Qa5 Z Z Z h) Z (by simp) Z Z Z (by simp; omega) (by simp; omega) (Qa Z (hK _ _ (Qb (kp1 Z) ?_)))))))))))
  refine Qs ?_
  have h0 : l = [] := List.eq_nil_of_length_eq_zero (by omega)
  refine X3 Z ?_ (Qig ?_)
  ·rw [QcQ (.inl h0)]; simp [QkV, D.fz, D.fzS, Qe8, D.can, D.canS]
  ·rw [QcQ (.inl h0)]; simp [lk, QdB, dCu, D.sid]
end Go.Proofs
namespace Go.Proofs
open Go Go.Abs M3 M25
set_option linter.unusedVariables false
set_option linter.unusedSimpArgs false
theorem Qcd {l : List (Cu × Cu)} (hl : Sm l) : Ok Try.prog 104 [ZO l] (.tup [ZO (Qh4 l), .bool (l.all QcR)]) := by
  refine Ok.ofT Z2 Try.func104 Qoz (Nat.le_of_ble_eq_true Z) ?_
  show TW _ _ tf104.body _ _
  have hn := hl.1
  have hc1 := Qbr l
  refine Qe fun K hK => Qa Z (Qa Z (hK _ _ (Qb (kp1 Z) ?_)))
  refine QF ?_ -- 0
  refine Qe fun K hK => Qa Z (hK _ _ (Qb (kp2 Z Z) ?_))
  refine QH ?_
  refine ZQ (ι := Nat) (fun i => ⟨[(0, ZO l), (4, .int .i64 i)], []⟩) (fun i => i <= l.length /\ (l.take i).all QcR = true) (fun i => l.length - i) 0 ?_ ?_ ?_
  · exact QV (kp2 rfl rfl)
  · exact ⟨Nat.zero_le _, by simp⟩
  intro i hI
  try dsimp only
  refine QF ?_ -- 1
  refine Qe fun K hK => Qa Z (Qa Z (Q4 Z Z (Yz Z Z (hK _ _ (Qb (kp3 Z Z Z) ?_)))))
  refine Qz Z (fun h1 => ?_) (fun h1 => ?_)
  · try rw [h1]
    try simp only [qA] at h1
    refine Qu (Qd (kp2 Z Z) ?_)
    refine QF ?_ -- 2
    refine QH (Qe fun K hK => Qa Z (Qa Z (QD Z Z Z (by omega) (Q9 (by omega)) Z (QR (cs := [_, _, _, _, _, _, _, _, _, _, _, _, _, _]) Z Z Z Z (QE (Xj (hl.at (i := i) (by omega)).1.1 (hl.at (i := i) (by omega)).1.2 (hl.at (i := i) (by omega)).2.1 (hl.at (i := i) (by omega)).2.2) Z Z (.inr Z) (Yb Z (hK _ _ (Qb (kp3 Z Z Z) ?_))))))))
    refine Qz Z (fun h2 => ?_) (fun h2 => ?_)
    · try rw [h2]
      try simp only [qA] at h2
      refine Qe fun K hK => Qa Z (Qa Z (hK _ _ (Qb (kp2 Z Z) ?_)))
      refine Qs (Qp (Qk (QZ (Qp (Qk ?_)))))
      first
        | exact ZR rfl rfl ⟨by rw [Qh4, if_neg (by rw [Yd (i := i) (by omega) (by assumption)]; simp)]; rfl, by rw [Yd (i := i) (by omega) (by assumption)]; rfl⟩
        | (have ha : l.all QcR = true := Y0 (by omega) hI.2
           exact ZR rfl rfl ⟨by rw [Qh4, if_pos ha, hI2.done (by omega)]; simp [X7, D.fz, D.fzS, Qc8, lk, D.can, D.canS, ZO], by rw [ha]; rfl⟩)
    · try rw [h2]
      try simp only [qA] at h2
      refine Qu (Qh (Qd (kp2 Z Z) (Q2 fun K hK => Qa Z (Zd Z Z (by first | exact Qq (by omega) (by omega) | rfl) (Qa Z (hK _ ?_))))))
      refine Qj (i + 1) ?_ ?_ ?_
      · exact QV (kp2 rfl rfl)
      · exact ⟨by omega, Zf (by omega) hI.2 (by assumption)⟩
      · first | omega | (simp only; omega) | (dsimp only; omega)
  · try rw [h1]
    try simp only [qA] at h1
    refine Zu (QL (Qy (QI (Qd (kp1 Z) (Qe fun K hK => Qa Z (hK _ _ (Qb (kp2 Z Z) ?_)))))))
    refine Qe fun K hK => Qa Z (QE (XX hl) Z Z (.inl Z) (Qa Z (hK _ _ (Qb (kp3 Z Z Z) ?_))))
    refine QF ?_ -- 3
    refine Qe fun K hK => Qa Z (hK _ _ (Qb (kp4 Z Z Z Z) ?_))
    refine QH ?_
    refine ZQ (ι := Nat × List (Cu × Cu)) (fun ⟨i, out⟩ => ⟨[(0, ZO l), (5, .osl 5 out.length), (6, QfS (YM l)), (7, .int .i64 i)], [(5, ⟨out.map QdB, 14, 99, true⟩)]⟩) (fun ⟨i, out⟩ => i <= (YM l).length /\ FillI (mIn l) (YM l) i out) (fun ⟨i, out⟩ => (YM l).length - i) (0, []) ?_ ?_ ?_
    · exact le_trans (Xu 5 5 14 99 rfl rfl) (Zp (l := [0, 5, 6, 7]) (lH := [5]) (kp4 rfl rfl rfl rfl) (QB rfl Qx) rfl rfl rfl)
    · exact ⟨Nat.zero_le _, FillI.zero⟩
    intro ⟨i, out⟩ hI
    obtain ⟨hI1, hI2⟩ := hI
    have hI3 := hI2.1
    try dsimp only
    refine QF ?_ -- 4
    refine Qe fun K hK => Qa Z (Zd Z Z (by first | exact Qq (by omega) (by omega) | rfl) (Qa Z (Q4 Z Z (Yz Z Z (hK _ _ (Qb (kp5 Z Z Z Z Z) ?_))))))
    refine Qz Z (fun h3 => ?_) (fun h3 => ?_)
    · try rw [h3]
      try simp only [qA] at h3
      refine Qu (Qd (kp4 Z Z Z Z) ?_)
      refine QF ?_ -- 5
      refine QH (Qe fun K hK => Qa Z (Qa Z (Qa Z (QD Z Z Z (by omega) (Q9 (by omega)) Z (Q0 (ds0 := [0]) (cs := [_, _, _, _, _, _, _]) Z Z Z Z Z Z (Qa Z (Qa Z (Zd Z Z (by first | exact Qq (by omega) (by omega) | rfl) (QD Z Z Z (by omega) (QiL (by omega)) Z (Q0 (ds0 := [0]) (cs := [_, _, _, _, _, _, _]) Z Z Z Z Z Z ?_))))))))))
      refine Zj (ds0 := []) (Qay hl (Yr hl _ (List.getElem_mem (by omega))) (Yr hl _ (List.getElem_mem (by omega)))) Z Z (.inr Z) Z Z (hK _ _ (Qb (kp5 Z Z Z Z Z) ?_))
      refine Qz Z (fun h4 => ?_) (fun h4 => ?_)
      · try rw [h4]
        try simp only [qA] at h4
        refine Q2 fun K hK => Qa rfl (Qa rfl (Qa rfl (QD rfl rfl rfl (by omega) (Q9 (by omega)) rfl (Q0 (ds0 := [1, 0]) (cs := [_, _, _, _, _, _, _]) rfl rfl rfl rfl rfl rfl (Qa rfl (Qa rfl (Zd rfl rfl (by first | exact Qq (by omega) (by omega) | rfl) (QD rfl rfl rfl (by omega) (QiL (by omega)) rfl (Q0 (ds0 := [1, 0]) (cs := [_, _, _, _, _, _, _]) rfl rfl rfl rfl rfl rfl (Qir (ds0 := [0]) (QlW (k := 5) rfl rfl rfl (by decide) rfl (by decide) (by simp [D.ids, D.sid, dCu]) ⟨.osl 5 out.length, by simp, by simp [D.ids, D.sid]⟩ rfl rfl (XY (by omega) hI2.2.1 (Yr hl _ (List.getElem_mem (by omega))) (Yr hl _ (List.getElem_mem (by omega))))) (fun _ h => by cases h) rfl rfl ?_))))))))))
        refine Qa Z (hK _ ?_)
        refine Qh (Qd (kp4 Z Z Z Z) (Q2 fun K hK => Qa Z (Zd Z Z (by first | exact Qq (by omega) (by omega) | rfl) (Qa Z (hK _ ?_)))))
        refine Qj (i + 1, Qbt out (YM l)[i] (YM l)[i + 1]) ?_ ?_ ?_
        · exact le_trans (Qj8 (l := [0, 6, 7]) (t := 50) (u := 5) 5 (kp3 rfl rfl rfl) rfl rfl rfl rfl) (Zp (l := [0, 5, 6, 7]) (lH := [5]) (kp4 rfl rfl rfl rfl) (QB rfl Qx) rfl rfl rfl)
        · exact ⟨by omega, hI2.take (Yr hl) (by omega) (by assumption)⟩
        · show (YM l).length - (i + 1) < (YM l).length - i; omega
      · try rw [h4]
        try simp only [qA] at h4
        refine Qu (Qh (Qd (kp4 Z Z Z Z) (Q2 fun K hK => Qa Z (Zd Z Z (by first | exact Qq (by omega) (by omega) | rfl) (Qa Z (hK _ ?_))))))
        refine Qj (i + 1, out) ?_ ?_ ?_
        · exact Zp (l := [0, 5, 6, 7]) (lH := [5]) (kp4 rfl rfl rfl rfl) (QB rfl Qx) rfl rfl rfl
        · exact ⟨by omega, hI2.skip (by omega) (by assumption)⟩
        · show (YM l).length - (i + 1) < (YM l).length - i; omega
    · try rw [h3]
      try simp only [qA] at h3
      refine Zu (QL (Qy (QI (Qd (kp1 Z) (Qe fun K hK => Qa Z (Qa Z (Qa Z (hK _ _ (Qb (kp2 Z Z) ?_)))))))))
      refine Qs ?_
      first
        | exact ZR rfl rfl ⟨by rw [Qh4, if_neg (by rw [Yd (i := i) (by omega) (by assumption)]; simp)]; rfl, by rw [Yd (i := i) (by omega) (by assumption)]; rfl⟩
        | (have ha : l.all QcR = true := Y0 (by omega) hI.2
           exact ZR rfl rfl ⟨by rw [Qh4, if_pos ha, hI2.done (by omega)]; simp [X7, D.fz, D.fzS, Qc8, lk, D.can, D.canS, ZO], by rw [ha]; rfl⟩)
end Go.Proofs
namespace Go.Proofs
open Go Go.Abs M3 M25
set_option linter.unusedVariables false
set_option linter.unusedSimpArgs false
theorem Qax {a b : List (Cu × Cu)} (ha : Sm a) (hb : Sm b) (hab : a.length + b.length <= 1000000) : Ok Try.prog 97 [ZO a, ZO b] (ZO (Ql4 a b)) := by
 refine Ok.ofT Z2 Try.func97 Qqd (Nat.le_of_ble_eq_true Z) ?_
 show TW _ _ tf97.body _ _
 refine Qe fun K hK => Qa Z (hK _ _ (Qb (kp2 Z Z) ?_))
 refine QF ?_ -- 0
 refine Qe fun K hK => Qa Z (QE (Z7 ha) Z Z (.inr Z) (Yb Z (Qa Z ?_)))
 refine QA (g := 10) Z (fun h1 => ?_) (fun h1 => ?_)
 ·try rw [h1]
  try simp only [qB] at h1
  refine Qt Z (Qt Z (Qt Z (Ql Z Z (hK _ _ (Qb (kp3 Z Z Z) ?_)))))
  refine ZH Z (Qe fun K hK => Qa Z (hK _ _ (Qb (kp1 Z) ?_)))
  refine Qs (Qk (ZI Z ?_))
  rw [Ql4, if_neg (by simp [h1])]; rfl
 ·try rw [h1]
  try simp only [qB] at h1
  refine Qf Z (Qa Z (Qf Z (QE (Z7 hb) Z Z (.inr Z) (Qf Z (Yb Z (Ql Z Z (hK _ _ (Qb (kp3 Z Z Z) ?_))))))))
  refine Qz Z (fun h2 => ?_) (fun h2 => ?_)
  ·try rw [h2]
   try simp only [qB] at h2
   refine Qe fun K hK => Qa Z (hK _ _ (Qb (kp1 Z) ?_))
   refine Qs (Qk (ZI Z ?_))
   rw [Ql4, if_neg (by simp [h1, h2])]; rfl
  ·try rw [h2]
   try simp only [qB] at h2
   refine Qu (Qd (kp2 Z Z) (Qe fun K hK => Qa Z (Qnn Z Z (fun _ h => Qmg Qmb h) Z (.inl Z) (by simp) (by simp; omega) (by simp; omega) (Qa Z (Qbc Z Z (fun _ h => Qmg Qmb h) Z (by simp) Z Z Z (by simp; omega) (by simp; omega) ?_)))))
   apply QdZ [17] (by simp)
   ·simp [St.freezeL, St.freeze, rem, D.fz, D.fzS, Box.fz, lk, D.scrub]; exact ⟨rfl, rfl⟩
   ·exact Qcd (ha.app hb hab)
   ·rfl
   ·simp [X7, D.fz, D.fzS, Qc8, D.can, D.canS, ZO]
   ·exact .inl rfl
   refine Qa Z (Zg Z Z (Zg Z Z (Qa Z (Qa Z (hK _ _ (Qb (kp1 Z) ?_))))))
   refine Qe fun K hK => Qa Z (Qa Z (hK _ _ (Qb (kp1 Z) ?_)))
   refine Qs (ZI Z ?_)
   rw [Ql4, if_pos ⟨h1, h2⟩]; rfl
theorem Qae {a : List (Cu × Cu)} (ha : Sm a) : Ok Try.prog 99 [ZO a] (ZO (Qh5 a)) := by
 refine Ok.ofT Z2 Try.func99 Qqf (Nat.le_of_ble_eq_true Z) ?_
 show TW _ _ tf99.body _ _
 have hn := ha.1
 have hc1 := Qbr a
 refine Qe fun K hK => Qa Z (hK _ _ (Qb (kp1 Z) ?_))
 refine QF ?_ -- 0
 refine Qe fun K hK => Qa Z (QE (Z7 ha) Z Z (.inr Z) (Yb Z (hK _ _ (Qb (kp2 Z Z) ?_))))
 refine Qz Z (fun h1 => ?_) (fun h1 => ?_)
 ·try rw [h1]
  try simp only [qA] at h1
  refine Qe fun K hK => Qa Z (hK _ _ (Qb (kp1 Z) ?_))
  refine Qs (Qk (ZI Z ?_))
  rw [Qh5, if_neg (by simp [h1])]; rfl
 ·try rw [h1]
  try simp only [qA] at h1
  refine Qu (Qd (kp1 Z) (Qe fun K hK => Qa Z (hK _ _ (Qb (kp2 Z Z) ?_))))
  refine Qe fun K hK => Qa Z (QE (XX ha) Z Z (.inl Z) (Qa Z (hK _ _ (Qb (kp3 Z Z Z) ?_))))
  refine QF ?_ -- 1
  refine Qe fun K hK => Qa Z (hK _ _ (Qb (kp4 Z Z Z Z) ?_))
  refine QH ?_
  refine ZQ (ι := Nat × List (Cu × Cu)) (fun ⟨i, out⟩ => ⟨[(0, ZO a), (3, .osl 3 out.length), (4, QfS (YM a)), (5, .int .i64 i)], [(3, ⟨out.map QdB, 14, 99, true⟩)]⟩) (fun ⟨i, out⟩ => i <= (YM a).length /\ FillI (fun x y => !mIn a x y) (YM a) i out) (fun ⟨i, out⟩ => (YM a).length - i) (0, []) ?_ ?_ ?_
  ·exact le_trans (Xu 3 3 14 99 rfl rfl) (Zp (l := [0, 3, 4, 5]) (lH := [3]) (kp4 rfl rfl rfl rfl) (QB rfl Qx) rfl rfl rfl)
  ·exact ⟨Nat.zero_le _, FillI.zero⟩
  intro ⟨i, out⟩ hI
  obtain ⟨hI1, hI2⟩ := hI
  have hI3 := hI2.1
  try dsimp only
  refine QF ?_ -- 2
  refine Qe fun K hK => Qa Z (Zd Z Z (by first | exact Qq (by omega) (by omega) | rfl) (Qa Z (Q4 Z Z (Yz Z Z (hK _ _ (Qb (kp5 Z Z Z Z Z) ?_))))))
  refine Qz Z (fun h2 => ?_) (fun h2 => ?_)
  ·try rw [h2]
   try simp only [qA] at h2
   refine Qu (Qd (kp4 Z Z Z Z) ?_)
   refine QF ?_ -- 3
   refine QH (Qe fun K hK => Qa Z (Qa Z (Qa Z (QD Z Z Z (by omega) (Q9 (by omega)) Z (Q0 (ds0 := [1, 0]) (cs := [_, _, _, _, _, _, _]) Z Z Z Z Z Z (Qa Z (Qa Z (Zd Z Z (by first | exact Qq (by omega) (by omega) | rfl) (QD Z Z Z (by omega) (QiL (by omega)) Z (Q0 (ds0 := [1, 0]) (cs := [_, _, _, _, _, _, _]) Z Z Z Z Z Z ?_))))))))))
   refine Zj (ds0 := [0]) (Qay ha (Yr ha _ (List.getElem_mem (by omega))) (Yr ha _ (List.getElem_mem (by omega)))) Z Z (.inr Z) Z Z (Yb Z (hK _ _ (Qb (kp5 Z Z Z Z Z) ?_)))
   refine Qz Z (fun h3 => ?_) (fun h3 => ?_)
   ·try rw [h3]
    try simp only [qA] at h3
    refine Q2 fun K hK => Qa rfl (Qa rfl (Qa rfl (QD rfl rfl rfl (by omega) (Q9 (by omega)) rfl (Q0 (ds0 := [1, 0]) (cs := [_, _, _, _, _, _, _]) rfl rfl rfl rfl rfl rfl (Qa rfl (Qa rfl (Zd rfl rfl (by first | exact Qq (by omega) (by omega) | rfl) (QD rfl rfl rfl (by omega) (QiL (by omega)) rfl (Q0 (ds0 := [1, 0]) (cs := [_, _, _, _, _, _, _]) rfl rfl rfl rfl rfl rfl (Qir (ds0 := [0]) (QlW (k := 3) rfl rfl rfl (by decide) rfl (by decide) (by simp [D.ids, D.sid, dCu]) ⟨.osl 3 out.length, by simp, by simp [D.ids, D.sid]⟩ rfl rfl (XY (by omega) hI2.2.1 (Yr ha _ (List.getElem_mem (by omega))) (Yr ha _ (List.getElem_mem (by omega))))) (fun _ h => by cases h) rfl rfl ?_))))))))))
    refine Qa Z (hK _ ?_)
    refine Qh (Qd (kp4 Z Z Z Z) (Q2 fun K hK => Qa Z (Zd Z Z (by first | exact Qq (by omega) (by omega) | rfl) (Qa Z (hK _ ?_)))))
    refine Qj (i + 1, Qbt out (YM a)[i] (YM a)[i + 1]) ?_ ?_ ?_
    ·exact le_trans (Qj8 (l := [0, 4, 5]) (t := 40) (u := 3) 3 (kp3 rfl rfl rfl) rfl rfl rfl rfl) (Zp (l := [0, 3, 4, 5]) (lH := [3]) (kp4 rfl rfl rfl rfl) (QB rfl Qx) rfl rfl rfl)
    ·exact ⟨by omega, hI2.take (Yr ha) (by omega) (by simp; assumption)⟩
    ·show (YM a).length - (i + 1) < (YM a).length - i; omega
   ·try rw [h3]
    try simp only [qA] at h3
    refine Qu (Qh (Qd (kp4 Z Z Z Z) (Q2 fun K hK => Qa Z (Zd Z Z (by first | exact Qq (by omega) (by omega) | rfl) (Qa Z (hK _ ?_))))))
    refine Qj (i + 1, out) ?_ ?_ ?_
    ·exact Zp (l := [0, 3, 4, 5]) (lH := [3]) (kp4 rfl rfl rfl rfl) (QB rfl Qx) rfl rfl rfl
    ·exact ⟨by omega, hI2.skip (by omega) (by simp; assumption)⟩
    ·show (YM a).length - (i + 1) < (YM a).length - i; omega
  ·try rw [h2]
   try simp only [qA] at h2
   refine Zu (QL (Qy (QI (Qd (kp1 Z) (Qe fun K hK => Qa Z (Qa Z (hK _ _ (Qb (kp1 Z) ?_))))))))
   refine Qs (ZI Z ?_)
   rw [Qh5, if_pos h1, hI2.done (by omega)]; simp [X7, D.fz, D.fzS, Qc8, lk, D.can, D.canS, ZO]
end Go.Proofs
namespace Go.Proofs
open Go Go.Abs M3 M25
set_option linter.unusedVariables false
set_option linter.unusedSimpArgs false
theorem Qda {a b : QhE} (h1a : Sm a.1) (h2a : Sm a.2) (h1b : Sm b.1) (h2b : Sm b.2) (hl1 : a.1.length + b.1.length <= 1000000) (hl2 : a.2.length + b.2.length <= 1000000) : Ok Try.prog 81 [Qgw a, Qgw b] (Qgw (Ql5 a b)) := by
 refine Ok.ofT Z2 Try.func81 QpX (Nat.le_of_ble_eq_true Z) ?_
 show TW _ _ tf81.body _ _
 refine Qe fun K hK => ZL Z Z Z (ZL Z Z Z (ZU Z (hK _ _ (Qb (kp3 Z Z Z) ?_))))
 refine QF ?_ -- 0
 refine Qe fun K hK => QR (cs := [_, _]) Z Z Z Z (QE (Y9 h1a h2a) Z Z (.inr Z) (Yb Z (Qa Z ?_)))
 refine QA (g := 8) Z (fun h1 => ?_) (fun h1 => ?_)
 ·try rw [h1]
  try simp only [qB] at h1
  refine Qt Z (Qt Z (Qt Z (Ql Z Z (hK _ _ (Qb (kp4 Z Z Z Z) ?_)))))
  refine ZH Z (Qe fun K hK => QE (Z4) Z Z (.inl Z) (Q6 Z Z Z Z Z Z Z Z (hK _ _ (Qb (kp1 Z) ?_))))
  refine Qs (Qk (Post.eq (ZF (ds := [.sl _, .sl _]) (cs := [_, _]) Z Z Z Z Z) ?_))
  rw [Ql5, if_neg (by simp [h1])]; rfl
 ·try rw [h1]
  try simp only [qB] at h1
  refine Qf Z (QR (cs := [_, _]) Z Z Z Z (Qf Z (QE (Y9 h1b h2b) Z Z (.inr Z) (Qf Z (Yb Z (Ql Z Z (hK _ _ (Qb (kp4 Z Z Z Z) ?_))))))))
  refine Qz Z (fun h2 => ?_) (fun h2 => ?_)
  ·try rw [h2]
   try simp only [qB] at h2
   refine Qe fun K hK => QE (Z4) Z Z (.inl Z) (Q6 Z Z Z Z Z Z Z Z (hK _ _ (Qb (kp1 Z) ?_)))
   refine Qs (Qk (Post.eq (ZF (ds := [.sl _, .sl _]) (cs := [_, _]) Z Z Z Z Z) ?_))
   rw [Ql5, if_neg (by simp [h1, h2])]; rfl
  ·try rw [h2]
   try simp only [qB] at h2
   refine Qu (Qd (kp3 Z Z Z) (Qe fun K hK => Qn Z Z (QP (ds0 := [7, 1, 0]) Z Z Z Z Z (Qn Z Z (QP (ds0 := [7, 1, 0]) Z Z Z Z Z (Zj (ds0 := [1, 0]) (Qax h1a h1b hl1) Z Z (.inl Z) Z Z (Qn Z Z (QP (ds0 := [2, 1, 0]) Z Z Z Z Z (Qn Z Z (QP (ds0 := [2, 1, 0]) Z Z Z Z Z ?_))))))))))
   refine Zj (ds0 := [1, 0]) (Qax h2a h2b hl2) Z Z (.inl Z) Z Z (Q3 Z Z (XJ (ds0 := []) Z Z Z Z Z Z Z Z Z Z (hK _ _ (Qb (kp1 Z) ?_))))
   refine Qs (Post.eq (ZF (ds := [.sl _, .sl _]) (cs := [_, _]) Z Z Z Z Z) ?_)
   rw [Ql5, if_pos ⟨h1, h2⟩]; rfl
theorem Qcx {a : QhE} (h1a : Sm a.1) (h2a : Sm a.2) : Ok Try.prog 83 [Qgw a] (Qgw (Qgb a)) := by
 refine Ok.ofT Z2 Try.func83 QpZ (Nat.le_of_ble_eq_true Z) ?_
 show TW _ _ tf83.body _ _
 refine Qe fun K hK => ZL Z Z Z (ZU Z (hK _ _ (Qb (kp2 Z Z) ?_)))
 refine QF ?_ -- 0
 refine Qe fun K hK => QR (cs := [_, _]) Z Z Z Z (QE (Y9 h1a h2a) Z Z (.inr Z) (Yb Z (hK _ _ (Qb (kp3 Z Z Z) ?_))))
 refine Qz Z (fun h1 => ?_) (fun h1 => ?_)
 ·try rw [h1]
  try simp only [qB] at h1
  refine Qe fun K hK => QE (Z4) Z Z (.inl Z) (Q6 Z Z Z Z Z Z Z Z (hK _ _ (Qb (kp1 Z) ?_)))
  refine Qs (Qk (Post.eq (ZF (ds := [.sl _, .sl _]) (cs := [_, _]) Z Z Z Z Z) ?_))
  rw [Qgb, if_neg (by simp [h1])]; rfl
 ·try rw [h1]
  try simp only [qB] at h1
  refine Qu (Qd (kp2 Z Z) (Qe fun K hK => Qn Z Z (QP (ds0 := [5, 1, 0]) Z Z Z Z Z (Zj (ds0 := [1, 0]) (Qae h1a) Z Z (.inl Z) Z Z (Qn Z Z (QP (ds0 := [2, 1, 0]) Z Z Z Z Z (Zj (ds0 := [1, 0]) (Qae h2a) Z Z (.inl Z) Z Z (Q3 Z Z (XJ (ds0 := []) Z Z Z Z Z Z Z Z Z Z (hK _ _ (Qb (kp1 Z) ?_)))))))))))
  refine Qs (Post.eq (ZF (ds := [.sl _, .sl _]) (cs := [_, _]) Z Z Z Z Z) ?_)
  rw [Qgb, if_pos h1]; rfl
end Go.Proofs
namespace Go.Proofs
open Go Go.Abs M3 M25
set_option linter.unusedVariables false
set_option linter.unusedSimpArgs false
theorem YO {v n : Int} (hn : n <= 9223372036854775807) (hv : I64 v) : Ok Try.prog 11 [.int .i64 v, .int .i64 n] (.int .i64 (mPl v n)) := by
 refine Ok.ofT Z2 Try.func11 QoU (Nat.le_of_ble_eq_true Z) ?_
 show TW _ _ tf11.body _ _
 refine Qe fun K hK => Qa Z (hK _ _ (Qb (kp2 Z Z) ?_))
 refine QF ?_ -- 0
 refine Qe fun K hK => Qa Z (Yz Z Z (hK _ _ (Qb (kp3 Z Z Z) ?_)))
 refine Qz Z (fun h1 => ?_) (fun h1 => ?_)
 ·try rw [h1]
  try simp only [qB] at h1
  refine Qe fun K hK => Qa Z (hK _ _ (Qb (kp1 Z) ?_))
  refine Qs (Qk (Qw Z ?_))
  rw [mPl, if_pos h1]
 ·try rw [h1]
  try simp only [qB] at h1
  refine Qu (Qd (kp2 Z Z) (Qe fun K hK => Qa Z (Qa Z (Qmp Z Z (by omega) (Qa Z (hK _ _ (Qb (kp2 Z Z) ?_)))))))
  refine QF ?_ -- 1
  refine Qe fun K hK => Qa Z (Yz Z Z (hK _ _ (Qb (kp3 Z Z Z) ?_)))
  refine Qz Z (fun h2 => ?_) (fun h2 => ?_)
  ·try rw [h2]
   try simp only [qB] at h2
   refine Qe fun K hK => Qa Z (Qa Z (Zd Z Z (Qq (by have := Int.lt_tmod_of_pos v (show 0 < n by omega); omega) (by have := Int.tmod_lt_of_pos v (show 0 < n by omega); omega)) (Qa Z (hK _ _ (Qb (kp1 Z) ?_)))))
   refine Qs (Qk (Qw Z ?_))
   rw [mPl, if_neg h1, QeF, if_pos h2]
  ·try rw [h2]
   try simp only [qB] at h2
   refine Qu (Qd (kp1 Z) (Qe fun K hK => Qa Z (Qa Z (hK _ _ (Qb (kp1 Z) ?_)))))
   refine Qs (Qw Z ?_)
   rw [mPl, if_neg h1, QeF, if_neg h2]
theorem Qc9 {l : List Int} {i : Int} : Ok Try.prog 58 [Zz l, .int .i64 i] (.int .i64 (QkW l i)) := by
 refine Ok.ofT Z2 Try.func58 QpA (Nat.le_of_ble_eq_true Z) ?_
 show TW _ _ tf58.body _ _
 refine Qe fun K hK => Qa Z (hK _ _ (Qb (kp2 Z Z) ?_))
 refine QF ?_ -- 0
 refine Qe fun K hK => Qa Z (Yz Z Z (Qa Z ?_))
 refine QA (g := 7) Z (fun h1 => ?_) (fun h1 => ?_)
 ·try rw [h1]
  try simp only [qA] at h1
  refine Qt Z (Qt Z (Qt Z (Qt Z (Ql Z Z (hK _ _ (Qb (kp3 Z Z Z) ?_))))))
  refine ZH Z (Qe fun K hK => Qa Z (Qmp Z Z (by omega) (Qa Z (hK _ _ (Qb (kp1 Z) ?_)))))
  refine Qs (Qk (Qw Z ?_))
  rw [QkW, if_pos (by omega)]
 ·try rw [h1]
  try simp only [qA] at h1
  refine Qf Z (Qa Z (Qf Z (Qa Z (Qf Z (Q4 Z Z (Qf Z (QgE Z Z (Ql Z Z (hK _ _ (Qb (kp3 Z Z Z) ?_))))))))))
  refine Qz Z (fun h2 => ?_) (fun h2 => ?_)
  ·try rw [h2]
   try simp only [qA] at h2
   refine Qe fun K hK => Qa Z (Qmp Z Z (by omega) (Qa Z (hK _ _ (Qb (kp1 Z) ?_))))
   refine Qs (Qk (Qw Z ?_))
   rw [QkW, if_pos (by omega)]
  ·try rw [h2]
   try simp only [qA] at h2
   refine Qu (Qd (kp2 Z Z) (Qe fun K hK => Qa Z (Qa Z (QD Z Z Z (by omega) (Zn (by omega) (by omega)) Z (QG Z Z Z (Qa Z (hK _ _ (Qb (kp1 Z) ?_))))))))
   refine Qs (Qw Z ?_)
   exact (Qkc (by omega) (by omega)).symm
theorem Xt {k : Nat} {L : List Int} {I n : Int} (hk : 1000000 <= k) (hL : ∀ x ∈ L, I64 x) (hn : n <= 9223372036854775807) (et : Nat) : OkH Try.prog 28 [.ref k 0 0, .int .i64 n] [(k, gB L I et)] (.int .i64 (nx L I n)) ((k, gB L (nxI I) et) :: [(k, gB L I et)]) := by
 refine OkH.lent hk Z2 Try.func28 Qo8 (Nat.le_of_ble_eq_true Z) Z ?_
 show TW _ _ tf28.body _ _
 refine Qe fun K hK => Qa Z (hK _ _ (Qb (kp2 Z Z) ?_))
 refine Qe fun K hK => Qa Z (Z6 Z Z (Qn Z QdL (QG Z (Ye Qdj Z) Z (Zd Z Z Z (Z6 Z Z (Qn Z QdL (Q6 Z Qdj Z Z Z Z Z Z (hK _ _ (Qb (kp2 Z Z) ?_)))))))))
 refine Qe fun K hK => Qa Z (Z6 Z Z (Qn Z QdL (QP (ds0 := [3, 1, 0]) Z (Ye Qdj Z) Z Z Z (Qa Z (Z6 Z Z (Qn Z QdL (QP (ds0 := [4, 3, 1, 0]) Z (Ye Qdj Z) Z Z Z (Qb7 Z Z Z (Zj (ds0 := [1, 0]) (Qc9) Z Z (.inr Z) Z Z (Qa Z ?_))))))))))
 refine Zj (ds0 := [0]) (YO hn (Qlp hL (QkT _))) Z Z (.inr Z) Z Z (Qa Z (hK _ _ (Qb (kp1 Z) ?_)))
 refine Qs ?_
 exact X3 rfl rfl (Qm0 Qdj)
end Go.Proofs
namespace Go.Proofs
open Go Go.Abs M3 M25
set_option linter.unusedVariables false
set_option linter.unusedSimpArgs false
theorem Y7  : Ok Try.prog 23 [] (.sl (versions.map dVr)) := by
 refine Ok.ofT Z2 Try.func23 Qo3 (Nat.le_of_ble_eq_true Z) ?_
 show TW _ _ tf23.body _ _
 refine Qe fun K hK => Qa Z (hK _ _ (Qb (QO) ?_))
 refine Qe fun K hK => Q3 Z Z (Q3 Z Z (Q3 Z Z (Q3 Z Z (QN Z Z (Qa Z (hK _ _ (Qb (kp1 Z) ?_)))))))
 refine Qs (ZI Z ?_)
 rfl
end Go.Proofs
namespace M25
open Go Go.Abs M3
structure WantT where
 u : Int
 s : QhE
structure CandT where
 v : Vr
 sh : Int
 ns : List (List WantT)
 bs : List WantT
structure Yi where
 n : List UInt8
 f : List UInt8
 cs : List CandT
abbrev Zo := List Yi
def QeW (x : WantT) : List D := [.int .i64 x.u, ZO x.s.1, ZO x.s.2]
def Q7 (l : List WantT) : D := .sl (l.map QeW)
def QQ (l : List (List WantT)) : D := .sl (l.map fun r => [Q7 r])
def Qon (c : CandT) : List D := [.int .i64 c.v.a, .int .i64 c.v.b, .int .i64 c.v.c, .str c.v.p, .str c.v.q, .int .i64 c.sh, QQ c.ns, Q7 c.bs]
def Qix (l : List CandT) : D := .sl (l.map Qon)
def YC (u : Yi) : List D := [.str u.n, .str u.f, Qix u.cs]
def QcE (w : Zo) : D := .agg [.sl (w.map YC)]
structure QeT where
 u : Int
 m : Int
 deriving DecidableEq
structure Qa6 where
 u : Int
 m : Int
 l : Int
 c : Int
 deriving DecidableEq
structure RowT where
 k : Int
 u : Int
 a : Int
 b : Int
 t : List QeT
abbrev QoQ (a b : Int) : Int := Qdi .andNot .i64 a b
def uAt (w : Zo) (u : Int) : Option Yi := if u < 0 then none else w[u.toNat]?
def QnM (w : Zo) (u : Int) : Int := match uAt w u with
 | none => 0
 | some x => 2 ^ (min x.cs.length 16 + 1) - 1
def Qd1 (v : Vr) : Prop := v.p.length <= 1000000 /\ v.q.length <= 1000000
structure WSm (w : Zo) : Prop where
 len : w.length <= 48
 cs : ∀ u ∈ w, u.cs.length <= 16
 vs : ∀ u ∈ w, ∀ c ∈ u.cs, Qd1 c.v
 ns : ∀ u ∈ w, ∀ c ∈ u.cs, c.ns.length <= 1000 /\ c.bs.length <= 1000
 nl : ∀ u ∈ w, ∀ c ∈ u.cs, ∀ r ∈ c.ns, r.length <= 1000
 nw : ∀ u ∈ w, ∀ c ∈ u.cs, ∀ r ∈ c.ns, ∀ x ∈ r, Sm x.s.1 /\ Sm x.s.2
 bw : ∀ u ∈ w, ∀ c ∈ u.cs, ∀ x ∈ c.bs, Sm x.s.1 /\ Sm x.s.2
def inW (w : Zo) (u : Int) : Bool := decide (0 <= u) && decide (u < w.length)
/-! ### Trails -/
def Qe2 (w : Zo) (l : List Qa6) (u : Int) : Int := l.foldl (fun a s => if s.u = u /\ inW w u = true then s.m else a) (QnM w u)
def QnN (l : List Qa6) : Int := match l.getLast? with
 | none => 0
 | some s => s.l
def Qlr (l : List Qa6) (u : Int) : Bool := l.any fun s => decide (s.u = u) && decide (s.c = -1)
def Qor (w : Zo) (l : List Qa6) (inc : List QeT) : Bool := inc.all fun t => decide (Qhk (Qe2 w l t.u) t.m = 2)
def Qgf (have_ : Int -> Int) : List QeT -> Int -> Int
 | [], at_ => at_
 | t :: r, at_ => if Qhk (have_ t.u) t.m = 0 then -1 else if Qhk (have_ t.u) t.m = 1 then (if 0 <= at_ then -1 else Qgf have_ r t.u) else Qgf have_ r at_
def QnO (w : Zo) (l : List Qa6) (inc : List QeT) : Int := Qgf (Qe2 w l) inc (-1)
def Qi0 (w : Zo) (l : List Qa6) : Nat -> List (List QeT) -> Int × Int
 | _, [] => (-1, -1)
 | i, x :: r => if Qor w l x = true then (i, -1) else if 0 <= QnO w l x then (i, QnO w l x) else Qi0 w l (i + 1) r
def Qoq (w : Zo) (db : List (List QeT)) (l : List Qa6) : Int × Int := Qi0 w l 0 db
end M25
namespace M25
open Go Go.Abs M3
section
variable {fr : List (Nat × D)} {H : List (Nat × Box)} {t u : Nat}
theorem Qk2 {k n : Nat} {b : Box} {d : D} (hb : lk H k = some b) (hp : b.pr = true) (hn : n = b.rows.length) (hd : .sl b.rows = d) : X7 ⟨fr, H⟩ (.osl k n) = d := by
 unfold X7; rw [Qop (S := Qc8) rfl hb hp hn]; exact hd
theorem QcU {e : Yx} {k n : Nat} {b : Box} {d : D} (h : lk fr t = some (.osl k n)) (hb : lk H k = some b) (hp : b.pr = true) (hn : n = b.rows.length) (hd : .sl b.rows = d) (he : e = .ret \/ e = .normal := by first | exact .inl rfl | exact .inr rfl) : Post [.tmp t] d e ⟨fr, H⟩ :=
 ZI h (Qk2 hb hp hn hd) he
end
theorem QhC {α : Type} {a b : List α} {i : Nat} (ha : i < a.length) (hb : i < b.length) (h : a.take i = b.take i) (he : a[i] = b[i]) : a.take (i + 1) = b.take (i + 1) := by
 rw [List.take_succ_eq_append_getElem ha, List.take_succ_eq_append_getElem hb, h, he]
theorem QkF {α : Type} [DecidableEq α] {a b : List α} {i : Nat} (ha : i < a.length) (hb : i < b.length) (he : ¬ a[i] = b[i]) : decide (a = b) = false := decide_eq_false fun e => he (by subst e; rfl)
theorem Qja {e : Int} (h1 : 0 <= e) (h2 : e <= 18446744073709551615) : IntKind.u64.wrap e = e := by
 unfold IntKind.wrap
 simp only [IntKind.bits, IntKind.signed, Bool.false_and, Bool.false_eq_true, if_false]
 omega
end M25
namespace M25
open Go Go.Abs M3
end M25
namespace M25
open Go Go.Abs M3
/-! ### Bits of numbers -/
def tb (x : Int) (i : Nat) : Bool := (BitVec.ofInt 64 x).getLsbD i
def Lo (x : Int) : Prop := 0 <= x /\ x < 131072
end M25
namespace M25
open Go Go.Abs M3
/-! ### Trails: the loops' laws -/
def Qnl (w : Zo) (l : List Qa6) : Prop := ∀ s ∈ l, Lo s.m
end M25
namespace M25
open Go Go.Abs M3
end M25
namespace Go.Proofs
open Go Go.Abs M3 M25
set_option linter.unusedVariables false
set_option linter.unusedSimpArgs false
end Go.Proofs
namespace M25
open Go Go.Abs M3
/-! ### prop: what is left of each unit, scans -/
structure Qnk (w : Zo) (db : List (List QeT)) (l : List Qa6) (a : Nat) (k : Nat) : Prop where
  ha : a < db.length
  hk : k < db[a].length
  eq : Qoq w db l = ((a : Int), db[a][k].u)
  one : Qhk (Qe2 w l db[a][k].u) db[a][k].m = 1
  two : ∀ j, ∀ hj : j < db[a].length, j ≠ k -> Qhk (Qe2 w l db[a][j].u) db[a][j].m = 2
def QoR (w : Zo) (l : List Qa6) (t : QeT) (c : Int) : Qa6 := ⟨t.u, QoQ (Qe2 w l t.u) t.m, QnN l, c⟩
end M25
namespace M25
open Go Go.Abs M3
/-! ### Sets that are made: moderate sizes -/
theorem Qlg (l : List (Cu × Cu)) (x y : Cu) : (Qbt l x y).length <= l.length + 1 := Qhd l x y
theorem QfW (f : Cu -> Cu -> Bool) : ∀ (c : List Cu) (out : List (Cu × Cu)), (∀ x ∈ c, Cu.sm x) -> (∀ s ∈ out, Cu.sm s.1 /\ Cu.sm s.2) -> (Qbs f c out).length <= out.length + c.length /\ ∀ s ∈ Qbs f c out, Cu.sm s.1 /\ Cu.sm s.2
 | [], out, _, h => ⟨by simp [Qbs], by simpa [Qbs] using h⟩
 | [x], out, _, h => ⟨by simp [Qbs], by simpa [Qbs] using h⟩
 | x :: y :: r, out, hc, h => by
  rw [Qbs]
  have hxy := Qlg out x y
  split
  ·obtain ⟨h1, h2⟩ := QfW f (y :: r) (Qbt out x y) (fun z hz => hc z (by simp at hz ⊢; exact .inr hz)) (QiQ h (hc x (by simp)) (hc y (by simp)))
   exact ⟨by simp only [List.length_cons] at h1 ⊢; omega, h2⟩
  ·obtain ⟨h1, h2⟩ := QfW f (y :: r) out (fun z hz => hc z (by simp at hz ⊢; exact .inr hz)) h
   exact ⟨by simp only [List.length_cons] at h1 ⊢; omega, h2⟩
def SmN (n : Nat) (l : List (Cu × Cu)) : Prop := l.length <= n /\ ∀ s ∈ l, Cu.sm s.1 /\ Cu.sm s.2
theorem SmN.sm {n : Nat} {l : List (Cu × Cu)} (h : SmN n l) (hn : n <= 1000000) : Sm l := ⟨Nat.le_trans h.1 hn, h.2⟩
theorem SmN.up {n m : Nat} {l : List (Cu × Cu)} (h : SmN n l) (hn : n <= m) : SmN m l := ⟨Nat.le_trans h.1 hn, h.2⟩
theorem SmN.nil (n : Nat) : SmN n [] := ⟨Nat.zero_le _, by simp⟩
theorem Qma {a b : List (Cu × Cu)} {n m : Nat} (ha : SmN n a) (hb : SmN m b) (h : n + m <= 1000000) : SmN (2 + 2 * (n + m)) (Ql4 a b) := by
 unfold Ql4
 split
 ·have hab : Sm (a ++ b) := (ha.sm (by omega)).app (hb.sm (by omega)) (by have := ha.1; have := hb.1; omega)
  unfold Qh4
  split
  ·obtain ⟨h1, h2⟩ := QfW (mIn (a ++ b)) (YM (a ++ b)) [] (Yr hab) (by simp)
   have := Qbr (a ++ b)
   have := ha.1
   have := hb.1
   exact ⟨by simp only [List.length_nil, List.length_append] at *; omega, h2⟩
  ·exact SmN.nil _
 ·exact SmN.nil _
theorem Qkl {a : List (Cu × Cu)} {n : Nat} (ha : SmN n a) (h : n <= 1000000) : SmN (2 + 2 * n) (Qh5 a) := by
 unfold Qh5
 split
 ·obtain ⟨h1, h2⟩ := QfW (fun x y => !mIn a x y) (YM a) [] (Yr (ha.sm h)) (by simp)
  have := Qbr a
  have := ha.1
  exact ⟨by simp only [List.length_nil] at *; omega, h2⟩
 ·exact SmN.nil _
def Qje (n : Nat) (s : QhE) : Prop := SmN n s.1 /\ SmN n s.2
theorem QnR {a b : QhE} {n m : Nat} (ha : Qje n a) (hb : Qje m b) (h : n + m <= 1000000) : Qje (2 + 2 * (n + m)) (Ql5 a b) := by
 unfold Ql5
 split
 ·exact ⟨Qma ha.1 hb.1 h, Qma ha.2 hb.2 h⟩
 ·exact ⟨SmN.nil _, SmN.nil _⟩
theorem Qkm {a : QhE} {n : Nat} (ha : Qje n a) (h : n <= 1000000) : Qje (2 + 2 * n) (Qgb a) := by
 unfold Qgb
 split
 ·exact ⟨Qkl ha.1 h, Qkl ha.2 h⟩
 ·exact ⟨SmN.nil _, SmN.nil _⟩
theorem QbP (e a b c : Int) (f : Bool) : Cu.sm ⟨e, a, b, c, [], [], f⟩ := ⟨Nat.zero_le _, Nat.zero_le _⟩
theorem QbI {a b c : Int} {p q : List UInt8} (hp : p.length <= 1000000) : Qje 1 (Y4 a b c p q) := by
 unfold Y4
 split
 ·exact ⟨SmN.nil _, SmN.nil _⟩
 ·split
  ·refine ⟨SmN.nil _, ⟨Nat.le_refl _, fun s hs => ?_⟩⟩
   simp only [List.mem_singleton] at hs; subst hs
   exact ⟨⟨hp, Nat.zero_le _⟩, ⟨hp, Nat.zero_le _⟩⟩
  ·refine ⟨⟨Nat.le_refl _, fun s hs => ?_⟩, SmN.nil _⟩
   simp only [List.mem_singleton] at hs; subst hs
   constructor
   ·unfold QeD; split
    ·exact QbP ..
    ·exact QbP ..
   ·unfold QcP; split
    ·exact QbP ..
    ·exact QbP ..
def QjG : QhE := ([(Qb1, Qe0)], [(Qb1, Qe0)])
theorem QlR : Qje 1 QjG := by
 have h : SmN 1 [(Qb1, Qe0)] := ⟨Nat.le_refl _, fun s hs => by simp only [List.mem_singleton] at hs; subst hs; exact ⟨QbP .., QbP ..⟩⟩
 exact ⟨h, h⟩
def bnd (i : Nat) : Nat := 4 * 2 ^ i
theorem QlV {i : Nat} (h : i <= 16) : bnd i <= 262144 := by
 have : 2 ^ i <= 2 ^ 16 := Nat.pow_le_pow_right (by omega) h
 have e : (2 : Nat) ^ 16 = 65536 := by decide
 unfold bnd; omega
theorem QnW {s : QhE} {i : Nat} (h : Qje (bnd i - 4) s) {a b c : Int} {p q : List UInt8} (hp : p.length <= 1000000) (hi : i <= 16) : Qje (bnd (i + 1) - 4) (Ql5 s (Y4 a b c p q)) := by
 have h1 := QlV hi
 have h4 : 4 <= bnd i := by unfold bnd; have := Nat.one_le_two_pow (n := i); omega
 have := QnR h (QbI (a := a) (b := b) (c := c) (q := q) hp) (by omega)
 have e : bnd (i + 1) = 2 * bnd i := by unfold bnd; rw [Nat.pow_succ]; omega
 exact ⟨this.1.up (by omega), this.2.up (by omega)⟩
theorem QlH {s : QhE} {i : Nat} (h : Qje (bnd i - 4) s) : Qje (bnd (i + 1) - 4) s := by
 have e : bnd (i + 1) = 2 * bnd i := by unfold bnd; rw [Nat.pow_succ]; omega
 exact ⟨h.1.up (by omega), h.2.up (by omega)⟩
def SetOk (s : QhE) : Prop := Qje 600000 s
theorem SetOk.sm {s : QhE} (h : SetOk s) : Sm s.1 /\ Sm s.2 := ⟨h.1.sm (by omega), h.2.sm (by omega)⟩
structure CR where
 v : Vr
 x : D
 y : D
 z : D
def dCR (r : CR) : List D := [.int .i64 r.v.a, .int .i64 r.v.b, .int .i64 r.v.c, .str r.v.p, .str r.v.q, r.x, r.y, r.z]
def CR.ren (r : CR) : CR := ⟨r.v, r.x.renS upN, r.y.renS upN, r.z.renS upN⟩
theorem QjN (l : List CR) : (l.map dCR).map (fun r => r.map (D.renS upN)) = (l.map CR.ren).map dCR := by
 rw [List.map_map, List.map_map]; rfl
structure UR where
 n : List UInt8
 f : List UInt8
 k : Nat
 cs : List CR
def dUR (u : UR) : List D := [.str u.n, .str u.f, .osl u.k u.cs.length]
def UR.ren (u : UR) : UR := ⟨u.n, u.f, upN u.k, u.cs.map CR.ren⟩
theorem QmG (l : List UR) : (l.map dUR).map (fun r => r.map (D.renS upN)) = (l.map UR.ren).map dUR := by
 rw [List.map_map, List.map_map]
 refine List.map_congr_left fun u _ => ?_
 simp [dUR, UR.ren, D.renS]
structure Fam (H : List (Nat × Box)) (kg ku eu ec : Nat) (us : List UR) : Prop where
 ne : ku ≠ kg
 u : ∃ pr, lk H ku = some ⟨us.map dUR, 3, eu, pr⟩
 c : ∀ y ∈ us, y.k ≠ kg /\ ∃ pr, lk H y.k = some ⟨y.cs.map dCR, 8, ec, pr⟩
 v : ∀ y ∈ us, y.cs.length <= 16 /\ ∀ z ∈ y.cs, Qd1 z.v
theorem Fam.up {H : List (Nat × Box)} {kg ku eu ec : Nat} {us : List UR} (h : Fam H kg ku eu ec us) : Fam (upH H) (upN kg) (upN ku) eu ec (us.map UR.ren) := by
 obtain ⟨h1, ⟨pu, h2⟩, h3, h4⟩ := h
 refine ⟨fun e => h1 (Qil e), ⟨pu, ?_⟩, fun y hy => ?_, fun y hy => ?_⟩
 ·rw [Qai, h2, Option.map_some, Box.ren, QmG]
 ·obtain ⟨u, hu, rfl⟩ := List.mem_map.1 hy
  obtain ⟨q1, pr, q2⟩ := h3 u hu
  refine ⟨fun e => q1 (Qil e), pr, ?_⟩
  show lk (upH H) (upN u.k) = _
  rw [Qai, q2, Option.map_some, Box.ren, QjN]; rfl
 ·obtain ⟨u, hu, rfl⟩ := List.mem_map.1 hy
  obtain ⟨q1, q2⟩ := h4 u hu
  refine ⟨by simpa [UR.ren] using q1, fun z hz => ?_⟩
  obtain ⟨z0, hz0, rfl⟩ := List.mem_map.1 hz
  exact q2 z0 hz0
theorem Fam.cons {H : List (Nat × Box)} {kg ku eu ec : Nat} {us : List UR} (h : Fam H kg ku eu ec us) {b : Box} : Fam ((kg, b) :: H) kg ku eu ec us := by
 obtain ⟨h1, ⟨pu, h2⟩, h3, h4⟩ := h
 exact ⟨h1, ⟨pu, Qi (Ne.symm h1) h2⟩, fun y hy => let ⟨q1, pr, q2⟩ := h3 y hy; ⟨q1, pr, Qi (Ne.symm q1) q2⟩, h4⟩
def WantIn (n : Nat) (x : WantT) : Prop := 1 <= x.u /\ x.u < n /\ SetOk x.s
def QgI (n : Nat) (r : List WantT) : Prop := r.length <= 2 /\ ∀ x ∈ r, WantIn n x
def QdX (n : Nat) (m : Int) (ns : List (List WantT)) : Prop := (ns.length : Int) <= m /\ ∀ r ∈ ns, QgI n r
theorem QmU {n : Nat} {x : WantT} (h : WantIn n x) : QgI n [x] := ⟨by simp, by intro y hy; simp only [List.mem_singleton] at hy; subst hy; exact h⟩
theorem QmV {n : Nat} {x y : WantT} (h : WantIn n x) (h' : WantIn n y) : QgI n [x, y] := ⟨by simp, by
 intro z hz
 simp only [List.mem_cons, List.not_mem_nil, or_false] at hz
 rcases hz with rfl | rfl
 ·exact h
 ·exact h'⟩
theorem QkB {n : Nat} {ns : List (List WantT)} {r : List WantT} (h : ∀ r ∈ ns, QgI n r) (hr : QgI n r) : ∀ x ∈ ns ++ [r], QgI n x := fun x hx => by
 rcases List.mem_append.1 hx with hx | hx
 ·exact h x hx
 ·simp only [List.mem_singleton] at hx; subst hx; exact hr
end M25
namespace M25
open Go Go.Abs M3
/-! ### The boxes of a world under way -/
def fbx (ec : Nat) (us : List UR) : List (Nat × Box) := us.map fun u => (u.k, ⟨u.cs.map dCR, 8, ec, true⟩)
def Z5 (us : List UR) : Prop := ∀ j, ∀ h : j < us.length, us[j].k = 500001 + j
theorem Qg8 {us : List UR} {u : UR} (h : Z5 us) (hu : u.k = 500001 + us.length) : Z5 (us ++ [u]) := fun j hj => by
 rw [List.length_append, List.length_singleton] at hj
 by_cases e : j < us.length
 ·rw [List.getElem_append_left e]; exact h j e
 ·have : j = us.length := by omega
  subst this
  rw [List.getElem_append_right (Nat.le_refl _)]; simpa using hu
theorem Qeo (ec : Nat) (us : List UR) : QkZ (fbx ec us) := fun p hp => by
 obtain ⟨u, _, rfl⟩ := List.mem_map.1 hp; rfl
theorem Qfn {ec : Nat} : ∀ {us : List UR} {k : Nat} {b : Box}, lk (fbx ec us) k = some b -> ∃ u ∈ us, k = u.k /\ b = ⟨u.cs.map dCR, 8, ec, true⟩
 | [], _, _, h => by cases h
 | u :: us, k, b, h => by
  simp only [fbx, List.map_cons] at h
  rw [Qm] at h
  split at h
  ·rename_i e; cases h; exact ⟨u, by simp, e.symm, rfl⟩
  ·obtain ⟨v, hv, q⟩ := Qfn (us := us) h
   exact ⟨v, by simp [hv], q⟩
theorem QaR {us : List UR} (h : Z5 us) {u : UR} (hu : u ∈ us) : 500001 <= u.k /\ u.k < 500001 + us.length := by
 obtain ⟨j, hj, rfl⟩ := List.getElem_of_mem hu
 have := h j hj
 omega
theorem QfU {ec : Nat} {us : List UR} (h : Z5 us) : QoJ 500001 (fbx ec us) := fun k b hk => by
 obtain ⟨u, hu, rfl, _⟩ := Qfn hk
 exact (QaR h hu).1
theorem YK {ec : Nat} {us : List UR} (h : Z5 us) {k : Nat} (hk : k < 500001 \/ 500001 + us.length <= k) : lk (fbx ec us) k = none := by
 cases hh : lk (fbx ec us) k with
 | none => rfl
 | some b =>
  obtain ⟨u, hu, rfl, _⟩ := Qfn hh
  have := QaR h hu
  omega
theorem QjS {ec : Nat} : ∀ {us : List UR} {n : Nat}, (∀ j, ∀ h : j < us.length, us[j].k = n + j) -> ∀ j, ∀ h : j < us.length, lk (fbx ec us) (n + j) = some ⟨us[j].cs.map dCR, 8, ec, true⟩
 | [], _, _, j, hj => by simp at hj
 | u :: us, n, hk, 0, _ => by
  have := hk 0 (by simp)
  simp only [List.getElem_cons_zero, Nat.add_zero] at this
  simp only [fbx, List.map_cons, Nat.add_zero]
  rw [Qm, if_pos this]; rfl
 | u :: us, n, hk, j + 1, hj => by
  have h0 := hk 0 (by simp)
  simp only [List.getElem_cons_zero, Nat.add_zero] at h0
  simp only [fbx, List.map_cons]
  rw [Qm, if_neg (by omega)]
  have := QjS (ec := ec) (us := us) (n := n + 1) (fun i hi => by
   have := hk (i + 1) (by simpa using hi)
   simp only [List.getElem_cons_succ] at this
   omega) j (by simpa using hj)
  rw [show n + 1 + j = n + (j + 1) by omega] at this
  simp only [List.getElem_cons_succ]
  exact this
theorem QjR {ec : Nat} {us : List UR} (h : Z5 us) {j : Nat} (hj : j < us.length) : lk (fbx ec us) (500001 + j) = some ⟨us[j].cs.map dCR, 8, ec, true⟩ := QjS h j hj
theorem QiD (ec : Nat) (us : List UR) (u : UR) : fbx ec (us ++ [u]) = fbx ec us ++ [(u.k, ⟨u.cs.map dCR, 8, ec, true⟩)] := by simp [fbx]
theorem Qk9 {ec : Nat} {us : List UR} (h : Z5 us) {kg : Nat} {x y : Box} {u : UR} (hu : u.k = 500001 + us.length) (hkg : u.k ≠ kg) (k : Nat) :
  lk ((u.k, ⟨u.cs.map dCR, 8, ec, true⟩) :: (500000, x) :: (kg, y) :: fbx ec us) k = lk ((500000, x) :: (kg, y) :: fbx ec (us ++ [u])) k := by
 rw [QiD]
 by_cases e : u.k = k
 ·subst e
  rw [Qv, Qm, if_neg (by omega), Qm, if_neg (Ne.symm hkg), YL (YK h (.inr (by omega))), Qv]
 ·rw [Qm, if_neg e, Qm, Qm, Qm, Qm]
  split
  ·rfl
  ·split
   ·rfl
   ·rw [ZV]
    cases h2 : lk (fbx ec us) k with
    | some v => rfl
    | none => rw [Qm, if_neg e]; rfl
def zr (v : Vr) (sh : Int) : CR := ⟨v, .int .i64 sh, .fsl [], .fsl []⟩
def Qni (u : UR) : Prop := u.cs.length <= 4 /\ ∀ z ∈ u.cs, ∃ v sh, z = zr v sh /\ Qd1 v
theorem Ql0 {u : UR} : (dUR u).flatMap D.sid = [u.k] := by simp [dUR, D.sid]
theorem Qa0 {us : List UR} {e et : Nat} {k : Nat} (h : k ∈ (Box.ids ⟨us.map dUR, e, et, false⟩)) : ∃ u ∈ us, k = u.k := by
 simp only [Box.ids, Bool.false_eq_true, if_false, List.mem_flatMap, List.mem_map] at h
 obtain ⟨r, ⟨u, hu, rfl⟩, hk⟩ := h
 have : k ∈ (dUR u).flatMap D.sid := List.mem_flatMap.2 hk
 rw [Ql0] at this
 exact ⟨u, hu, by simpa using this⟩
theorem Qm4 {us : List UR} (h : Z5 us) : ∀ r ∈ us.map dUR, ∀ d ∈ r, 500000 ∉ d.sid := fun r hr d hd hk => by
 obtain ⟨u, hu, rfl⟩ := List.mem_map.1 hr
 have : 500000 ∈ (dUR u).flatMap D.sid := List.mem_flatMap.2 ⟨d, hd, hk⟩
 rw [Ql0] at this
 have h2 := QaR h hu
 simp only [List.mem_singleton] at this
 omega
theorem QfH {B F : List (Nat × Box)} {j : Nat} (h : (lk F j).isSome = true) : (lk (B ++ F) j).isSome = true := by
 rw [ZV]; split
 ·rfl
 ·exact h
theorem QcG {ec : Nat} {us : List UR} (h : Z5 us) {u : UR} (hu : u ∈ us) : (lk (fbx ec us) u.k).isSome = true := by
 obtain ⟨j, hj, rfl⟩ := List.getElem_of_mem hu
 rw [h j hj, QjR h hj]; rfl
theorem QfV {ec : Nat} {us : List UR} {u : UR} (h : Z5 us) (hu : u.k = 500001 + us.length) : lk (fbx ec (us ++ [u])) (500001 + us.length) = some ⟨u.cs.map dCR, 8, ec, true⟩ := by
 rw [QiD, YL (YK h (.inr (Nat.le_refl _))), <- hu, Qv]
section
variable {l : List Nat} {fr fr1 fr' : List (Nat × D)} {B : List (Nat × Box)} {kg eg eu ec : Nat} {L : List Int} {J : Int} {us : List UR}
theorem QoN (hf : Zc l fr = fr1) (ef : fr1 = fr') (hK : Z5 us) (hu : lk B 500000 = some ⟨us.map dUR, 3, eu, false⟩) (hg : lk B kg = some (gB L J eg)) (hB : ∀ p ∈ B, 500001 <= p.1 -> p.1 = kg) (hkg : kg ≠ 500000)
  (hfr : ∀ p ∈ fr', ∀ k ∈ p.2.ids, k = 500000 \/ k = kg \/ ∃ u ∈ us, k = u.k) : St.le ⟨fr, B ++ fbx ec us⟩ ⟨fr', [(500000, ⟨us.map dUR, 3, eu, false⟩), (kg, gB L J eg)] ++ fbx ec us⟩ := by
 have s0 : ∀ k, (k = 500000 \/ k = kg \/ ∃ u ∈ us, k = u.k) -> (lk ([(500000, (⟨us.map dUR, 3, eu, false⟩ : Box)), (kg, gB L J eg)] ++ fbx ec us) k).isSome = true := fun k hk => by
  rcases hk with rfl | rfl | ⟨u, hu, rfl⟩
  ·exact QU
  ·exact QS QU
  ·exact QfH (QcG hK hu)
 refine Qh2 (N := 500001) hf ef (fun p hp => ?_) rfl (fun p hp j hj => s0 j ?_) (fun p hp h => ?_) (QfU hK) (Qeo ec us) (fun p hp k hk => s0 k (hfr p hp k hk))
 ·simp only [List.mem_cons, List.not_mem_nil, or_false] at hp
  rcases hp with rfl | rfl
  ·exact hu
  ·exact hg
 ·simp only [List.mem_cons, List.not_mem_nil, or_false] at hp
  rcases hp with rfl | rfl
  ·exact .inr (.inr (Qa0 hj))
  ·simp [Box.ids, gB] at hj
 ·rw [hB p hp h]; exact QS QU
theorem Qng {cs : List CR} (hf : Zc l fr = fr1) (ef : fr1 = fr') (hK : Z5 us) (hc : lk B (500001 + us.length) = some ⟨cs.map dCR, 8, ec, true⟩) (hu : lk B 500000 = some ⟨us.map dUR, 3, eu, false⟩) (hg : lk B kg = some (gB L J eg)) (hB : ∀ p ∈ B, 500001 <= p.1 -> p.1 = kg \/ p.1 = 500001 + us.length)
  (hfr : ∀ p ∈ fr', ∀ k ∈ p.2.ids, k = 500000 \/ k = kg \/ k = 500001 + us.length \/ ∃ u ∈ us, k = u.k) : St.le ⟨fr, B ++ fbx ec us⟩ ⟨fr', [(500001 + us.length, ⟨cs.map dCR, 8, ec, true⟩), (500000, ⟨us.map dUR, 3, eu, false⟩), (kg, gB L J eg)] ++ fbx ec us⟩ := by
 have s0 : ∀ k, (k = 500000 \/ k = kg \/ k = 500001 + us.length \/ ∃ u ∈ us, k = u.k) -> (lk ([(500001 + us.length, (⟨cs.map dCR, 8, ec, true⟩ : Box)), (500000, (⟨us.map dUR, 3, eu, false⟩ : Box)), (kg, gB L J eg)] ++ fbx ec us) k).isSome = true := fun k hk => by
  rcases hk with rfl | rfl | rfl | ⟨u, hu, rfl⟩
  ·exact QS QU
  ·exact QS (QS QU)
  ·exact QU
  ·exact QfH (QcG hK hu)
 refine Qh2 (N := 500001) hf ef (fun p hp => ?_) rfl (fun p hp j hj => s0 j ?_) (fun p hp h => ?_) (QfU hK) (Qeo ec us) (fun p hp k hk => s0 k (hfr p hp k hk))
 ·simp only [List.mem_cons, List.not_mem_nil, or_false] at hp
  rcases hp with rfl | rfl | rfl
  ·exact hc
  ·exact hu
  ·exact hg
 ·simp only [List.mem_cons, List.not_mem_nil, or_false] at hp
  rcases hp with rfl | rfl | rfl
  ·simp [Box.ids] at hj
  ·exact .inr (.inr (.inr (Qa0 hj)))
  ·simp [Box.ids, gB] at hj
 ·rcases hB p hp h with e | e
  ·rw [e]; exact QS (QS QU)
  ·rw [e]; exact QU
theorem Qn0 {u : UR} (hf : Zc l fr = fr1) (ef : fr1 = fr') (hK : Z5 us) (huk : u.k = 500001 + us.length) (hc : lk B (500001 + us.length) = some ⟨u.cs.map dCR, 8, ec, true⟩) (hu : lk B 500000 = some ⟨(us ++ [u]).map dUR, 3, eu, false⟩) (hg : lk B kg = some (gB L J eg)) (hB : ∀ p ∈ B, 500001 <= p.1 -> p.1 = kg \/ p.1 = 500001 + us.length) (hkg : 1000000 <= kg) (hlen : us.length <= 100)
  (hfr : ∀ p ∈ fr', ∀ k ∈ p.2.ids, k = 500000 \/ k = kg \/ ∃ v ∈ us ++ [u], k = v.k) : St.le ⟨fr, B ++ fbx ec us⟩ ⟨fr', [(500000, ⟨(us ++ [u]).map dUR, 3, eu, false⟩), (kg, gB L J eg)] ++ fbx ec (us ++ [u])⟩ := by
 have hK1 := Qg8 hK huk
 have mv := fun k => Qk9 (ec := ec) hK (kg := kg) (x := ⟨(us ++ [u]).map dUR, 3, eu, false⟩) (y := gB L J eg) huk (by omega) k
 have s0 : ∀ k, (k = 500000 \/ k = kg \/ ∃ v ∈ us ++ [u], k = v.k) -> (lk ([(u.k, (⟨u.cs.map dCR, 8, ec, true⟩ : Box)), (500000, (⟨(us ++ [u]).map dUR, 3, eu, false⟩ : Box)), (kg, gB L J eg)] ++ fbx ec us) k).isSome = true := fun k hk => by
  show (lk ((u.k, _) :: (500000, _) :: (kg, _) :: fbx ec us) k).isSome = true
  rw [mv]
  rcases hk with rfl | rfl | ⟨v, hv, rfl⟩
  ·exact QU
  ·exact QS QU
  ·exact QS (QS (QcG hK1 hv))
 refine le_trans (Qh2 (N := 500001) (A' := [(u.k, ⟨u.cs.map dCR, 8, ec, true⟩), (500000, ⟨(us ++ [u]).map dUR, 3, eu, false⟩), (kg, gB L J eg)]) hf ef (fun p hp => ?_) rfl (fun p hp j hj => s0 j ?_) (fun p hp h => ?_) (QfU hK) (Qeo ec us) (fun p hp k hk => s0 k (hfr p hp k hk))) (Qh0 ⟨fun _ => rfl, mv⟩)
 ·simp only [List.mem_cons, List.not_mem_nil, or_false] at hp
  rcases hp with rfl | rfl | rfl
  ·rw [huk]; exact hc
  ·exact hu
  ·exact hg
 ·simp only [List.mem_cons, List.not_mem_nil, or_false] at hp
  rcases hp with rfl | rfl | rfl
  ·simp [Box.ids] at hj
  ·exact .inr (.inr (Qa0 hj))
  ·simp [Box.ids, gB] at hj
 ·rcases hB p hp h with e | e
  ·rw [e]; exact QS (QS QU)
  ·rw [e, <- huk]; exact QU
end
def u0 (v : Vr) : UR := ⟨[], [], 500001, [zr v (-1)]⟩
def v0 : Vr := ⟨0, 0, 0, [], []⟩
theorem QlL {kg a b : Nat} (h : 1000000 <= kg) (ha : a < 1000000) (hb : b < 1000000) : Qa9 a b kg = kg := by
 unfold Qa9; rw [if_neg (by omega), if_neg (by omega)]
theorem Qkb {l : List Nat} {fr fr1 fr' : List (Nat × D)} {kg eg eu ec : Nat} {L : List Int} {I : Int} (hkg : 1000000 <= kg) (hf : Zc l fr = fr1) (ef : fr1.map (fun p => (p.1, (p.2.ren (Qa9 18 500000)).ren (Qa9 16 500001))) = fr') :
  St.le ⟨fr, [(18, ⟨[[.str [], .str [], .osl 16 1]], 3, eu, false⟩), (16, ⟨[dCR (zr v0 (-1))], 8, ec, true⟩), (kg, gB L I eg)]⟩ ⟨fr', [(500000, ⟨[u0 v0].map dUR, 3, eu, false⟩), (kg, gB L I eg)] ++ fbx ec [u0 v0]⟩ := by
 subst hf ef
 have k1 := QlL (a := 18) (b := 500000) hkg (by decide) (by decide)
 have k2 := QlL (a := 16) (b := 500001) hkg (by decide) (by decide)
 refine le_trans (Qbq l fr _) (le_trans (Qh1 18 500000 (by decide) (by decide) _) (le_trans (Qh1 16 500001 (by decide) (by decide) _) ?_))
 have hH : ∀ k, lk ([(500000, (⟨[u0 v0].map dUR, 3, eu, false⟩ : Box)), (kg, gB L I eg)] ++ fbx ec [u0 v0]) k = lk (Qgx (Qa9 16 500001) (Qgx (Qa9 18 500000) [(18, ⟨[[.str [], .str [], .osl 16 1]], 3, eu, false⟩), (16, ⟨[dCR (zr v0 (-1))], 8, ec, true⟩), (kg, gB L I eg)])) k := fun k => by
  have e : Qgx (Qa9 16 500001) (Qgx (Qa9 18 500000) [(18, (⟨[[.str [], .str [], .osl 16 1]], 3, eu, false⟩ : Box)), (16, ⟨[dCR (zr v0 (-1))], 8, ec, true⟩), (kg, gB L I eg)]) = [(500000, ⟨[u0 v0].map dUR, 3, eu, false⟩), (500001, ⟨[dCR (zr v0 (-1))], 8, ec, true⟩), (kg, gB L I eg)] := by
   simp only [Qgx, List.map_cons, List.map_nil, k1, k2]; rfl
  rw [e]
  show lk ((500000, _) :: (kg, _) :: (500001, _) :: []) k = _
  rw [Qm, Qm, Qm, Qm, Qm, Qm]
  by_cases h1 : 500000 = k
  ·rw [if_pos h1, if_pos h1]
  ·rw [if_neg h1, if_neg h1]
   by_cases h2 : kg = k
   ·rw [if_pos h2, if_neg (by omega), if_pos h2]
   ·rw [if_neg h2, if_neg h2]; rfl
 refine QaS (by simp only [St.ren, List.map_map]; rfl) fun k => (hH k).symm
def names5 : List (List UInt8) := [[97, 110, 116], [98, 101, 101], [99, 111, 119], [100, 111, 103], [101, 108, 107]]
theorem Q8 : names5.length = 5 := rfl
theorem Qm5 : versions.length = 4 := rfl
theorem Qn1 {i : Nat} (h : i < versions.length) : Qd1 versions[i] := by
 have := Qim _ (List.getElem_mem h)
 exact ⟨Nat.le_trans this.1 (by omega), Nat.le_trans this.2 (by omega)⟩
structure UnitsIn (us : List UR) : Prop where
 keys : Z5 us
 fresh : ∀ u ∈ us, Qni u
 first : ∃ z rest, us = ⟨[], [], 500001, [z]⟩ :: rest
theorem UnitsIn.zero : UnitsIn [u0 v0] := by
 refine ⟨fun j hj => ?_, fun u hu => ?_, ⟨zr v0 (-1), [], rfl⟩⟩
 ·have : j = 0 := by simp at hj; exact hj
  subst this; rfl
 ·simp only [List.mem_singleton] at hu; subst hu
  refine ⟨by simp [u0], fun z hz => ?_⟩
  simp only [u0, List.mem_singleton] at hz; subst hz
  exact ⟨v0, -1, rfl, ⟨Nat.zero_le _, Nat.zero_le _⟩⟩
theorem UnitsIn.snoc {us : List UR} (h : UnitsIn us) {n f : List UInt8} {cs : List CR} (hc : cs.length <= 4) (hz : ∀ z ∈ cs, ∃ v sh, z = zr v sh /\ Qd1 v) : UnitsIn (us ++ [⟨n, f, 500001 + us.length, cs⟩]) := by
 obtain ⟨h1, h2, z, rest, h3⟩ := h
 refine ⟨Qg8 h1 rfl, fun u hu => ?_, z, rest ++ [⟨n, f, 500001 + us.length, cs⟩], by rw [h3]; rfl⟩
 rcases List.mem_append.1 hu with hu | hu
 ·exact h2 u hu
 ·simp only [List.mem_singleton] at hu; subst hu; exact ⟨hc, hz⟩
def CsIn (n : Nat) (cs : List CR) : Prop := cs.length <= n /\ ∀ z ∈ cs, ∃ v sh, z = zr v sh /\ Qd1 v
theorem CsIn.nil (n : Nat) : CsIn n [] := ⟨Nat.zero_le _, by simp⟩
theorem CsIn.keep {n : Nat} {cs : List CR} (h : CsIn n cs) : CsIn (n + 1) cs := ⟨Nat.le_succ_of_le h.1, h.2⟩
theorem CsIn.snoc {n : Nat} {cs : List CR} (h : CsIn n cs) {v : Vr} (hv : Qd1 v) {sh : Int} : CsIn (n + 1) (cs ++ [zr v sh]) := by
 refine ⟨by simp; exact h.1, fun z hz => ?_⟩
 rcases List.mem_append.1 hz with hz | hz
 ·exact h.2 z hz
 ·simp only [List.mem_singleton] at hz; subst hz; exact ⟨v, sh, rfl, hv⟩
theorem CsIn.at {n : Nat} {cs : List CR} (h : CsIn n cs) {i : Nat} (hi : i < cs.length) : Qd1 cs[i].v := by
 obtain ⟨v, sh, e, hv⟩ := h.2 _ (List.getElem_mem hi)
 rw [e]; exact hv
theorem QiO {α : Type} {k : Nat} {v v' : α} {l : List (Nat × α)} (h : v = v') : lk ((k, v) :: l) k = some v' := by rw [Qv, h]
theorem Qhx {us : List UR} {e et : Nat} (h : Z5 us) : Box.scrub (500001 + us.length) ⟨us.map dUR, e, et, false⟩ = ⟨us.map dUR, e, et, false⟩ := Qhw fun hk => by
 obtain ⟨u, hu, e⟩ := Qa0 hk
 have := QaR h hu
 omega
theorem Qi8 {us : List UR} (h : Z5 us) {n f : List UInt8} {k m : Nat} (hk : k ≠ 500000) : ∀ r ∈ us.map dUR ++ [[D.str n, D.str f, D.osl k m]], ∀ d ∈ r, 500000 ∉ d.sid := fun r hr d hd => by
 rcases List.mem_append.1 hr with hr | hr
 ·exact Qm4 h r hr d hd
 ·simp only [List.mem_singleton] at hr; subst hr
  simp only [List.mem_cons, List.not_mem_nil, or_false] at hd
  rcases hd with rfl | rfl | rfl <;> simp [D.sid]
  exact Ne.symm hk
theorem Qm3 {us : List UR} {u : UR} : (us ++ [u]).map dUR = us.map dUR ++ [dUR u] := by simp
theorem QmF {cs : List CR} {z : CR} : (cs ++ [z]).map dCR = cs.map dCR ++ [dCR z] := by simp
theorem QaH {us : List UR} (h : Z5 us) {kg eu ec : Nat} {g1 g2 g3 : Box} (hkg : 1000000 <= kg) (h1 : g1.pr = true) (h2 : g2.pr = true) (hlen : us.length <= 100) :
  (∀ k, 1000000 <= k -> (lk [(kg, g1)] k).isSome = true -> (lk (((500000, (⟨us.map dUR, 3, eu, false⟩ : Box)) :: fbx ec us) ++ [(kg, g2), (kg, g1)]) k).isSome = true) /\
  (∀ k b, lk (((500000, (⟨us.map dUR, 3, eu, false⟩ : Box)) :: fbx ec us) ++ [(kg, g2), (kg, g1)]) k = some b -> 500000 <= k /\ ∀ j ∈ b.ids, (lk (((500000, (⟨us.map dUR, 3, eu, false⟩ : Box)) :: fbx ec us) ++ [(kg, g2), (kg, g1)]) j).isSome = true) /\
  (∀ k b, lk (((500000, (⟨us.map dUR, 3, eu, false⟩ : Box)) :: fbx ec us) ++ [(kg, g2), (kg, g1)]) k = some b -> lk ((kg, g2) :: (500000, ⟨us.map dUR, 3, eu, false⟩) :: (kg, g3) :: fbx ec us) k = some b) := by
 have cs : ∀ k b, lk (((500000, (⟨us.map dUR, 3, eu, false⟩ : Box)) :: fbx ec us) ++ [(kg, g2), (kg, g1)]) k = some b -> (k = 500000 /\ b = ⟨us.map dUR, 3, eu, false⟩) \/ (∃ u ∈ us, k = u.k /\ b = ⟨u.cs.map dCR, 8, ec, true⟩) \/ (k = kg /\ b = g2) := fun k b hk => by
  rw [List.cons_append, Qm] at hk
  split at hk
  ·rename_i e; cases hk; exact .inl ⟨e.symm, rfl⟩
  ·rw [ZV] at hk
   cases hh : lk (fbx ec us) k with
   | some v =>
    rw [hh] at hk; cases hk
    exact .inr (.inl (Qfn hh))
   | none =>
    rw [hh] at hk
    simp only at hk
    rw [Qm] at hk
    split at hk
    ·rename_i e; cases hk; exact .inr (.inr ⟨e.symm, rfl⟩)
    ·rename_i e
     rw [Qm, if_neg e] at hk; cases hk
 refine ⟨fun k _ hk => ?_, fun k b hk => ?_, fun k b hk => ?_⟩
 ·obtain ⟨b, hb⟩ := Option.isSome_iff_exists.1 hk
  obtain ⟨rfl, _⟩ := XH hb
  exact QfH QU
 ·rcases cs k b hk with ⟨rfl, rfl⟩ | ⟨u, hu, rfl, rfl⟩ | ⟨rfl, rfl⟩
  ·refine ⟨Nat.le_refl _, fun j hj => ?_⟩
   obtain ⟨u, hu, rfl⟩ := Qa0 hj
   rw [List.cons_append]
   refine QS ?_
   obtain ⟨b, hb⟩ := Option.isSome_iff_exists.1 (QcG (ec := ec) h hu)
   rw [Ym hb]; rfl
  ·have := QaR h hu
   exact ⟨by omega, fun j hj => by simp [Box.ids] at hj⟩
  ·exact ⟨by omega, fun j hj => by rw [XQ h2] at hj; cases hj⟩
 ·rcases cs k b hk with ⟨rfl, rfl⟩ | ⟨u, hu, rfl, rfl⟩ | ⟨rfl, rfl⟩
  ·exact Qi (by omega) Qv
  ·have hm := QaR h hu
   obtain ⟨j, hj, rfl⟩ := List.getElem_of_mem hu
   refine Qi (by omega) (Qi (by omega) (Qi (by omega) ?_))
   rw [h j hj]; exact QjR h hj
  ·exact Qv
end M25
namespace M25
open Go Go.Abs M3
/-! ### A world under way: one candidate after the other is filled -/
def PureC (z : CR) : Prop := z.x.sid = [] /\ z.y.sid = [] /\ z.z.sid = []
theorem PureC.all {z : CR} (h : PureC z) : ∀ d ∈ dCR z, d.sid = [] := fun d hd => by
 simp only [dCR, List.mem_cons, List.not_mem_nil, or_false] at hd
 rcases hd with rfl | rfl | rfl | rfl | rfl | rfl | rfl | rfl
 ·rfl
 ·rfl
 ·rfl
 ·rfl
 ·rfl
 ·exact h.1
 ·exact h.2.1
 ·exact h.2.2
def Qdr (u : UR) (k : Nat) (z : CR) : UR := { u with cs := u.cs.set k z }
def QbO (us : List UR) (i k : Nat) (z : CR) : List UR := us.modify i fun u => Qdr u k z
theorem Zt (us : List UR) (i k : Nat) (z : CR) : (QbO us i k z).length = us.length := List.length_modify ..
theorem Qi2 (us : List UR) (i k : Nat) (z : CR) : (QbO us i k z).map dUR = us.map dUR := by
 refine List.ext_getElem (by simp [QbO]) fun j h1 h2 => ?_
 simp only [List.getElem_map, QbO, List.getElem_modify]
 split <;> simp [dUR, Qdr]
theorem Qau {us : List UR} {i k : Nat} {z : CR} {j : Nat} (h : j < us.length) : (QbO us i k z)[j]'(by rw [Zt]; exact h) = if i = j then Qdr us[j] k z else us[j] := by
 simp only [QbO, List.getElem_modify]
theorem Qc2 {us : List UR} {i k : Nat} {z : CR} (h : Z5 us) : Z5 (QbO us i k z) := fun j hj => by
 rw [Zt] at hj
 rw [Qau hj]
 split
 ·exact h j hj
 ·exact h j hj
def wA (us : List UR) (eu ec eg : Nat) (L : List Int) (J : Int) (b4 : Box) : List (Nat × Box) := [(500000, ⟨us.map dUR, 3, eu, false⟩), (12, gB L J eg), (4, b4)] ++ fbx ec us
theorem Qa1 {us : List UR} {eu ec eg : Nat} {L : List Int} {J : Int} {b4 : Box} (h : Z5 us) {k : Nat} {b : Box} (hk : lk (wA us eu ec eg L J b4) k = some b) : (k = 500000 /\ b = ⟨us.map dUR, 3, eu, false⟩) \/ (k = 12 /\ b = gB L J eg) \/ (k = 4 /\ b = b4) \/ ∃ j, ∃ hj : j < us.length, k = 500001 + j /\ b = ⟨us[j].cs.map dCR, 8, ec, true⟩ := by
 unfold wA at hk
 rcases QeA hk with hk | ⟨_, hk⟩
 ·simp only [List.mem_cons, List.not_mem_nil, or_false, Prod.mk.injEq] at hk
  rcases hk with h | h | h
  ·exact .inl h
  ·exact .inr (.inl h)
  ·exact .inr (.inr (.inl h))
 ·obtain ⟨u, hu, e1, e2⟩ := Qfn hk
  obtain ⟨j, hj, rfl⟩ := List.getElem_of_mem hu
  exact .inr (.inr (.inr ⟨j, hj, e1.trans (h j hj), e2⟩))
section
variable {us : List UR} {eu ec eg : Nat} {L : List Int} {J : Int} {b4 : Box}
theorem QdT : lk (wA us eu ec eg L J b4) 500000 = some ⟨us.map dUR, 3, eu, false⟩ := rfl
theorem QdA : lk (wA us eu ec eg L J b4) 12 = some (gB L J eg) := rfl
theorem QeS : lk (wA us eu ec eg L J b4) 4 = some b4 := rfl
theorem Qcn (h : Z5 us) {j : Nat} (hj : j < us.length) : lk (wA us eu ec eg L J b4) (500001 + j) = some ⟨us[j].cs.map dCR, 8, ec, true⟩ := by
 show lk ((500000, _) :: (12, _) :: (4, _) :: fbx ec us) _ = _
 rw [Qm, if_neg (by omega), Qm, if_neg (by omega), Qm, if_neg (by omega)]
 exact QjR h hj
theorem ZY (h : Z5 us) {k : Nat} (h1 : k ≠ 500000) (h2 : k ≠ 12) (h3 : k ≠ 4) (h4 : k < 500001 \/ 500001 + us.length <= k) : lk (wA us eu ec eg L J b4) k = none := by
 show lk ((500000, _) :: (12, _) :: (4, _) :: fbx ec us) _ = _
 rw [Qm, if_neg (Ne.symm h1), Qm, if_neg (Ne.symm h2), Qm, if_neg (Ne.symm h3)]
 exact YK h h4
theorem Qin (h : Z5 us) {k : Nat} (hk : k = 500000 \/ k = 12 \/ k = 4 \/ ∃ u ∈ us, k = u.k) : (lk (wA us eu ec eg L J b4) k).isSome = true := by
 rcases hk with rfl | rfl | rfl | ⟨u, hu, rfl⟩
 ·rfl
 ·rfl
 ·rfl
 ·obtain ⟨j, hj, rfl⟩ := List.getElem_of_mem hu
  rw [h j hj, Qcn h hj]; rfl
theorem X6 (h : Z5 us) (h4 : b4.pr = true) : Closed (wA us eu ec eg L J b4) := fun k b hk j hj => by
 rcases Qa1 h hk with ⟨rfl, rfl⟩ | ⟨rfl, rfl⟩ | ⟨rfl, rfl⟩ | ⟨i, hi, rfl, rfl⟩
 ·exact Qin h (.inr (.inr (.inr (Qa0 hj))))
 ·simp [Box.ids, gB] at hj
 ·rw [XQ h4] at hj; cases hj
 ·simp [Box.ids] at hj
theorem Qdk {α : Type} : ∀ {l : List α} {k : Nat} {a x : α}, x ∈ l.set k a -> x = a \/ x ∈ l
 | [], k, a, x, h => by simp at h
 | b :: l, 0, a, x, h => by
  simp only [List.set_cons_zero, List.mem_cons] at h ⊢
  rcases h with h | h
  ·exact .inl h
  ·exact .inr (.inr h)
 | b :: l, k + 1, a, x, h => by
  simp only [List.set_cons_succ, List.mem_cons] at h ⊢
  rcases h with h | h
  ·exact .inr (.inl h)
  ·rcases Qdk h with h | h
   ·exact .inl h
   ·exact .inr (.inr h)
theorem Qew {l : List Nat} {fr fr1 fr' : List (Nat × D)} {H : List (Nat × Box)} {i k : Nat} {row : List D} {p : Bool} (kk : Nat) (z' : CR) (hf : Zc l fr = fr1) (ef : fr1 = fr') (hK : Z5 us) (hi : i < us.length) (hk : k < us[i].cs.length)
  (hKi : lk H (500001 + i) = some ⟨(us[i].cs.map dCR).set k row, 8, ec, p⟩) (hp : p = true -> row.map (D.fzS H (· == kk)) = row) (hrow : (row.map (D.fzS H (· == kk))).map D.canS = dCR z') (hoth : ∀ z ∈ us[i].cs, PureC z) (hz : PureC z')
  (hF : ∀ j, ∀ hj : j < us.length, j ≠ i -> lk H (500001 + j) = some ⟨us[j].cs.map dCR, 8, ec, true⟩) (hu : lk H 500000 = some ⟨us.map dUR, 3, eu, false⟩) (hg : lk H 12 = some (gB L J eg)) (h4 : lk H 4 = some b4) (hb4 : b4.pr = true) (hkk : kk < 500000 /\ kk ≠ 12 /\ kk ≠ 4) (hsm : ∀ j, 1000000 <= j -> lk H j = none) (hlen : us.length <= 100)
  (hfr : ∀ p ∈ fr', ∀ j ∈ p.2.ids, j = 500000 \/ j = 12 \/ j = 4 \/ ∃ u ∈ us, j = u.k) : St.le ⟨fr, H⟩ ⟨fr', wA (QbO us i k z') eu ec eg L J b4⟩ := by
 subst hf ef
 have nokk : ∀ j, (j = 500000 \/ j = 12 \/ j = 4 \/ ∃ u ∈ us, j = u.k) -> j ≠ kk := fun j hj e => by
  subst e
  rcases hj with rfl | rfl | rfl | ⟨u, hu, rfl⟩
  ·omega
  ·exact hkk.2.1 rfl
  ·exact hkk.2.2 rfl
  ·have := (QaR hK hu).1; omega
 have eqkk : ∀ j, j ≠ kk -> (j == kk) = false := fun j hj => by simp [hj]
 have some1 : ∀ b j, (j = 500000 \/ j = 12 \/ j = 4 \/ ∃ u ∈ us, j = u.k) -> (lk ((500001 + i, b) :: wA us eu ec eg L J b4) j).isSome = true := fun b j hj => QS (Qin hK hj)
 have rowsz : ∀ r ∈ us[i].cs.map dCR, r.map (D.fzS H (· == kk)) = r := fun r hr => by
  obtain ⟨z, hzm, rfl⟩ := List.mem_map.1 hr
  exact YS fun d hd => Qdg fun j hj => by rw [(hoth z hzm).all d hd] at hj; cases hj
 have mapz : ((us[i].cs.map dCR).set k row).map (fun r => r.map (D.fzS H (· == kk))) = (us[i].cs.map dCR).set k (row.map (D.fzS H (· == kk))) := by
  refine List.ext_getElem (by simp) fun j h1 h2 => ?_
  simp only [List.getElem_map, List.getElem_set]
  split
  ·rfl
  ·exact rowsz _ (List.mem_map_of_mem (List.getElem_mem _))
 refine le_trans (Qbq l fr H) (le_trans (Ql2 kk (H' := (500001 + i, ⟨(us[i].cs.map dCR).set k (row.map (D.fzS H (· == kk))), 8, ec, p⟩) :: wA us eu ec eg L J b4) (by omega) (fr' := Zc l fr) (fun t d h => ⟨d, h, QiG fun j hj => eqkk j (nokk j (hfr (t, d) (YE h) j hj))⟩) (fun j b h => ?_) (fun t d h j hj => some1 _ j (hfr (t, d) (YE h) j hj)) (fun j b h j2 hj2 => ?_) fun j hj hs => ?_) ?_)
 ·rw [Qm] at h
  split at h
  ·rename_i e; cases h; subst e
   refine ⟨by omega, _, hKi, ?_⟩
   cases p with
   | true => rw [hp rfl]; rfl
   | false => show Box.mk _ _ _ _ = _; rw [mapz]
  ·rename_i e
   rcases Qa1 hK h with ⟨rfl, rfl⟩ | ⟨rfl, rfl⟩ | ⟨rfl, rfl⟩ | ⟨i2, hi2, rfl, rfl⟩
   ·refine ⟨by omega, _, hu, XT (.inr fun j hj => eqkk j (nokk j (.inr (.inr (.inr (Qa0 hj))))))⟩
   ·exact ⟨Ne.symm hkk.2.1, _, hg, rfl⟩
   ·exact ⟨Ne.symm hkk.2.2, _, h4, XT (.inl hb4)⟩
   ·exact ⟨by omega, _, hF i2 hi2 (fun e2 => e (by omega)), rfl⟩
 ·rw [Qm] at h
  split at h
  ·cases h
   cases hpp : p with
   | true => rw [XQ hpp] at hj2; cases hj2
   | false =>
   simp only [Box.ids, hpp, Bool.false_eq_true, if_false, List.mem_flatMap] at hj2
   obtain ⟨r, hr, d, hd, hj3⟩ := hj2
   rcases Qdk hr with rfl | hr
   ·have : (d.canS).sid = [] := hz.all _ (by rw [<- hrow]; exact List.mem_map_of_mem hd)
    rw [QbF] at this
    rw [this] at hj3; cases hj3
   ·obtain ⟨z, hzm, rfl⟩ := List.mem_map.1 hr
    rw [(hoth z hzm).all d hd] at hj3; cases hj3
  ·exact QS (X6 hK hb4 j b h j2 hj2)
 ·rw [hsm j hj] at hs; cases hs
 ·refine le_trans (Qlk k Qv) (le_trans (QhZ Qv (fun e => ?_) (fun r hr d hd => ?_)) (QaS rfl fun j => ?_))
  ·have := congrArg List.length e
   simp only [List.length_modify, List.length_set, List.length_map, List.length_nil] at this
   omega
  ·rcases QaA hr with h | ⟨y, hy, rfl⟩
   ·rcases Qdk h with rfl | h
    ·have : (d.canS).sid = [] := hz.all _ (by rw [<- hrow]; exact List.mem_map_of_mem hd)
     rwa [QbF] at this
    ·obtain ⟨z, hzm, rfl⟩ := List.mem_map.1 h
     exact (hoth z hzm).all d hd
   ·obtain ⟨d0, hd0, rfl⟩ := List.mem_map.1 hd
    rw [QbF]
    rcases Qdk hy with rfl | h
    ·have : (d0.canS).sid = [] := hz.all _ (by rw [<- hrow]; exact List.mem_map_of_mem hd0)
     rwa [QbF] at this
    ·obtain ⟨z, hzm, rfl⟩ := List.mem_map.1 h
     exact (hoth z hzm).all d0 hd0
  ·have erows : ((us[i].cs.map dCR).set k (row.map (D.fzS H (· == kk)))).modify k (fun r => r.map D.canS) = ((us[i].cs.set k z').map dCR) := by
    refine List.ext_getElem (by simp) fun m h1 h2 => ?_
    simp only [List.getElem_modify, List.getElem_set, List.getElem_map]
    by_cases e : k = m
    ·subst e
     simp only [if_true]
     exact hrow
    ·simp only [if_neg e]
   have hK' := Qc2 (i := i) (k := k) (z := z') hK
   by_cases e : 500001 + i = j
   ·subst e
    rw [Qv, Qcn hK' (by rw [Zt]; exact hi)]
    simp only [Qau hi, if_true, erows]; rfl
   ·rw [Qm, if_neg e, Qm, if_neg e, Qm, if_neg e]
    cases h : lk (wA us eu ec eg L J b4) j with
    | none =>
     cases h' : lk (wA (QbO us i k z') eu ec eg L J b4) j with
     | none => rfl
     | some b =>
      have : (lk (wA us eu ec eg L J b4) j).isSome = true := by
       rcases Qa1 hK' h' with ⟨rfl, _⟩ | ⟨rfl, _⟩ | ⟨rfl, _⟩ | ⟨m, hm, rfl, _⟩
       ·rfl
       ·rfl
       ·rfl
       ·rw [Zt] at hm; rw [Qcn hK hm]; rfl
      rw [h] at this; cases this
    | some b =>
     rcases Qa1 hK h with ⟨rfl, rfl⟩ | ⟨rfl, rfl⟩ | ⟨rfl, rfl⟩ | ⟨m, hm, rfl, rfl⟩
     ·rw [QdT, Qi2]
     ·rfl
     ·rfl
     ·rw [Qcn hK' (by rw [Zt]; exact hm)]
      simp only [Qau hm, if_neg (show ¬ i = m by omega)]
end
theorem QcN : ∀ {H : List (Nat × Box)} {j : Nat}, j ∈ H.map Prod.fst -> (lk H j).isSome = true
 | [], _, h => by cases h
 | (k, b) :: H, j, h => by
  by_cases e : k = j
  ·subst e; exact QU
  ·refine QS (QcN ?_)
   simp only [List.map_cons, List.mem_cons] at h
   exact h.resolve_left (Ne.symm e)
theorem QlO {us : List UR} (h : Z5 us) {i : Nat} (hi : i < us.length) : (us.map dUR)[((i : Nat) : Int).toNat]? = some [.str us[i].n, .str us[i].f, .osl (500001 + i) us[i].cs.length] := by
 rw [Int.toNat_natCast, List.getElem?_map, List.getElem?_eq_getElem hi, Option.map_some, dUR, h i hi]
theorem Qom {cs : List CR} {k : Nat} (hk : k < cs.length) : (cs.map dCR)[((k : Nat) : Int).toNat]? = some (dCR cs[k]) := by
 rw [Int.toNat_natCast, List.getElem?_map, List.getElem?_eq_getElem hk]; rfl
theorem Qij {us : List UR} {eu ec eg : Nat} {L : List Int} {J : Int} {b4 g1 : Box} (h : Z5 us) (k : Nat) : lk (((500000, (⟨us.map dUR, 3, eu, false⟩ : Box)) :: fbx ec us) ++ ([(12, gB L J eg)] ++ [(12, g1), (4, b4)])) k = lk (wA us eu ec eg L J b4) k := by
 show lk ((500000, _) :: (fbx ec us ++ [(12, gB L J eg), (12, g1), (4, b4)])) k = lk ((500000, _) :: (12, _) :: (4, _) :: fbx ec us) k
 rw [Qm, Qm]
 split
 ·rfl
 ·rw [ZV]
  cases hh : lk (fbx ec us) k with
  | some v =>
   have := QfU h k v hh
   simp only
   rw [Qm, if_neg (by omega), Qm, if_neg (by omega), hh]
  | none =>
   simp only [Qm, hh]
   by_cases e : 12 = k
   ·rw [if_pos e, if_pos e]
   ·rw [if_neg e, if_neg e, if_neg e]; rfl
theorem Qi9 {us : List UR} {eu ec eg : Nat} {L : List Int} {J : Int} {b4 : Box} (h : Z5 us) (hv : ∀ y ∈ us, y.cs.length <= 16 /\ ∀ z ∈ y.cs, Qd1 z.v) : Fam (wA us eu ec eg L J b4) 12 500000 eu ec us := by
 refine ⟨by decide, ⟨false, rfl⟩, fun y hy => ?_, hv⟩
 obtain ⟨j, hj, rfl⟩ := List.getElem_of_mem hy
 refine ⟨by rw [h j hj]; omega, true, by rw [h j hj]; exact Qcn h hj⟩
/-! ### Filled candidates -/
def Qms (n : Nat) (x : WantT) : Prop := 0 <= x.u /\ x.u < n /\ SetOk x.s
theorem WantIn.w {n : Nat} {x : WantT} (h : WantIn n x) : Qms n x := ⟨by have := h.1; omega, h.2.1, h.2.2⟩
structure Qaa (n : Nat) (c : CandT) : Prop where
 v : Qd1 c.v
 nl : c.ns.length <= 10
 nr : ∀ r ∈ c.ns, r.length <= 2 /\ ∀ x ∈ r, Qms n x
 bl : c.bs.length <= 1
 bw : ∀ x ∈ c.bs, Qms n x
def Qgv (c : CandT) : CR := ⟨c.v, .int .i64 c.sh, QQ c.ns, Q7 c.bs⟩
def DoneC (n : Nat) (z : CR) : Prop := ∃ c, z = Qgv c /\ Qaa n c
def FreshC (z : CR) : Prop := ∃ v sh, z = zr v sh /\ Qd1 v
theorem DoneC.pure {n : Nat} {z : CR} (h : DoneC n z) : PureC z := by obtain ⟨c, rfl, _⟩ := h; exact ⟨rfl, rfl, rfl⟩
theorem FreshC.pure {z : CR} (h : FreshC z) : PureC z := by obtain ⟨v, sh, rfl, _⟩ := h; exact ⟨rfl, rfl, rfl⟩
theorem DoneC.vr {n : Nat} {z : CR} (h : DoneC n z) : Qd1 z.v := by obtain ⟨c, rfl, q⟩ := h; exact q.v
theorem FreshC.vr {z : CR} (h : FreshC z) : Qd1 z.v := by obtain ⟨v, sh, rfl, q⟩ := h; exact q
structure Prog (n : Nat) (us : List UR) (i k : Nat) : Prop where
 keys : Z5 us
 len : us.length = n /\ 2 <= n /\ n <= 11
 cl : ∀ u ∈ us, u.cs.length <= 4
 done : ∀ j, ∀ hj : j < us.length, ∀ m, ∀ hm : m < us[j].cs.length, (j < i \/ (j = i /\ m < k)) -> DoneC n us[j].cs[m]
 fresh : ∀ j, ∀ hj : j < us.length, ∀ m, ∀ hm : m < us[j].cs.length, ¬ (j < i \/ (j = i /\ m < k)) -> FreshC us[j].cs[m]
theorem Prog.pure {n : Nat} {us : List UR} {i k : Nat} (h : Prog n us i k) {j : Nat} (hj : j < us.length) : ∀ z ∈ us[j].cs, PureC z /\ Qd1 z.v := fun z hz => by
 obtain ⟨m, hm, rfl⟩ := List.getElem_of_mem hz
 by_cases hd : j < i \/ (j = i /\ m < k)
 ·exact ⟨(h.done j hj m hm hd).pure, (h.done j hj m hm hd).vr⟩
 ·exact ⟨(h.fresh j hj m hm hd).pure, (h.fresh j hj m hm hd).vr⟩
theorem Prog.fam {n : Nat} {us : List UR} {i k : Nat} (h : Prog n us i k) : ∀ y ∈ us, y.cs.length <= 16 /\ ∀ z ∈ y.cs, Qd1 z.v := fun y hy => by
 obtain ⟨j, hj, rfl⟩ := List.getElem_of_mem hy
 exact ⟨Nat.le_trans (h.cl _ hy) (by omega), fun z hz => (h.pure hj z hz).2⟩
theorem Prog.put {n : Nat} {us : List UR} {i k : Nat} (h : Prog n us i k) (hi : i < us.length) (hk : k < us[i].cs.length) {z : CR} (hz : DoneC n z) : Prog n (QbO us i k z) i (k + 1) := by
 have at' := fun (j : Nat) (hj : j < us.length) => Qau (i := i) (k := k) (z := z) hj
 refine ⟨Qc2 h.keys, by rw [Zt]; exact h.len, fun u hu => ?_, fun j hj m hm hd => ?_, fun j hj m hm hd => ?_⟩
 ·obtain ⟨j, hj, rfl⟩ := List.getElem_of_mem hu
  rw [Zt] at hj
  rw [at' j hj]
  split
  ·simp only [Qdr, List.length_set]; exact h.cl _ (List.getElem_mem _)
  ·exact h.cl _ (List.getElem_mem _)
 ·rw [Zt] at hj
  have e := at' j hj
  by_cases hij : i = j
  ·subst hij
   rw [if_pos rfl] at e
   have hm' : m < (Qdr us[i] k z).cs.length := by rw [<- e]; exact hm
   have e2 : (QbO us i k z)[i].cs[m] = (Qdr us[i] k z).cs[m]'hm' := by congr 1; rw [e]
   rw [e2]
   simp only [Qdr, List.getElem_set]
   split
   ·exact hz
   ·simp only [Qdr, List.length_set] at hm'
    exact h.done i hi m hm' (by omega)
  ·rw [if_neg hij] at e
   have hm' : m < us[j].cs.length := by rw [<- e]; exact hm
   have e2 : (QbO us i k z)[j].cs[m] = us[j].cs[m]'hm' := by congr 1; rw [e]
   rw [e2]; exact h.done j hj m hm' (by omega)
 ·rw [Zt] at hj
  have e := at' j hj
  by_cases hij : i = j
  ·subst hij
   rw [if_pos rfl] at e
   have hm' : m < (Qdr us[i] k z).cs.length := by rw [<- e]; exact hm
   have e2 : (QbO us i k z)[i].cs[m] = (Qdr us[i] k z).cs[m]'hm' := by congr 1; rw [e]
   rw [e2]
   simp only [Qdr, List.length_set] at hm'
   simp only [Qdr, List.getElem_set]
   rw [if_neg (by omega)]
   exact h.fresh i hi m hm' (by omega)
  ·rw [if_neg hij] at e
   have hm' : m < us[j].cs.length := by rw [<- e]; exact hm
   have e2 : (QbO us i k z)[j].cs[m] = us[j].cs[m]'hm' := by congr 1; rw [e]
   rw [e2]; exact h.fresh j hj m hm' (by omega)
theorem Prog.next {n : Nat} {us : List UR} {i k : Nat} (h : Prog n us i k) (hi : i < us.length) (hk : us[i].cs.length <= k) : Prog n us (i + 1) 0 := by
 refine ⟨h.keys, h.len, h.cl, fun j hj m hm hd => h.done j hj m hm ?_, fun j hj m hm hd => h.fresh j hj m hm (by omega)⟩
 by_cases e : j = i
 ·subst e; exact .inr ⟨rfl, by omega⟩
 ·exact .inl (by omega)
theorem Prog.again {n : Nat} {us : List UR} {i k : Nat} (h : Prog n us i (k + 1)) (hi : i < us.length) (hk : k < us[i].cs.length) {z : CR} (hz : DoneC n z) : Prog n (QbO us i k z) i (k + 1) := by
 have at' := fun (j : Nat) (hj : j < us.length) => Qau (i := i) (k := k) (z := z) hj
 refine ⟨Qc2 h.keys, by rw [Zt]; exact h.len, fun u hu => ?_, fun j hj m hm hd => ?_, fun j hj m hm hd => ?_⟩
 ·obtain ⟨j, hj, rfl⟩ := List.getElem_of_mem hu
  rw [Zt] at hj
  rw [at' j hj]
  split
  ·simp only [Qdr, List.length_set]; exact h.cl _ (List.getElem_mem _)
  ·exact h.cl _ (List.getElem_mem _)
 ·rw [Zt] at hj
  have e := at' j hj
  by_cases hij : i = j
  ·subst hij
   rw [if_pos rfl] at e
   have hm' : m < (Qdr us[i] k z).cs.length := by rw [<- e]; exact hm
   have e2 : (QbO us i k z)[i].cs[m] = (Qdr us[i] k z).cs[m]'hm' := by congr 1; rw [e]
   rw [e2]
   simp only [Qdr, List.getElem_set]
   split
   ·exact hz
   ·simp only [Qdr, List.length_set] at hm'
    exact h.done i hi m hm' (by omega)
  ·rw [if_neg hij] at e
   have hm' : m < us[j].cs.length := by rw [<- e]; exact hm
   have e2 : (QbO us i k z)[j].cs[m] = us[j].cs[m]'hm' := by congr 1; rw [e]
   rw [e2]; exact h.done j hj m hm' (by omega)
 ·rw [Zt] at hj
  have e := at' j hj
  by_cases hij : i = j
  ·subst hij
   rw [if_pos rfl] at e
   have hm' : m < (Qdr us[i] k z).cs.length := by rw [<- e]; exact hm
   have e2 : (QbO us i k z)[i].cs[m] = (Qdr us[i] k z).cs[m]'hm' := by congr 1; rw [e]
   rw [e2]
   simp only [Qdr, List.length_set] at hm'
   simp only [Qdr, List.getElem_set]
   rw [if_neg (by omega)]
   exact h.fresh i hi m hm' (by omega)
  ·rw [if_neg hij] at e
   have hm' : m < us[j].cs.length := by rw [<- e]; exact hm
   have e2 : (QbO us i k z)[j].cs[m] = us[j].cs[m]'hm' := by congr 1; rw [e]
   rw [e2]; exact h.fresh j hj m hm' (by omega)
theorem Qj9 {l : List Nat} {fr fr1 fr' : List (Nat × D)} {us : List UR} {eu ec eg e1 e3 : Nat} {L : List Int} {J : Int} {b4 bK : Box} {i : Nat} {x : WantT} (hf : Zc l fr = fr1) (ef : fr1 = fr') (hK : Z5 us) (hi : i < us.length) (hb4 : b4.pr = true) (hbK : ∀ j ∈ bK.ids, j = 64)
  (hfr : ∀ p ∈ fr', ∀ j ∈ p.2.ids, j = 500000 \/ j = 12 \/ j = 4 \/ ∃ u ∈ us, j = u.k) :
  St.le ⟨fr, (500001 + i, bK) :: (64, ⟨[[.osl 63 1]], 1, e1, false⟩) :: (63, ⟨[QeW x], 3, e3, true⟩) :: wA us eu ec eg L J b4⟩ ⟨fr', (500001 + i, bK) :: (64, ⟨[[Q7 [x]]], 1, e1, true⟩) :: wA us eu ec eg L J b4⟩ := by
 subst hf ef
 have no63 : ∀ j, (j = 500000 \/ j = 12 \/ j = 4 \/ ∃ u ∈ us, j = u.k) -> j ≠ 63 := fun j hj e => by
  subst e
  rcases hj with h | h | h | ⟨u, hu, h⟩
  ·cases h
  ·cases h
  ·cases h
  ·have := (QaR hK hu).1; omega
 have eq63 : ∀ j, j ≠ 63 -> (j == 63) = false := fun j hj => by simp [hj]
 have up : ∀ b b' j, (lk (wA us eu ec eg L J b4) j).isSome = true -> (lk ((500001 + i, b) :: (64, b') :: wA us eu ec eg L J b4) j).isSome = true := fun b b' j hj => QS (QS hj)
 refine le_trans (Qbq l fr _) (le_trans (Ql2 63 (H' := (500001 + i, bK) :: (64, ⟨[[Q7 [x]]], 1, e1, false⟩) :: wA us eu ec eg L J b4) (by decide) (fr' := Zc l fr) (fun t d h => ⟨d, h, QiG fun j hj => eq63 j (no63 j (hfr (t, d) (YE h) j hj))⟩) (fun j b h => ?_) (fun t d h j hj => up _ _ j (Qin hK (hfr (t, d) (YE h) j hj))) (fun j b h j2 hj2 => ?_) fun j hj hs => ?_) ?_)
 ·rw [Qm] at h
  split at h
  ·rename_i e; cases h; subst e
   refine ⟨by omega, _, Qv, XT (.inr fun j hj => ?_)⟩
   rw [hbK j hj]; rfl
  ·rename_i e
   rw [Qm] at h
   split at h
   ·rename_i e2; cases h; subst e2
    refine ⟨by decide, _, Qi e Qv, ?_⟩
    have h63 : lk ((500001 + i, bK) :: (64, (⟨[[.osl 63 1]], 1, e1, false⟩ : Box)) :: (63, ⟨[QeW x], 3, e3, true⟩) :: wA us eu ec eg L J b4) 63 = some ⟨[QeW x], 3, e3, true⟩ := Qi (by omega) (Qi (by decide) Qv)
    simp only [Box.fz, Bool.false_eq_true, if_false, List.map_cons, List.map_nil, D.fzS, beq_self_eq_true, if_true, h63, List.length_singleton, and_self, Q7]
   ·rename_i e2
    have h2 : lk ((500001 + i, bK) :: (64, (⟨[[.osl 63 1]], 1, e1, false⟩ : Box)) :: (63, ⟨[QeW x], 3, e3, true⟩) :: wA us eu ec eg L J b4) j = some b := by
     have hj : j ≠ 63 := by
      rcases Qa1 hK h with ⟨rfl, _⟩ | ⟨rfl, _⟩ | ⟨rfl, _⟩ | ⟨m, _, rfl, _⟩ <;> omega
     exact Qi e (Qi e2 (Qi (Ne.symm hj) h))
    rcases Qa1 hK h with ⟨rfl, rfl⟩ | ⟨rfl, rfl⟩ | ⟨rfl, rfl⟩ | ⟨m, hm, rfl, rfl⟩
    ·exact ⟨by decide, _, h2, XT (.inr fun j hj => eq63 j (no63 j (.inr (.inr (.inr (Qa0 hj))))))⟩
    ·exact ⟨by decide, _, h2, rfl⟩
    ·exact ⟨by decide, _, h2, XT (.inl hb4)⟩
    ·exact ⟨by omega, _, h2, rfl⟩
 ·rw [Qm] at h
  split at h
  ·cases h
   rw [hbK j2 hj2]; exact QS QU
  ·rw [Qm] at h
   split at h
   ·cases h; simp [Box.ids, D.sid, Q7] at hj2
   ·exact up _ _ j2 (X6 hK hb4 j b h j2 hj2)
 ·by_cases e : 500001 + i = j
  ·subst e; exact QU
  ·rw [Qm, if_neg e, Qm, if_neg (by omega), Qm, if_neg (by omega)] at hs
   exact up _ _ j hs
 ·have h64 : lk ((500001 + i, bK) :: (64, (⟨[[Q7 [x]]], 1, e1, false⟩ : Box)) :: wA us eu ec eg L J b4) 64 = some ⟨[[Q7 [x]]], 1, e1, false⟩ := Qi (by omega) Qv
  refine le_trans (QhZ h64 (by simp) (by intro r hr d hd; simp only [List.mem_singleton] at hr; subst hr; simp only [List.mem_singleton] at hd; subst hd; rfl)) (QaS rfl fun j => ?_)
  by_cases e : 64 = j
  ·subst e; rw [Qv, Qm, if_neg (by omega), Qv]
  ·by_cases eK : 500001 + i = j
   ·subst eK; rw [Qm, if_neg e, Qv, Qv]
   ·rw [Qm, if_neg e, Qm, if_neg eK, Qm, if_neg e, Qm, if_neg eK, Qm, if_neg e]
theorem QjO {n : Nat} : ∀ {cs : List CR}, (∀ z ∈ cs, DoneC n z) -> ∃ l : List CandT, cs = l.map Qgv /\ ∀ c ∈ l, Qaa n c
 | [], _ => ⟨[], rfl, by simp⟩
 | z :: cs, h => by
  obtain ⟨l, h1, h2⟩ := QjO (cs := cs) fun y hy => h y (by simp [hy])
  obtain ⟨c, rfl, hc⟩ := h z (by simp)
  exact ⟨c :: l, by rw [h1]; rfl, fun y hy => by
   rcases List.mem_cons.1 hy with rfl | hy
   ·exact hc
   ·exact h2 y hy⟩
def Qnv (n : Nat) (u : UR) (x : Yi) : Prop := x.n = u.n /\ x.f = u.f /\ u.cs = x.cs.map Qgv /\ ∀ c ∈ x.cs, Qaa n c
theorem QjP {n : Nat} : ∀ {us : List UR}, (∀ u ∈ us, ∀ z ∈ u.cs, DoneC n z) -> ∃ w : Zo, w.length = us.length /\ ∀ j, ∀ h : j < us.length, ∀ h' : j < w.length, Qnv n us[j] w[j]
 | [], _ => ⟨[], rfl, fun j h => by simp at h⟩
 | u :: us, h => by
  obtain ⟨w, h1, h2⟩ := QjP (us := us) fun y hy => h y (by simp [hy])
  obtain ⟨l, q1, q2⟩ := QjO (h u (by simp))
  refine ⟨⟨u.n, u.f, l⟩ :: w, by simp [h1], fun j hj hj' => ?_⟩
  cases j with
  | zero => exact ⟨rfl, rfl, q1, q2⟩
  | succ j => simp only [List.getElem_cons_succ]; exact h2 j (by simpa using hj) (by simpa using hj')
structure Qk1 (w : Zo) : Prop where
 sm : WSm w
 len : 2 <= w.length /\ w.length <= 11
 cs : ∀ u ∈ w, u.cs.length <= 4
 cand : ∀ u ∈ w, ∀ c ∈ u.cs, Qaa w.length c
theorem QmP {w : Zo} (h2 : 2 <= w.length) (h11 : w.length <= 11) (hc : ∀ u ∈ w, u.cs.length <= 4) (hd : ∀ u ∈ w, ∀ c ∈ u.cs, Qaa w.length c) : Qk1 w := by
 refine ⟨⟨by omega, fun u hu => Nat.le_trans (hc u hu) (by omega), fun u hu c hcm => (hd u hu c hcm).v, fun u hu c hcm => ⟨Nat.le_trans (hd u hu c hcm).nl (by omega), Nat.le_trans (hd u hu c hcm).bl (by omega)⟩, fun u hu c hcm r hr => Nat.le_trans ((hd u hu c hcm).nr r hr).1 (by omega), fun u hu c hcm r hr x hx => (((hd u hu c hcm).nr r hr).2 x hx).2.2.sm, fun u hu c hcm x hx => ((hd u hu c hcm).bw x hx).2.2.sm⟩, ⟨h2, h11⟩, hc, hd⟩
theorem Qll {n : Nat} {us : List UR} {eu ec eg : Nat} {L : List Int} {J : Int} {b4 : Box} {k : Nat} (h : Prog n us us.length k) (hb4 : b4.pr = true) :
  ∃ w : Zo, w.length = us.length /\ Qk1 w /\ ∀ {l : List Nat} {fr fr1 fr' : List (Nat × D)}, Zc l fr = fr1 -> fr1 = fr' -> (∀ p ∈ fr', ∀ j ∈ p.2.ids, j = 500000 \/ j = 4) -> St.le ⟨fr, wA us eu ec eg L J b4⟩ ⟨fr', [(500000, ⟨w.map YC, 3, eu, true⟩), (4, b4)]⟩ := by
 obtain ⟨w, hw1, hw2⟩ := QjP (n := n) (us := us) fun u hu z hz => by
  obtain ⟨j, hj, rfl⟩ := List.getElem_of_mem hu
  obtain ⟨m, hm, rfl⟩ := List.getElem_of_mem hz
  exact h.done j hj m hm (.inl hj)
 have hcs : ∀ u ∈ w, u.cs.length <= 4 /\ ∀ c ∈ u.cs, Qaa n c := fun u hu => by
  obtain ⟨j, hj, rfl⟩ := List.getElem_of_mem hu
  obtain ⟨_, _, q3, q4⟩ := hw2 j (by omega) hj
  have := h.cl us[j] (List.getElem_mem _)
  rw [q3, List.length_map] at this
  exact ⟨this, q4⟩
 have hlen := h.len
 refine ⟨w, hw1, QmP (by omega) (by omega) (fun u hu => (hcs u hu).1) (fun u hu c hc => by have := (hcs u hu).2 c hc; rwa [show w.length = n by omega]), ?_⟩
 intro l fr fr1 fr' hf ef hfr
 subst hf ef
 have hK := h.keys
 let S : Nat -> Bool := fun k => decide (500001 <= k) && decide (k < 1000000)
 have hS1 : ∀ k, k < 500001 -> S k = false := fun k hk => by
  show (decide (500001 <= k) && decide (k < 1000000)) = false
  rw [decide_eq_false (by omega)]; rfl
 have hS2 : ∀ k, 500001 <= k -> k < 1000000 -> S k = true := fun k h1 h2 => by
  show (decide (500001 <= k) && decide (k < 1000000)) = true
  rw [decide_eq_true h1, decide_eq_true h2]; rfl
 have hrow : ∀ j, ∀ h1 : j < us.length, ∀ h2 : j < w.length, (dUR us[j]).map (D.fzS (wA us eu ec eg L J b4) S) = YC w[j] := fun j h1 h2 => by
  obtain ⟨q1, q2, q3, q4⟩ := hw2 j h1 h2
  have hk := hK j h1
  have hc := Qcn (eu := eu) (ec := ec) (eg := eg) (L := L) (J := J) (b4 := b4) hK h1
  generalize us[j] = u at q1 q2 q3 hk hc
  generalize w[j] = x at q1 q2 q3 q4
  obtain ⟨un, uf, uk, ucs⟩ := u
  simp only at q1 q2 q3 hk hc
  subst hk q3
  simp only [dUR, YC, List.map_cons, List.map_nil, D.fzS]
  rw [hS2 _ (by omega) (by omega), hc]
  simp only [if_true, true_and, List.length_map, q1, q2, Qix, List.map_map]
  rfl
 have hrows : (us.map dUR).map (fun r => r.map (D.fzS (wA us eu ec eg L J b4) S)) = w.map YC := by
  refine List.ext_getElem (by simp [hw1]) fun j h1 h2 => ?_
  simp only [List.getElem_map]
  exact hrow j (by simpa using h1) (by simpa using h2)
 refine le_trans (Qbq l fr _) (le_trans (QmL S (fun k hk => by
  simp only [S, Bool.and_eq_true, decide_eq_true_eq] at hk; exact hk.2) (fr' := Zc l fr) (H' := [(500000, ⟨w.map YC, 3, eu, false⟩), (4, b4)]) (fun t d hd => ⟨d, hd, QiG fun j hj => ?_⟩) (fun j b hj => ?_) (fun t d hd j hj => ?_) (fun j b hb i hi => ?_) fun j hj hs => ?_) (le_trans (QhZ (k := 500000) (b := ⟨w.map YC, 3, eu, false⟩) rfl (fun e => ?_) (fun r hr d hd => ?_)) (QaS rfl fun j => ?_)))
 ·rcases hfr (t, d) (YE hd) j hj with rfl | rfl
  ·exact hS1 _ (by decide)
  ·exact hS1 _ (by decide)
 ·rw [Qm] at hj
  split at hj
  ·rename_i e; cases hj; subst e
   refine ⟨hS1 _ (by decide), _, QdT, ?_⟩
   simp only [Box.fz, Bool.false_eq_true, if_false, hrows]
  ·rw [Qm] at hj
   split at hj
   ·rename_i e; cases hj; subst e
    exact ⟨hS1 _ (by decide), _, QeS, XT (.inl hb4)⟩
   ·cases hj
 ·rcases hfr (t, d) (YE hd) j hj with rfl | rfl
  ·rfl
  ·rfl
 ·rw [Qm] at hb
  split at hb
  ·cases hb
   simp only [Box.ids, Bool.false_eq_true, if_false, List.mem_flatMap, List.mem_map] at hi
   obtain ⟨r, ⟨u, _, rfl⟩, d, hd, hi⟩ := hi
   simp only [YC, List.mem_cons, List.not_mem_nil, or_false] at hd
   rcases hd with rfl | rfl | rfl <;> simp [D.sid, Qix] at hi
  ·rw [Qm] at hb
   split at hb
   ·cases hb; rw [XQ hb4] at hi; cases hi
   ·cases hb
 ·obtain ⟨b, hb⟩ := Option.isSome_iff_exists.1 hs
  rcases Qa1 hK hb with ⟨rfl, _⟩ | ⟨rfl, _⟩ | ⟨rfl, _⟩ | ⟨m, hm, rfl, _⟩ <;> omega
 ·have := congrArg List.length e
  simp only [List.length_map, List.length_nil] at this
  omega
 ·obtain ⟨u, _, rfl⟩ := List.mem_map.1 hr
  simp only [YC, List.mem_cons, List.not_mem_nil, or_false] at hd
  rcases hd with rfl | rfl | rfl <;> rfl
 ·by_cases e : 500000 = j
  ·subst e; rfl
  ·rw [Qm, if_neg e, Qm, if_neg e]; rw [Qm (k := 500000), if_neg e]
def QhR (us : List UR) (i : Nat) : Nat := match us[i]? with
 | some u => u.cs.length
 | none => 0
theorem Qap {us : List UR} {i : Nat} (h : i < us.length) : QhR us i = us[i].cs.length := by rw [QhR, List.getElem?_eq_getElem h]
theorem Qag (us : List UR) (i k : Nat) (z : CR) : QhR (QbO us i k z) i = QhR us i := by
 by_cases h : i < us.length
 ·rw [Qap h, Qap (by rw [Zt]; exact h), Qau h, if_pos rfl]
  simp [Qdr]
 ·have e : (QbO us i k z).length = us.length := Zt ..
  rw [QhR, QhR, List.getElem?_eq_none (show us.length <= i by omega), List.getElem?_eq_none (show (QbO us i k z).length <= i by omega)]
theorem Qhy {us : List UR} {i k : Nat} {z : CR} (hi : i < us.length) (hk : k < us[i].cs.length) {us2 : List UR} (e : us2 = QbO us i k z) (hi2 : i < us2.length) (hk2 : k < us2[i].cs.length) : us2[i].cs[k] = z := by
 subst e
 have e1 := Qau (i := i) (k := k) (z := z) hi
 rw [if_pos rfl] at e1
 have e2 : (QbO us i k z)[i].cs[k] = (Qdr us[i] k z).cs[k]'(by simpa [Qdr] using hk) := by congr 1; rw [e1]
 rw [e2]; simp [Qdr]
theorem QmE {cs : List CR} {k : Nat} {z : CR} (hk : k < cs.length) (hz : cs[k] = z) : (cs.map dCR)[((k : Nat) : Int).toNat]? = some (dCR z) := by rw [Qom hk, hz]
theorem Qmf {cs : List CR} {k : Nat} {row : List D} (hk : k < cs.length) : ((cs.map dCR).set ((k : Nat) : Int).toNat row)[((k : Nat) : Int).toNat]? = some row := by
 rw [Int.toNat_natCast, List.getElem?_set_self (by simpa using hk)]
theorem Qha {K k e t : Nat} {L : List (List D)} {r1 r2 : List D} {p : Bool} {H : List (Nat × Box)} : lk ((K, (⟨(L.set k r1).set k r2, e, t, p⟩ : Box)) :: H) K = some ⟨L.set k r2, e, t, p⟩ := by rw [Qv, List.set_set]
theorem QdJ {H : List (Nat × Box)} {kk m e t : Nat} {ys : List (List D)} {v : Vr} {sh : Int} (h : lk H kk = some ⟨ys, e, t, true⟩) (hm : m = ys.length) : ([D.int .i64 v.a, .int .i64 v.b, .int .i64 v.c, .str v.p, .str v.q, .int .i64 sh, .osl kk m, .fsl []].map (D.fzS H (· == kk))).map D.canS = [.int .i64 v.a, .int .i64 v.b, .int .i64 v.c, .str v.p, .str v.q, .int .i64 sh, .sl ys, .sl []] := by
 simp only [List.map_cons, List.map_nil, D.fzS, beq_self_eq_true, if_true, h, hm, and_self, D.canS]
theorem QjW {H : List (Nat × Box)} {kk m e t : Nat} {ys : List (List D)} {v : Vr} {sh : Int} {ns : List (List WantT)} (h : lk H kk = some ⟨ys, e, t, true⟩) (hm : m = ys.length) : ([D.int .i64 v.a, .int .i64 v.b, .int .i64 v.c, .str v.p, .str v.q, .int .i64 sh, QQ ns, .osl kk m].map (D.fzS H (· == kk))).map D.canS = [.int .i64 v.a, .int .i64 v.b, .int .i64 v.c, .str v.p, .str v.q, .int .i64 sh, QQ ns, .sl ys] := by
 simp only [QQ, List.map_cons, List.map_nil, D.fzS, beq_self_eq_true, if_true, h, hm, and_self, D.canS]
theorem Qn2 {us : List UR} {eu ec eg : Nat} {L : List Int} {J J2 : Int} {b4 : Box} (k : Nat) : lk ((12, gB L J2 eg) :: wA us eu ec eg L J b4) k = lk (wA us eu ec eg L J2 b4) k := by
 show lk ((12, _) :: (500000, _) :: (12, _) :: (4, _) :: fbx ec us) k = lk ((500000, _) :: (12, _) :: (4, _) :: fbx ec us) k
 by_cases e : 12 = k
 ·subst e; rfl
 ·rw [Qm, if_neg e, Qm, Qm (k := 500000)]
  split
  ·rfl
  ·rw [Qm, if_neg e, Qm (k := 12), if_neg e]
theorem Qic {cs : List CR} {k e t : Nat} {row : List D} (h : ∀ z ∈ cs, PureC z) (hr : ∀ d ∈ row, ∀ j ∈ d.sid, j = 64) : ∀ j ∈ Box.ids ⟨(cs.map dCR).set k row, e, t, false⟩, j = 64 := fun j hj => by
 simp only [Box.ids, Bool.false_eq_true, if_false, List.mem_flatMap] at hj
 obtain ⟨r, hrm, d, hd, hj⟩ := hj
 rcases Qdk hrm with rfl | hrm
 ·exact hr d hd j hj
 ·obtain ⟨z, hz, rfl⟩ := List.mem_map.1 hrm
  rw [(h z hz).all d hd] at hj; cases hj
theorem QoS {us : List UR} {eu ec eg : Nat} {L : List Int} {J : Int} {b4 b64 : Box} {n i k : Nat} (h : Prog n us i k) (hi : i < us.length) (hk : k < us[i].cs.length) {zx : CR} (hv : Qd1 zx.v) (hrow : zx.x.sid = [] /\ zx.y.sid = [64] /\ zx.z.sid = []) (hb4 : b4.pr = true) (h64 : b64.pr = true) :
  Fam ((500001 + i, ⟨(us[i].cs.map dCR).set k (dCR zx), 8, ec, false⟩) :: (64, b64) :: wA us eu ec eg L J b4) 12 500000 eu ec (QbO us i k zx) /\ Closed ((500001 + i, ⟨(us[i].cs.map dCR).set k (dCR zx), 8, ec, false⟩) :: (64, b64) :: wA us eu ec eg L J b4) := by
 refine ⟨⟨by decide, ⟨false, ?_⟩, fun y hy => ?_, fun y hy => ?_⟩, ?_⟩
 ·rw [Qm, if_neg (by omega), Qm, if_neg (by decide), QdT, Qi2]
 ·obtain ⟨j, hj, rfl⟩ := List.getElem_of_mem hy
  have hK' := Qc2 (i := i) (k := k) (z := zx) h.keys
  have hj' := hj
  rw [Zt] at hj'
  refine ⟨by rw [hK' j hj]; omega, ?_⟩
  rw [hK' j hj]
  by_cases e : i = j
  ·subst e
   refine ⟨false, ?_⟩
   rw [Qv, Qau hj', if_pos rfl, Qdr, List.map_set]
  ·refine ⟨true, ?_⟩
   rw [Qm, if_neg (by omega), Qm, if_neg (by omega), Qcn h.keys hj', Qau hj', if_neg e]
 ·obtain ⟨j, hj, rfl⟩ := List.getElem_of_mem hy
  have hj' := hj
  rw [Zt] at hj'
  rw [Qau hj']
  have hfam := h.fam us[j] (List.getElem_mem _)
  split
  ·refine ⟨by simpa [Qdr] using hfam.1, fun z hz => ?_⟩
   rcases Qdk hz with rfl | hz
   ·exact hv
   ·exact hfam.2 z hz
  ·exact hfam
 ·refine ((X6 h.keys hb4).pr h64).cons fun j hj => ?_
  have := Qic (e := 8) (t := ec) (k := k) (row := dCR zx) (fun z hz => (h.pure hi z hz).1) (fun d hd j hj => by
   simp only [dCR, List.mem_cons, List.not_mem_nil, or_false] at hd
   rcases hd with rfl | rfl | rfl | rfl | rfl | rfl | rfl | rfl
   ·cases hj
   ·cases hj
   ·cases hj
   ·cases hj
   ·cases hj
   ·rw [hrow.1] at hj; cases hj
   ·rw [hrow.2.1] at hj; simpa using hj
   ·rw [hrow.2.2] at hj; cases hj) j hj
  subst this; exact QU
theorem Prog.start {us : List UR} (h : UnitsIn us) (h2 : 2 <= us.length) (h11 : us.length <= 11) : Prog us.length us 0 0 := by
 refine ⟨h.keys, ⟨rfl, h2, h11⟩, fun u hu => (h.fresh u hu).1, fun j hj m hm hd => by omega, fun j hj m hm _ => ?_⟩
 obtain ⟨v, sh, e, hv⟩ := (h.fresh _ (List.getElem_mem hj)).2 _ (List.getElem_mem hm)
 exact ⟨v, sh, e, hv⟩
theorem Qde {n : Nat} {m : Int} {v : Vr} {sh : Int} {ns : List (List WantT)} (hv : Qd1 v) (h : QdX n m ns) (hm : m <= 3) : Qaa n ⟨v, sh, ns, []⟩ :=
 ⟨hv, by show ns.length <= 10; have := h.1; omega, fun r hr => ⟨(h.2 r hr).1, fun x hx => ((h.2 r hr).2 x hx).w⟩, Nat.zero_le _, fun x hx => by cases hx⟩
theorem QgT {n i : Nat} {m : Int} {v : Vr} {sh : Int} {ns : List (List WantT)} (hv : Qd1 v) (h : QdX n m ns) (hm : m <= 3) (h1 : 1 <= i) (hi : i < n) : Qaa n ⟨v, sh, [⟨(i : Int) - 1, Y4 v.a v.b v.c v.p v.q⟩] :: ns, []⟩ := by
 refine ⟨hv, by show (_ :: ns).length <= 10; have := h.1; simp only [List.length_cons]; omega, fun r hr => ?_, Nat.zero_le _, fun x hx => by cases hx⟩
 rcases List.mem_cons.1 hr with rfl | hr
 ·refine ⟨by simp, fun x hx => ?_⟩
  simp only [List.mem_singleton] at hx; subst hx
  have := QbI (a := v.a) (b := v.b) (c := v.c) (q := v.q) hv.1
  exact ⟨by show 0 <= (i : Int) - 1; omega, by show (i : Int) - 1 < n; omega, this.1.up (by omega), this.2.up (by omega)⟩
 ·exact ⟨(h.2 r hr).1, fun x hx => ((h.2 r hr).2 x hx).w⟩
theorem QgS {n : Nat} {v : Vr} {sh : Int} {ns : List (List WantT)} (h : Qaa n ⟨v, sh, ns, []⟩) {x : WantT} (hx : WantIn n x) : Qaa n ⟨v, sh, ns, [x]⟩ := ⟨h.v, h.nl, h.nr, by simp, by intro y hy; simp only [List.mem_singleton] at hy; subst hy; exact hx.w⟩
theorem Qhz {us : List UR} {i k : Nat} {z : CR} (hi : i < us.length) (hk : k < us[i].cs.length) {us2 : List UR} (e : QbO us i k z = us2) (hi2 : i < us2.length) : k < us2[i].cs.length := by
 rw [<- Qap hi2, <- e, Qag, Qap hi]; exact hk
theorem Qmc {l : List (List WantT)} : ∀ r ∈ l.map (fun r => [Q7 r]), r.length = 1 := fun r hr => by obtain ⟨x, _, rfl⟩ := List.mem_map.1 hr; rfl
end M25
namespace M25
open Go Go.Abs M3
/-! ### Trails that may be -/
end M25
namespace M25
open Go Go.Abs M3
/-! ### What every program says -/
/-! ### A world's facts, and more -/
end M25
namespace M25
open Go Go.Abs M3
/-! ### Powers of two -/
/-! ### Steps that may be: the program's -/
/-! ### Deciding -/
end M25
namespace M25
open Go Go.Abs M3
/-! ### Back, Sure, When -/
/-! ### What valid trails are -/
/-! ### Levels -/
end M25
namespace M25
open Go Go.Abs M3
def QiR {α : Type} (p : α -> Bool) (l : List α) : Int := match l.findIdx? p with
 | some i => i
 | none => -1
theorem X1 {α : Type} {p : α -> Bool} {l : List α} {i : Nat} (h : i < l.length) (ha : (l.take i).any p = false) (hp : p l[i] = true) : QiR p l = i := by
 have e : l.findIdx? p = some i := by
  rw [List.findIdx?_eq_some_iff_getElem]
  refine ⟨h, hp, fun j hj => ?_⟩
  have := List.any_eq_false.1 ha l[j] (by
   rw [List.mem_take_iff_getElem]
   exact ⟨j, by omega, rfl⟩)
  simpa using this
 rw [QiR, e]
theorem Qj5 {α : Type} {p : α -> Bool} {l : List α} {i : Nat} (h : l.length <= i) (ha : (l.take i).any p = false) : QiR p l = -1 := by
 have e : l.findIdx? p = none := by
  rw [List.findIdx?_eq_none_iff]
  rw [List.take_of_length_le h] at ha
  intro x hx
  simpa using List.any_eq_false.1 ha x hx
 rw [QiR, e]
theorem Qj4 {α : Type} (p : α -> Bool) (l : List α) : decide (QiR p l >= 0) = l.any p := by
 cases e : l.findIdx? p with
 | none =>
  rw [QiR, e]
  rw [List.findIdx?_eq_none_iff] at e
  have : l.any p = false := List.any_eq_false.2 fun x hx => by simpa using e x hx
  rw [this]; rfl
 | some i =>
  rw [QiR, e]
  rw [List.findIdx?_eq_some_iff_getElem] at e
  obtain ⟨h, hp, _⟩ := e
  rw [QhK h hp]
  simp
/-! ### The first row of lefts -/
end M25
namespace M25
open Go Go.Abs M3
/-! ### When, Qgy by Qgy -/
/-! ### The Qe8 world -/
end M25
namespace M25
open Go Go.Abs M3
/-! ### What a run is: steps, one open after the other -/
inductive Qk0 (w : Zo) (db : List (List QeT)) : List Qa6 -> List Qa6 -> Prop
 | nil (l : List Qa6) : Qk0 w db l l
 | cons {l x : List Qa6} (a k : Nat) (ho : Qnk w db l a k) (h : Qk0 w db (l ++ [QoR w l ((db[a]'ho.ha)[k]'ho.hk) a]) x) : Qk0 w db l x
section
variable {w : Zo} {db : List (List QeT)}
def Below (w : Zo) (b l : List Qa6) : Prop := ∀ u i, tb (Qe2 w b u) i = true -> tb (Qe2 w l u) i = true
/-! ### Sound: a choice stays -/
end
end M25
namespace M25
open Go Go.Abs M3
end M25
namespace M25
open Go Go.Abs M3
/-! ### More of runs -/
end M25
namespace M25
open Go Go.Abs M3
/-! ### The facts in another order -/
end M25
namespace M25
open Go Go.Abs M3
/-! ### How long a run is -/
structure Good (w : Zo) (l : List Qa6) : Prop where
 p : Qnl w l
 nz : ∀ u, inW w u = true -> Qe2 w l u ≠ 0
 le : ∀ u i, tb (Qe2 w l u) i = true -> tb (QnM w u) i = true
end M25
namespace M25
open Go Go.Abs M3
/-! ### Masks are of values that there are -/
/-! ### Each Qgy of a run -/
end M25
namespace M25
open Go Go.Abs M3
end M25
namespace M25
open Go Go.Abs M3
/-! ### Derive again -/
/-! ### Sure, and what holds -/
end M25
namespace M25
open Go Go.Abs M3
/-! ### The choice that a trail has decided -/
end M25
namespace Go.Proofs
open Go Go.Abs M3 M25
set_option linter.unusedVariables false
set_option linter.unusedSimpArgs false
theorem QaJ {a b : List Int} (ha : a.length <= 10000000) : Ok Try.prog 52 [Zz a, Zz b] (.bool (decide (a = b))) := by
 refine Ok.ofT Z2 Try.func52 Qpu (Nat.le_of_ble_eq_true Z) ?_
 show TW _ _ tf52.body _ _
 refine Qe fun K hK => Qa Z (hK _ _ (Qb (kp2 Z Z) ?_))
 refine QF ?_ -- 0
 refine Qe fun K hK => Qa Z ?_
 first | refine Q4 rfl Za ?_ | refine Q4 rfl rfl ?_
 refine Qa Z ?_
 first | refine Q4 rfl Za ?_ | refine Q4 rfl rfl ?_
 refine YR Z Z (hK _ _ (Qb (kp3 Z Z Z) ?_))
 refine Qz Z (fun h1 => ?_) (fun h1 => ?_)
 ·try rw [h1]
  try simp only [qA] at h1
  refine Qe fun K hK => Qa Z (hK _ _ (Qb (kp1 Z) ?_))
  refine Qs (Qk (Qo Z ?_))
  rw [decide_eq_false fun e => h1 (by rw [e])]
 ·try rw [h1]
  try simp only [qA] at h1
  refine Qu (Qd (kp2 Z Z) ?_)
  refine QF ?_ -- 1
  refine Qe fun K hK => Qa Z (hK _ _ (Qb (kp3 Z Z Z) ?_))
  refine QH ?_
  refine ZQ (ι := Nat) (fun i => ⟨[(0, Zz a), (1, Zz b), (5, .int .i64 i)], []⟩) (fun i => i <= a.length /\ a.take i = b.take i) (fun i => a.length - i) 0 ?_ ?_ ?_
  ·exact QV (kp3 rfl rfl rfl)
  ·exact ⟨Nat.zero_le _, by simp⟩
  intro i hI
  try dsimp only
  refine QF ?_ -- 2
  refine Qe fun K hK => Qa Z (Qa Z ?_)
  first | refine Q4 rfl Za ?_ | refine Q4 rfl rfl ?_
  refine Yz Z Z (hK _ _ (Qb (kp4 Z Z Z Z) ?_))
  refine Qz Z (fun h2 => ?_) (fun h2 => ?_)
  ·try rw [h2]
   try simp only [qA] at h2
   refine Qu (Qd (kp3 Z Z Z) ?_)
   refine QF ?_ -- 3
   refine QH (Qe fun K hK => Qa Z (Qa Z (QD Z Z Z (by omega) (Q9 (by omega)) Z (QP (ds0 := [0]) Z Z Z Z Z (Qa Z (Qa Z (QD Z Z Z (by omega) (Q9 (by omega)) Z (QP (ds0 := [0]) Z Z Z Z Z ?_))))))))
   first | refine YR rfl rfl ?_ | refine QgG rfl rfl ?_
   refine hK _ _ (Qb (kp4 Z Z Z Z) ?_)
   refine Qz Z (fun h3 => ?_) (fun h3 => ?_)
   ·try rw [h3]
    try simp only [qA] at h3
    refine Qe fun K hK => Qa Z (hK _ _ (Qb (kp1 Z) ?_))
    refine Qs (Qp (Qk (QZ (Qp (Qk (Qo Z ?_))))))
    rw [QkF (i := i) (by omega) (by omega) h3]
   ·try rw [h3]
    try simp only [qA] at h3
    refine Qu (Qh (Qd (kp3 Z Z Z) (Q2 fun K hK => Qa Z (Zd Z Z (by first | exact Qq (by omega) (by omega) | exact QJ (by omega) (by omega) | exact QM (by omega) (by omega) | rfl) (Qa Z (hK _ ?_))))))
    refine Qj (i + 1) ?_ ?_ ?_
    ·exact QV (kp3 rfl rfl rfl)
    ·exact ⟨by omega, QhC (by omega) (by omega) hI.2 h3⟩
    ·first | omega | (simp only; omega) | (dsimp only; omega)
  ·try rw [h2]
   try simp only [qA] at h2
   refine Zu (QL (Qy (QI (Qd (QO) (Qe fun K hK => Qa Z (hK _ _ (Qb (kp1 Z) ?_)))))))
   refine Qs (Qo Z ?_)
   rw [List.take_of_length_le (by omega), List.take_of_length_le (by omega)] at hI; exact (decide_eq_true hI.2).symm
end Go.Proofs
namespace Go.Proofs
open Go Go.Abs M3 M25
set_option linter.unusedVariables false
set_option linter.unusedSimpArgs false
theorem Qby {s : St} {args : List Opd} {kg : Nat} {L : List Int} {I n : Int} {et : Nat} (ha : Zx s args = some [.ref kg 0 0, .int .i64 n]) (hg : lk s.H kg = some (gB L I et)) (hL : ∀ x ∈ L, I64 x) (hn : n <= 9223372036854775807) : Qa8 Try.prog 28 args s [(kg, gB L I et)] [] [(kg, gB L (nxI I) et)] (.int .i64 (nx L I n)) := by
 refine Qiu (b' := gB L (nxI I) et) (ds' := [.ref (upN kg) 0 0, .int .i64 n]) ha (fun j x h => ?_) (fun k b hk j hj => ?_) (fun x hx j hj => ?_) ?_ Z Z Z Z ?_
 ·obtain ⟨rfl, rfl⟩ := XH h; exact hg
 ·obtain ⟨rfl, rfl⟩ := XH hk; simp [Box.ids, gB] at hj
 ·simp only [List.mem_cons, List.not_mem_nil, or_false] at hx
  rcases hx with rfl | rfl
  ·simp [D.ids, D.sid] at hj; subst hj; rw [Qv]; rfl
  ·simp [D.ids, D.sid] at hj
 ·rw [Qv]; rfl
 ·exact Xt (by unfold upN; omega) hL hn et
theorem Qct {H : List (Nat × Box)} {kg kc : Nat} {L : List Int} {I : Int} {eg ec : Nat} {pr : Bool} {zs : List CR} (hkg : 1000000 <= kg) (hg : lk H kg = some (gB L I eg)) (hc : lk H kc = some ⟨zs.map dCR, 8, ec, pr⟩) (hne : kg ≠ kc) (hB : Big H) (hC : Closed H) (hL : ∀ x ∈ L, I64 x) (hz : ∀ z ∈ zs, Qd1 z.v) (hn : zs.length <= 16) : ∃ d H2, (∃ s I2, SetOk s /\ d = Qgw s /\ H2 = (kg, gB L I2 eg) :: H) /\ OkH Try.prog 59 [.ref kg 0 0, .osl kc zs.length] H d H2 := by
 have hkc := hB _ _ hc
 refine OkH.ofX (R := fun d H2 => ∃ s I2, SetOk s /\ d = Qgw s /\ H2 = (kg, gB L I2 eg) :: H) Z2 Try.func59 QpB (Nat.le_of_ble_eq_true Z) ?_
 show TX _ _ tf59.body _ _
 refine Zh fun K hK => ?_
 refine ZU (by repeat (first | exact hB.none (by decide) | refine Zs (by first | decide | omega) ?_)) ?_
 refine hK _ _ (QX (kp3 Z Z Z) ?_)
 refine Zh fun K hK => Qa Z (Yy (Qby (I := I) Z (Qi (by omega) hg) hL (by omega)) (Qa Z (hK _ _ (QX (kp4 Z Z Z Z) ?_))))
 refine Zh fun K hK => QE (Z4) Z Z (.inl Z) ?_
 refine ZU (by repeat (first | exact hB.none (by decide) | refine Zs (by first | decide | omega) ?_)) ?_
 refine Q6 Z Z Z Z Z Z Z Z (hK _ _ (QX (kp5 Z Z Z Z Z) ?_))
 refine X8 ?_ -- 0
 refine Zh fun K hK => Qa Z (hK _ _ (QX (kp6 Z Z Z Z Z Z) ?_))
 refine YZ ?_
 refine Qd2 (ι := Nat × QhE) (fun ⟨i, s⟩ => ⟨[(0, .ref kg 0 0), (1, .osl kc zs.length), (4, .ref 4 0 0), (5, .int .i64 (nx L I 8)), (6, .ref 6 0 0), (7, .int .i64 i)], [(4, ⟨[[.fsl [], .fsl []]], 2, 74, true⟩), (6, ⟨[[ZO s.1, ZO s.2]], 2, 74, true⟩), (kg, gB L (nxI I) eg)] ++ H⟩) (fun ⟨i, s⟩ => i <= zs.length /\ Qje (bnd i - 4) s) (fun ⟨i, s⟩ => zs.length - i) (0, ([], [])) ?_ ?_ ?_
 ·exact Qex (l := [0, 1, 4, 5, 6, 7]) (B := [_, _, _, _]) (kp6 rfl rfl rfl rfl rfl rfl) rfl (by intro p hp; simp only [List.mem_cons, List.not_mem_nil, or_false] at hp; rcases hp with rfl | rfl | rfl <;> exact ⟨by repeat (first | exact Qv | refine Qi (by first | decide | omega) ?_), rfl⟩) rfl (by intro p hp h; simp only [List.mem_cons, List.not_mem_nil, or_false] at hp; rcases hp with rfl | rfl | rfl | rfl <;> first | (simp only at h; omega) | (repeat (first | exact QU | refine QS ?_))) hB hC (by intro p hp k hk; simp only [List.mem_cons, List.not_mem_nil, or_false] at hp; rcases hp with rfl | rfl | rfl | rfl | rfl | rfl <;> first | (simp [D.ids, D.sid, Q7, QQ, Zz] at hk; done) | (simp [D.ids, D.sid, Q7, QQ, Zz] at hk; subst hk; repeat (first | exact QU | exact Zq hg | exact Zq hc | refine QS ?_)))
 ·exact ⟨Nat.zero_le _, SmN.nil _, SmN.nil _⟩
 intro ⟨i, s⟩ hI
 try dsimp only at hI
 have hb16 := QlV (i := i) (by omega)
 try dsimp only
 refine X8 ?_ -- 1
 refine Zh fun K hK => Qa Z (Qa Z ?_)
 first | refine Q4 rfl Za ?_ | refine Q4 rfl rfl ?_
 refine Yz Z Z (hK _ _ (QX (kp7 Z Z Z Z Z Z Z) ?_))
 refine Xi Z (fun h1 => ?_) (fun h1 => ?_)
 ·try rw [h1]
  try simp only [qA] at h1
  refine Xs (Zb (kp6 Z Z Z Z Z Z) ?_)
  refine X8 ?_ -- 2
  refine YZ (Zh fun K hK => Qa Z (Qa Z (QgD Z (Qja (by omega) (by omega)) (Qns Z Z (by omega) (Qnm Z Z (Xk Z Z (hK _ _ (QX (kp7 Z Z Z Z Z Z Z) ?_))))))))
  refine Xi Z (fun h2 => ?_) (fun h2 => ?_)
  ·try rw [h2]
   try simp only [qA] at h2
   have hvp := (hz _ (List.getElem_mem (show i < zs.length by omega))).1
   refine Z0 fun K hK => Q0 (ds0 := [1, 0]) (cs := [_, _]) Z Z Z Z (by simp [Dr.ok, Qbl]) Z (Qa Z (Qa Z (Qco (ds0 := [4, 3, 2, 1, 0]) Z Z (Qi (by omega) (Qi (by omega) (Qi (by omega) hc))) (by simp) (by omega) (by omega) Z (by simp [Dr.ok, Qbl]) Z (Qn Z (Zq (Qi (by omega) (Qi (by omega) (Qi (by omega) hc)))) (Q0 (ds0 := [2, 1, 0]) (cs := [_, _, _, _, _]) Z (Ye (Qi (by omega) (Qi (by omega) (Qi (by omega) hc))) (Q9 (by omega))) Z Z (by simp [Dr.ok, Qbl]) Z (Zj (ds0 := [1, 0]) (XD (hz _ (List.getElem_mem (by omega))).1 (hz _ (List.getElem_mem (by omega))).2) Z Z (.inl Z) (by simp [Dr.ok, Qbl]) Z (Zj (ds0 := [0]) (Qda (a := s) (b := (Y4 (zs[i]'(by omega)).v.a (zs[i]'(by omega)).v.b (zs[i]'(by omega)).v.c (zs[i]'(by omega)).v.p (zs[i]'(by omega)).v.q)) (hI.2.1.sm (by omega)) (hI.2.2.sm (by omega)) ((QbI hvp).1.sm (by omega)) ((QbI hvp).2.sm (by omega)) (by have := hI.2.1.1; have := (QbI (a := (zs[i]'(by omega)).v.a) (b := (zs[i]'(by omega)).v.b) (c := (zs[i]'(by omega)).v.c) (q := (zs[i]'(by omega)).v.q) hvp).1.1; omega) (by have := hI.2.2.1; have := (QbI (a := (zs[i]'(by omega)).v.a) (b := (zs[i]'(by omega)).v.b) (c := (zs[i]'(by omega)).v.c) (q := (zs[i]'(by omega)).v.q) hvp).2.1; omega)) Z Z (.inl Z) (by simp [Dr.ok, Qbl]) Z (XJ (ds0 := []) Z Z Z Z Z Z Z Z (by simp [Dr.ok, Qbl]) Z (hK _ ?_)))))))))
   refine Qh (Zb (kp6 Z Z Z Z Z Z) (Z0 fun K hK => Qa Z (Zd Z Z (by first | exact Qq (by omega) (by omega) | rfl) (Qa Z (hK _ ?_)))))
   refine Qj (i + 1, Ql5 s (Y4 (zs[i]'(by omega)).v.a (zs[i]'(by omega)).v.b (zs[i]'(by omega)).v.c (zs[i]'(by omega)).v.p (zs[i]'(by omega)).v.q)) ?_ ?_ ?_
   ·exact Qex (l := [0, 1, 4, 5, 6, 7]) (B := [_, _, _, _]) (kp6 rfl rfl rfl rfl rfl rfl) rfl (by intro p hp; simp only [List.mem_cons, List.not_mem_nil, or_false] at hp; rcases hp with rfl | rfl | rfl <;> exact ⟨by repeat (first | exact Qv | refine Qi (by first | decide | omega) ?_), rfl⟩) rfl (by intro p hp h; simp only [List.mem_cons, List.not_mem_nil, or_false] at hp; rcases hp with rfl | rfl | rfl | rfl <;> first | (simp only at h; omega) | (repeat (first | exact QU | refine QS ?_))) hB hC (by intro p hp k hk; simp only [List.mem_cons, List.not_mem_nil, or_false] at hp; rcases hp with rfl | rfl | rfl | rfl | rfl | rfl <;> first | (simp [D.ids, D.sid, Q7, QQ, Zz] at hk; done) | (simp [D.ids, D.sid, Q7, QQ, Zz] at hk; subst hk; repeat (first | exact QU | exact Zq hg | exact Zq hc | refine QS ?_)))
   ·exact ⟨by show i + 1 <= _; omega, QnW hI.2 (hz _ (List.getElem_mem (by omega))).1 (by omega)⟩
   ·show zs.length - (i + 1) < zs.length - i; omega
  ·try rw [h2]
   try simp only [qA] at h2
   have hvp := (hz _ (List.getElem_mem (show i < zs.length by omega))).1
   refine Xs (Qh (Zb (kp6 Z Z Z Z Z Z) (Z0 fun K hK => Qa Z (Zd Z Z (by first | exact Qq (by omega) (by omega) | rfl) (Qa Z (hK _ ?_))))))
   refine Qj (i + 1, s) ?_ ?_ ?_
   ·exact Qex (l := [0, 1, 4, 5, 6, 7]) (B := [_, _, _]) (kp6 rfl rfl rfl rfl rfl rfl) rfl (by intro p hp; simp only [List.mem_cons, List.not_mem_nil, or_false] at hp; rcases hp with rfl | rfl | rfl <;> exact ⟨by repeat (first | exact Qv | refine Qi (by first | decide | omega) ?_), rfl⟩) rfl (by intro p hp h; simp only [List.mem_cons, List.not_mem_nil, or_false] at hp; rcases hp with rfl | rfl | rfl <;> first | (simp only at h; omega) | (repeat (first | exact QU | refine QS ?_))) hB hC (by intro p hp k hk; simp only [List.mem_cons, List.not_mem_nil, or_false] at hp; rcases hp with rfl | rfl | rfl | rfl | rfl | rfl <;> first | (simp [D.ids, D.sid, Q7, QQ, Zz] at hk; done) | (simp [D.ids, D.sid, Q7, QQ, Zz] at hk; subst hk; repeat (first | exact QU | exact Zq hg | exact Zq hc | refine QS ?_)))
   ·exact ⟨by show i + 1 <= _; omega, QlH hI.2⟩
   ·show zs.length - (i + 1) < zs.length - i; omega
 ·try rw [h1]
  try simp only [qA] at h1
  refine Qdu (Xx (Qy (QI (Zb (kp3 Z Z Z) ?_))))
  refine X8 ?_ -- 3
  refine Zh fun K hK => Qa Z (Yy (Qby (I := nxI I) Z (Qi (by omega) (Qi (by omega) Qv)) hL (by omega)) (hK _ _ (QX (kp3 Z Z Z) ?_)))
  refine YZ (Zh fun K hK => Xk Z Z (Qa Z (hK _ _ (QX (kp4 Z Z Z Z) ?_))))
  refine Xi Z (fun h3 => ?_) (fun h3 => ?_)
  ·try rw [h3]
   try simp only [qA] at h3
   refine Zh fun K hK => QE (Qcw) Z Z (.inl Z) (Q6 Z (Qi (by omega) Z) Z Z Z Z Z Z (hK _ _ (QX (kp1 Z) ?_)))
   refine QgJ (Qp (Qi1 ?_))
   refine ⟨Qgw QjG, (kg, gB L (nxI (nxI I)) eg) :: H, ⟨QjG, _, ⟨QlR.1.up (by omega), QlR.2.up (by omega)⟩, rfl, rfl⟩, (Xr hB hC hkg rfl).1, (Xr hB hC hkg rfl).2, ?_⟩
   refine QbN (cs := [ZO QjG.1, ZO QjG.2]) Z (Ye (by repeat (first | exact Qv | refine Qi (by first | decide | omega) ?_)) Z) Z Z Z ?_
   exact Qah (B := [_, _, _, _, _]) hB (by repeat (first | exact Qv | refine Qi (by first | decide | omega) ?_)) (by intro p hp h; simp only [List.mem_cons, List.not_mem_nil, or_false] at hp; rcases hp with rfl | rfl | rfl | rfl | rfl <;> first | rfl | (simp only at h; omega))
  ·try rw [h3]
   try simp only [qA] at h3
   refine Zh fun K hK => Xk Z Z (Qa Z (hK _ _ (QX (kp3 Z Z Z) ?_)))
   refine Xi Z (fun h4 => ?_) (fun h4 => ?_)
   ·try rw [h4]
    try simp only [qA] at h4
    refine Zh fun K hK => QR (cs := [_, _]) Z (Ye (Qi (by omega) Z) Z) Z Z (QE (Qcx (a := s) (hI.2.1.sm (by omega)) (hI.2.2.sm (by omega))) Z Z (.inl Z) (Q6 Z (Qi (by omega) Z) Z Z Z Z Z Z (hK _ _ (QX (kp1 Z) ?_))))
    refine QgJ (Qp (Qi1 ?_))
    refine ⟨Qgw (Qgb s), (kg, gB L (nxI (nxI I)) eg) :: H, ⟨(Qgb s), _, ⟨(Qkm hI.2 (by omega)).1.up (by omega), (Qkm hI.2 (by omega)).2.up (by omega)⟩, rfl, rfl⟩, (Xr hB hC hkg rfl).1, (Xr hB hC hkg rfl).2, ?_⟩
    refine QbN (cs := [ZO (Qgb s).1, ZO (Qgb s).2]) Z (Ye (by repeat (first | exact Qv | refine Qi (by first | decide | omega) ?_)) Z) Z Z Z ?_
    exact Qah (B := [_, _, _, _, _]) hB (by repeat (first | exact Qv | refine Qi (by first | decide | omega) ?_)) (by intro p hp h; simp only [List.mem_cons, List.not_mem_nil, or_false] at hp; rcases hp with rfl | rfl | rfl | rfl | rfl <;> first | rfl | (simp only at h; omega))
   ·try rw [h4]
    try simp only [qA] at h4
    refine Xs (Qh (Zb (kp2 Z Z) (Zh fun K hK => QR (cs := [_, _]) Z (Ye (Qi (by omega) Z) Z) Z Z (Q6 Z (Qi (by omega) Z) Z Z Z Z Z Z (hK _ _ (QX (kp1 Z) ?_))))))
    refine QgJ ?_
    refine ⟨Qgw s, (kg, gB L (nxI (nxI I)) eg) :: H, ⟨s, _, ⟨hI.2.1.up (by omega), hI.2.2.up (by omega)⟩, rfl, rfl⟩, (Xr hB hC hkg rfl).1, (Xr hB hC hkg rfl).2, ?_⟩
    refine QbN (cs := [ZO s.1, ZO s.2]) Z (Ye (by repeat (first | exact Qv | refine Qi (by first | decide | omega) ?_)) Z) Z Z Z ?_
    exact Qah (B := [_, _, _, _, _]) hB (by repeat (first | exact Qv | refine Qi (by first | decide | omega) ?_)) (by intro p hp h; simp only [List.mem_cons, List.not_mem_nil, or_false] at hp; rcases hp with rfl | rfl | rfl | rfl | rfl <;> first | rfl | (simp only at h; omega))
end Go.Proofs
namespace Go.Proofs
open Go Go.Abs M3 M25
set_option linter.unusedVariables false
set_option linter.unusedSimpArgs false
/-- The call of 'set', over boxes that are lent. -/
theorem Qos {H : List (Nat × Box)} {kg kc : Nat} {L : List Int} {I : Int} {eg ec : Nat} {pr : Bool} {zs : List CR} (hg : lk H kg = some (gB L I eg)) (hc : lk H kc = some ⟨zs.map dCR, 8, ec, pr⟩) (hne : kg ≠ kc) (hC : Closed H) (hL : ∀ x ∈ L, I64 x) (hz : ∀ z ∈ zs, Qd1 z.v) (hn : zs.length <= 16) :
  ∃ s I2, SetOk s /\ ∀ (st : St) (args : List Opd), Zx st args = some [.ref kg 0 0, .osl kc zs.length] -> (∀ j x, lk H j = some x -> lk st.H j = some x) -> Qa8 Try.prog 59 args st H [] [(kg, gB L I2 eg)] (Qgw s) := by
 obtain ⟨d, H2, ⟨s, I2, hs, rfl, rfl⟩, hok⟩ := Qct (H := upH H) (kg := upN kg) (kc := upN kc) (L := L) (I := I) (eg := eg) (ec := ec) (pr := pr) (zs := zs.map CR.ren) (by unfold upN; omega) (by rw [Qai, hg]; rfl) (by rw [Qai, hc, Option.map_some, Box.ren, QjN]) (fun e => hne (Qil e)) Qik (Qds hC) hL
  (fun z hz' => by obtain ⟨z0, h0, rfl⟩ := List.mem_map.1 hz'; exact hz z0 h0) (by simpa using hn)
 refine ⟨s, I2, hs, fun st args ha hF => Qiu (b' := gB L I2 eg) (ds' := [.ref (upN kg) 0 0, .osl (upN kc) zs.length]) ha hF hC (fun x hx j hj => ?_) (Zq hg) Z Z Z Z ?_⟩
 ·simp only [List.mem_cons, List.not_mem_nil, or_false] at hx
  rcases hx with rfl | rfl
  ·simp [D.ids, D.sid] at hj; subst hj; exact Zq hg
  ·simp [D.ids, D.sid] at hj; subst hj; exact Zq hc
 ·rw [List.length_map] at hok; exact hok
theorem Qb9 {H : List (Nat × Box)} {kg ku : Nat} {L : List Int} {I : Int} {eg eu ec : Nat} {us : List UR} (hkg : 1000000 <= kg) (hg : lk H kg = some (gB L I eg)) (hU : Fam H kg ku eu ec us) (hB : Big H) (hC : Closed H) (hL : ∀ x ∈ L, I64 x) (h2n : 2 <= us.length) (hn : us.length <= 48) : ∃ d H2, (∃ x I2, WantIn us.length x /\ d = .agg (QeW x) /\ H2 = (kg, gB L I2 eg) :: H) /\ OkH Try.prog 29 [.ref kg 0 0, .osl ku us.length] H d H2 := by
 obtain ⟨pu, hu⟩ := hU.u
 have hku := hB _ _ hu
 have hne := hU.ne
 have hx0 := Qhg (v := QkW L (IntKind.i64.wrap (nxI I - 1))) (n := (us.length : Int) - 1)
 have hx1 := Qhf (v := QkW L (IntKind.i64.wrap (nxI I - 1))) (n := (us.length : Int) - 1) (by omega)
 change 0 <= nx L I ((us.length : Int) - 1) at hx0
 change nx L I ((us.length : Int) - 1) < _ at hx1
 obtain ⟨hyk, pr, hy⟩ := hU.c (us[(1 + nx L I ((us.length : Int) - 1)).toNat]'(by omega)) (List.getElem_mem _)
 obtain ⟨hv1, hv2⟩ := hU.v (us[(1 + nx L I ((us.length : Int) - 1)).toNat]'(by omega)) (List.getElem_mem _)
 obtain ⟨s, I2, hs, hcall⟩ := Qos (H := (kg, gB L (nxI I) eg) :: H) Qv (Qi (Ne.symm hyk) hy) (Ne.symm hyk) (hC.pr rfl) hL hv2 hv1
 refine OkH.ofX (R := fun d H2 => ∃ x I2, WantIn us.length x /\ d = .agg (QeW x) /\ H2 = (kg, gB L I2 eg) :: H) Z2 Try.func29 Qo9 (Nat.le_of_ble_eq_true Z) ?_
 show TX _ _ tf29.body _ _
 refine Zh fun K hK => ?_
 refine ZU (by repeat (first | exact hB.none (by decide) | refine Zs (by first | decide | omega) ?_)) ?_
 refine hK _ _ (QX (kp3 Z Z Z) ?_)
 refine Zh fun K hK => Qa Z (Qa Z ?_)
 first | refine Q4 rfl Za ?_ | refine Q4 rfl rfl ?_
 refine Qb7 Z Z (by first | exact Qq (by omega) (by omega) | rfl) (Yy (Qby (I := I) Z (Qi (by omega) hg) hL (by omega)) (Zd Z Z (by first | exact Qq (by omega) (by omega) | rfl) (Qa Z (hK _ _ (QX (kp4 Z Z Z Z) ?_)))))
 refine Zh fun K hK => Qa rfl (Qa rfl (Qa rfl (Qa rfl (XI rfl rfl (Qi (by omega) (Qi (by omega) hu)) (by simp) (by omega) (by omega) rfl (Qn rfl (Zq (Qi (by omega) (Qi (by omega) hu))) (QG rfl (Ye (Qi (by omega) (Qi (by omega) hu)) (Zn (by omega) (by omega))) rfl (Yy (hcall _ _ rfl (Qah (B := [_, _]) hB Qv (by intro p hp h; simp only [List.mem_cons, List.not_mem_nil, or_false] at hp; rcases hp with rfl | rfl <;> first | rfl | (simp only at h; omega)))) (Q3 rfl rfl (Q6 rfl (Qi (by omega) (Qi (by omega) rfl)) rfl rfl rfl rfl rfl rfl (hK _ _ (QX (kp1 rfl) ?_)))))))))))
 refine QgJ ?_
 refine ⟨.agg (QeW ⟨1 + nx L I ((us.length : Int) - 1), s⟩), (kg, gB L I2 eg) :: H, ⟨⟨1 + nx L I ((us.length : Int) - 1), s⟩, _, ⟨by show 1 <= 1 + _; omega, by show 1 + _ < (us.length : Int); omega, hs⟩, rfl, rfl⟩, (Xr hB hC hkg rfl).1, (Xr hB hC hkg rfl).2, ?_⟩
 refine QbN (cs := QeW ⟨1 + nx L I ((us.length : Int) - 1), s⟩) Z (Ye (by repeat (first | exact Qv | refine Qi (by first | decide | omega) ?_)) Z) Z Z Z ?_
 exact Qah (B := [_, _, _, _]) hB (by repeat (first | exact Qv | refine Qi (by first | decide | omega) ?_)) (by intro p hp h; simp only [List.mem_cons, List.not_mem_nil, or_false] at hp; rcases hp with rfl | rfl | rfl | rfl <;> first | rfl | (simp only at h; omega))
/-- The call of 'want'. -/
theorem QiV {H : List (Nat × Box)} {kg ku : Nat} {L : List Int} {I : Int} {eg eu ec : Nat} {us : List UR} (hg : lk H kg = some (gB L I eg)) (hU : Fam H kg ku eu ec us) (hC : Closed H) (hL : ∀ x ∈ L, I64 x) (h2 : 2 <= us.length) (hn : us.length <= 48) :
  ∃ x I2, WantIn us.length x /\ ∀ (st : St) (args : List Opd), Zx st args = some [.ref kg 0 0, .osl ku us.length] -> (∀ j x, lk H j = some x -> lk st.H j = some x) -> Qa8 Try.prog 29 args st H [] [(kg, gB L I2 eg)] (.agg (QeW x)) := by
 obtain ⟨d, H2, ⟨x, I2, hx, rfl, rfl⟩, hok⟩ := Qb9 (H := upH H) (kg := upN kg) (ku := upN ku) (L := L) (I := I) (eg := eg) (eu := eu) (ec := ec) (us := us.map UR.ren) (by unfold upN; omega) (by rw [Qai, hg]; rfl) hU.up Qik (Qds hC) hL (by simpa using h2) (by simpa using hn)
 obtain ⟨pu, hu⟩ := hU.u
 rw [List.length_map] at hx hok
 refine ⟨x, I2, hx, fun st args ha hF => Qiu (b' := gB L I2 eg) (ds' := [.ref (upN kg) 0 0, .osl (upN ku) us.length]) ha hF hC (fun x hx j hj => ?_) (Zq hg) Z Z Z Z hok⟩
 simp only [List.mem_cons, List.not_mem_nil, or_false] at hx
 rcases hx with rfl | rfl
 ·simp [D.ids, D.sid] at hj; subst hj; exact Zq hg
 ·simp [D.ids, D.sid] at hj; subst hj; exact Zq hu
end Go.Proofs
namespace Go.Proofs
open Go Go.Abs M3 M25
set_option linter.unusedVariables false
set_option linter.unusedSimpArgs false
theorem QbT {H : List (Nat × Box)} {kg ku : Nat} {L : List Int} {I most : Int} {eg eu ec : Nat} {us : List UR} (hkg : 1000000 <= kg) (hg : lk H kg = some (gB L I eg)) (hU : Fam H kg ku eu ec us) (hB : Big H) (hC : Closed H) (hL : ∀ x ∈ L, I64 x) (h2n : 2 <= us.length) (hn : us.length <= 48) (hm0 : 0 <= most) (hm1 : most <= 10) : ∃ d H2, (∃ ns I2, QdX us.length most ns /\ d = QQ ns /\ H2 = (kg, gB L I2 eg) :: H) /\ OkH Try.prog 26 [.ref kg 0 0, .osl ku us.length, .int .i64 most] H d H2 := by
 obtain ⟨pu, hu⟩ := hU.u
 have hku := hB _ _ hu
 have hne := hU.ne
 have hk0 : 0 <= nx L I (most + 1) := Qhg
 have hk1 : nx L I (most + 1) < most + 1 := Qhf (by omega)
 refine OkH.ofX (R := fun d H2 => ∃ ns I2, QdX us.length most ns /\ d = QQ ns /\ H2 = (kg, gB L I2 eg) :: H) Z2 Try.func26 Qo6 (Nat.le_of_ble_eq_true Z) ?_
 show TX _ _ tf26.body _ _
 refine Zh fun K hK => Qa Z (hK _ _ (QX (kp3 Z Z Z) ?_))
 refine Zh fun K hK => Qa Z (hK _ _ (QX (kp4 Z Z Z Z) ?_))
 refine X8 ?_ -- 0
 refine Zh fun K hK => Qa Z (Qa Z (Zd Z Z (by first | exact Qq (by omega) (by omega) | rfl) (Yy (Qby (I := I) Z hg hL (by omega)) (Qa Z (hK _ _ (QX (kp4 Z Z Z Z) ?_))))))
 refine YZ ?_
 refine Qd2 (ι := Nat × List (List WantT) × Int) (fun ⟨k, ns, J⟩ => ⟨[(0, .ref kg 0 0), (1, .osl ku us.length), (7, .osl 7 ns.length), (8, .int .i64 k)], [(7, ⟨(ns).map (fun r => [Q7 r]), 1, 51, true⟩), (kg, gB L J eg)] ++ H⟩) (fun ⟨k, ns, J⟩ => (ns.length : Int) + k <= most /\ ∀ r ∈ ns, QgI us.length r) (fun ⟨k, ns, J⟩ => k) ((nx L I (most + 1)).toNat, [], nxI I) ?_ ?_ ?_
 ·exact le_trans (Xu 7 7 1 51 rfl (by repeat (first | exact hB.none (by decide) | refine Zs (by first | decide | omega) ?_))) (Qex (l := [0, 1, 7, 8]) (B := [_, _]) (kp4 rfl rfl rfl rfl) (by simp only [Int.toNat_of_nonneg hk0] <;> rfl) (by intro p hp; simp only [List.mem_cons, List.not_mem_nil, or_false] at hp; rcases hp with rfl | rfl <;> exact ⟨by repeat (first | exact Qv | refine Qi (by first | decide | omega) ?_), rfl⟩) rfl (by intro p hp h; simp only [List.mem_cons, List.not_mem_nil, or_false] at hp; rcases hp with rfl | rfl <;> first | (simp only at h; omega) | (repeat (first | exact QU | refine QS ?_))) hB hC (by intro p hp k hk; simp only [List.mem_cons, List.not_mem_nil, or_false] at hp; rcases hp with rfl | rfl | rfl | rfl <;> first | (simp [D.ids, D.sid, Q7, QQ, Zz] at hk; done) | (simp [D.ids, D.sid, Q7, QQ, Zz] at hk; subst hk; repeat (first | exact QU | exact Zq hg | exact Zq hu | refine QS ?_))))
 ·exact ⟨by simp only [List.length_nil]; omega, by simp⟩
 intro ⟨k, ns, J⟩ hI
 try dsimp only at hI
 try dsimp only
 refine X8 ?_ -- 1
 refine Zh fun K hK => Qa Z (Qcm Z Z (hK _ _ (QX (kp5 Z Z Z Z Z) ?_)))
 refine Xi Z (fun h1 => ?_) (fun h1 => ?_)
 ·try rw [h1]
  try simp only [qA] at h1
  refine Xs (Zb (kp4 Z Z Z Z) ?_)
  refine X8 ?_ -- 2
  refine YZ (Zh fun K hK => Qa Z (Qa Z ?_))
  obtain ⟨x1, J1, hx1, hc1⟩ := QiV (I := J) (H := (kg, gB L (J) eg) :: H) Qv hU.cons (hC.pr rfl) hL h2n hn
  refine Yy (hc1 _ _ rfl (Qah (B := [_, _]) hB (by repeat (first | exact Qv | refine Qi (by first | decide | omega) ?_)) (by intro p hp h; simp only [List.mem_cons, List.not_mem_nil, or_false] at hp; rcases hp with rfl | rfl <;> first | rfl | (simp only at h; omega)))) ?_
  refine QN Z (by repeat (first | exact hB.none (by decide) | refine Zs (by first | decide | omega) ?_)) ?_
  refine Qa Z (hK _ _ (QX (kp5 Z Z Z Z Z) ?_))
  refine Qnw (ι := List WantT × Int) (fun ⟨r, J4⟩ => ⟨[(0, .ref kg 0 0), (1, .osl ku us.length), (7, .osl 7 ns.length), (8, .int .i64 k), (9, Q7 r)], [(7, ⟨(ns).map (fun r => [Q7 r]), 1, 51, true⟩), (kg, gB L J4 eg)] ++ H⟩) (fun ⟨r, J4⟩ => QgI us.length r) ?_ ?_
  ·skip
   refine Zh fun K hK => Qa Z (Yy (Qby (I := J1) Z (Qi (by omega) Qv) hL (by omega)) (Xk Z Z (hK _ _ (QX (kp6 Z Z Z Z Z Z) ?_))))
   refine Xi Z (fun h2 => ?_) (fun h2 => ?_)
   ·try rw [h2]
    try simp only [qA] at h2
    refine Z0 fun K hK => Qa Z (Qa Z (Qa Z ?_))
    obtain ⟨x2, J2, hx2, hc2⟩ := QiV (I := nxI J1) (H := (kg, gB L (nxI J1) eg) :: H) Qv hU.cons (hC.pr rfl) hL h2n hn
    refine Yy (hc2 _ _ rfl (Qah (B := [_, _, _, _, _]) hB (by repeat (first | exact Qv | refine Qi (by first | decide | omega) ?_)) (by intro p hp h; simp only [List.mem_cons, List.not_mem_nil, or_false] at hp; rcases hp with rfl | rfl | rfl | rfl | rfl <;> first | rfl | (simp only at h; omega)))) ?_
    refine QN Z (by repeat (first | exact hB.none (by decide) | refine Zs (by first | decide | omega) ?_)) ?_
    refine Qmm Z Z (by simp [D.ids, D.sid]) ⟨_, rfl, rfl, rfl, rfl, rfl⟩ (by repeat (first | exact hB.none (by decide) | refine Zs (by first | decide | omega) ?_)) (Qi (by decide) (Qi (by omega) (Qi (by omega) Z))) Z Z Z (by simp) (by simp) ?_
    refine Qa Z (hK _ ?_)
    refine Xm ([x1, x2], J2) ?_ ?_
    ·exact le_trans (QhY (l := [0, 1, 7, 8]) (B := [_, _, _, _, _, _, _, _, _]) (A := [(7, ⟨(ns).map (fun r => [Q7 r]), 1, 51, true⟩), (kg, gB L J2 eg)]) 30 9 (kp4 rfl rfl rfl rfl) rfl rfl rfl (by first | (simp; done) | (simp; omega)) (by intro p hp hk; simp only [List.mem_cons, List.not_mem_nil, or_false] at hp; rcases hp with rfl | rfl | rfl | rfl <;> first | (simp [D.ids, D.sid, Q7, QQ, Zz] at hk; done) | (simp [D.ids, D.sid, Q7, QQ, Zz] at hk; omega)) (by intro p hp; simp only [List.mem_cons, List.not_mem_nil, or_false] at hp; rcases hp with rfl | rfl <;> exact ⟨by first | decide | (simp only; omega), by repeat (first | exact Qv | refine Qi (by first | decide | omega) ?_), rfl⟩) (by intro p hp h; simp only [List.mem_cons, List.not_mem_nil, or_false] at hp; rcases hp with rfl | rfl | rfl | rfl | rfl | rfl | rfl | rfl | rfl <;> first | (simp only at h; omega) | (repeat (first | exact QU | refine QS ?_))) hB hC (by intro p hp k hk; simp only [List.mem_cons, List.not_mem_nil, or_false] at hp; rcases hp with rfl | rfl | rfl | rfl <;> first | (simp [D.ids, D.sid, Q7, QQ, Zz] at hk; done) | (simp [D.ids, D.sid, Q7, QQ, Zz] at hk; subst hk; repeat (first | exact QU | exact Zq hg | exact Zq hu | refine QS ?_)))) (Qex (l := [0, 1, 7, 8, 9]) (B := [_, _]) (kp5 rfl rfl rfl rfl rfl) rfl (by intro p hp; simp only [List.mem_cons, List.not_mem_nil, or_false] at hp; rcases hp with rfl | rfl <;> exact ⟨by repeat (first | exact Qv | refine Qi (by first | decide | omega) ?_), rfl⟩) rfl (by intro p hp h; simp only [List.mem_cons, List.not_mem_nil, or_false] at hp; rcases hp with rfl | rfl <;> first | (simp only at h; omega) | (repeat (first | exact QU | refine QS ?_))) hB hC (by intro p hp k hk; simp only [List.mem_cons, List.not_mem_nil, or_false] at hp; rcases hp with rfl | rfl | rfl | rfl | rfl <;> first | (simp [D.ids, D.sid, Q7, QQ, Zz] at hk; done) | (simp [D.ids, D.sid, Q7, QQ, Zz] at hk; subst hk; repeat (first | exact QU | exact Zq hg | exact Zq hu | refine QS ?_))))
    ·exact QmV hx1 hx2
   ·try rw [h2]
    try simp only [qA] at h2
    refine Xs ?_
    refine Xm ([x1], nxI J1) ?_ ?_
    ·exact le_trans (QhY (l := [0, 1, 7, 8]) (B := [_, _, _, _, _]) (A := [(7, ⟨(ns).map (fun r => [Q7 r]), 1, 51, true⟩), (kg, gB L (nxI J1) eg)]) 21 9 (kp4 rfl rfl rfl rfl) rfl (Qi (by omega) rfl) rfl (by first | (simp; done) | (simp; omega)) (by intro p hp hk; simp only [List.mem_cons, List.not_mem_nil, or_false] at hp; rcases hp with rfl | rfl | rfl | rfl <;> first | (simp [D.ids, D.sid, Q7, QQ, Zz] at hk; done) | (simp [D.ids, D.sid, Q7, QQ, Zz] at hk; omega)) (by intro p hp; simp only [List.mem_cons, List.not_mem_nil, or_false] at hp; rcases hp with rfl | rfl <;> exact ⟨by first | decide | (simp only; omega), by repeat (first | exact Qv | refine Qi (by first | decide | omega) ?_), rfl⟩) (by intro p hp h; simp only [List.mem_cons, List.not_mem_nil, or_false] at hp; rcases hp with rfl | rfl | rfl | rfl | rfl <;> first | (simp only at h; omega) | (repeat (first | exact QU | refine QS ?_))) hB hC (by intro p hp k hk; simp only [List.mem_cons, List.not_mem_nil, or_false] at hp; rcases hp with rfl | rfl | rfl | rfl <;> first | (simp [D.ids, D.sid, Q7, QQ, Zz] at hk; done) | (simp [D.ids, D.sid, Q7, QQ, Zz] at hk; subst hk; repeat (first | exact QU | exact Zq hg | exact Zq hu | refine QS ?_)))) (Qex (l := [0, 1, 7, 8, 9]) (B := [_, _]) (kp5 rfl rfl rfl rfl rfl) rfl (by intro p hp; simp only [List.mem_cons, List.not_mem_nil, or_false] at hp; rcases hp with rfl | rfl <;> exact ⟨by repeat (first | exact Qv | refine Qi (by first | decide | omega) ?_), rfl⟩) rfl (by intro p hp h; simp only [List.mem_cons, List.not_mem_nil, or_false] at hp; rcases hp with rfl | rfl <;> first | (simp only at h; omega) | (repeat (first | exact QU | refine QS ?_))) hB hC (by intro p hp k hk; simp only [List.mem_cons, List.not_mem_nil, or_false] at hp; rcases hp with rfl | rfl | rfl | rfl | rfl <;> first | (simp [D.ids, D.sid, Q7, QQ, Zz] at hk; done) | (simp [D.ids, D.sid, Q7, QQ, Zz] at hk; subst hk; repeat (first | exact QU | exact Zq hg | exact Zq hu | refine QS ?_))))
    ·exact QmU hx1
  intro ⟨r, J4⟩ hJ
  try dsimp only at hJ
  try dsimp only
  refine Z0 fun K hK => Qa Z (Qa Z ?_)
  refine QN Z (by repeat (first | exact hB.none (by decide) | refine Zs (by first | decide | omega) ?_)) ?_
  refine Qbc Z Z (fun _ h => Qa5 Z Z Z h) Z (by simp) Z Z Z (by simp; omega) (by simp; omega) (Qa Z (hK _ ?_))
  refine Qh (Zb (kp4 Z Z Z Z) (Z0 fun K hK => Qa Z (Qb7 Z Z (by first | exact Qq (by omega) (by omega) | rfl) (Qa Z (hK _ ?_)))))
  refine Qj (k - 1, ns ++ [r], J4) ?_ ?_ ?_
  ·exact le_trans (QnL (B := [_, _, _, _]) 7 hB hC) (Qex (l := [0, 1, 7, 8]) (A := [(7, ⟨ns.map (fun r => [Q7 r]) ++ [[Q7 r]], 1, 51, true⟩), (kg, gB L J4 eg)]) (B := [_, _, _, _]) (kp4 rfl rfl rfl rfl) (by simp [D.scrub, show ¬ kg = 7 by omega, show ¬ ku = 7 by omega] <;> omega) (by intro p hp; simp only [List.mem_cons, List.not_mem_nil, or_false] at hp; rcases hp with rfl | rfl <;> exact ⟨by repeat (first | exact Qv | refine Qi (by first | decide | omega) ?_), rfl⟩) (by simp) (by intro p hp h; simp only [List.mem_cons, List.not_mem_nil, or_false] at hp; rcases hp with rfl | rfl | rfl | rfl <;> first | (simp only at h; omega) | (repeat (first | exact QU | refine QS ?_))) hB hC (by intro p hp k hk; simp only [List.mem_cons, List.not_mem_nil, or_false] at hp; rcases hp with rfl | rfl | rfl | rfl <;> first | (simp [D.ids, D.sid, Q7, QQ, Zz] at hk; done) | (simp [D.ids, D.sid, Q7, QQ, Zz] at hk; subst hk; repeat (first | exact QU | exact Zq hg | exact Zq hu | refine QS ?_))))
  ·exact ⟨by simp only [List.length_append, List.length_singleton]; omega, QkB hI.2 hJ⟩
  ·show k - 1 < k; omega
 ·try rw [h1]
  try simp only [qA] at h1
  refine Qdu (Xx (Qy (QI (Zb (kp1 Z) (Zh fun K hK => Qa Z (Qa Z (hK _ _ (QX (kp1 Z) ?_))))))))
  refine QgJ ?_
  refine ⟨QQ ns, (kg, gB L J eg) :: H, ⟨ns, _, ⟨by omega, hI.2⟩, rfl, rfl⟩, (Xr hB hC hkg rfl).1, (Xr hB hC hkg rfl).2, ?_⟩
  refine X3 Z (by simp [QkV, D.fz, D.fzS, Qe8, lk, D.can, D.canS, QQ]) ?_
  exact Qah (B := [_, _]) hB (by repeat (first | exact Qv | refine Qi (by first | decide | omega) ?_)) (by intro p hp h; simp only [List.mem_cons, List.not_mem_nil, or_false] at hp; rcases hp with rfl | rfl <;> first | rfl | (simp only at h; omega))
end Go.Proofs
namespace Go.Proofs
open Go Go.Abs M3 M25
set_option linter.unusedVariables false
set_option linter.unusedSimpArgs false
theorem QbU {kg : Nat} {L : List Int} {I most : Int} {eg eu ec : Nat} (heu : eu = 45) (hec : ec = 53) (hkg : 1000000 <= kg) (hL : ∀ x ∈ L, I64 x) (hm0 : 1 <= most) (hm1 : most <= 5) : ∃ d H2, (∃ us I2, (UnitsIn us /\ 2 <= us.length /\ us.length <= 11) /\ d = .osl 500000 us.length /\ H2 = ((500000, ⟨us.map dUR, 3, eu, false⟩) :: fbx ec us) ++ [(kg, gB L I2 eg), (kg, gB L I eg)]) /\ OkH Try.prog 25 [.ref kg 0 0, .int .i64 most] [(kg, gB L I eg)] d H2 := by
 subst heu hec
 have e3 : ¬ kg = 500000 := by omega
 have k1 := QlL (a := 18) (b := 500000) hkg (by decide) (by decide)
 have k2 := QlL (a := 16) (b := 500001) hkg (by decide) (by decide)
 refine OkH.ofX (R := fun d H2 => ∃ us I2, (UnitsIn us /\ 2 <= us.length /\ us.length <= 11) /\ d = .osl 500000 us.length /\ H2 = ((500000, ⟨us.map dUR, 3, 45, false⟩) :: fbx 53 us) ++ [(kg, gB L I2 eg), (kg, gB L I eg)]) Z2 Try.func25 Qo5 (Nat.le_of_ble_eq_true Z) ?_
 show TX _ _ tf25.body _ _
 refine Zh fun K hK => Qa Z (hK _ _ (QX (kp2 Z Z) ?_))
 refine Zh fun K hK => ?_
 refine QN Z (by repeat (first | exact Z | refine Zs (by first | decide | omega) ?_)) ?_
 refine Qa Z (hK _ _ (QX (kp3 Z Z Z) ?_))
 refine QjF (QhY (l := [0, 1]) (B := [_]) (A := []) (H0 := [(kg, gB L I eg)]) 14 5 (kp2 rfl rfl) rfl rfl rfl rfl (by intro p hp hk; simp only [List.mem_cons, List.not_mem_nil, or_false] at hp; rcases hp with rfl | rfl <;> first | (simp [D.ids, D.sid, Q7, QQ, Zz] at hk; done) | (simp [D.ids, D.sid, Q7, QQ, Zz] at hk; omega)) (by intro p hp; cases hp) (by intro p hp h; simp only [List.mem_singleton] at hp; subst hp; simp only at h; omega) (fun k b h => by obtain ⟨rfl, rfl⟩ := XH h; exact hkg) (fun k b h j hj => by obtain ⟨rfl, rfl⟩ := XH h; simp [Box.ids, gB] at hj) (by intro p hp k hk; simp only [List.mem_cons, List.not_mem_nil, or_false] at hp; rcases hp with rfl | rfl <;> first | (simp [D.ids, D.sid, Q7, QQ, Zz] at hk; done) | (simp [D.ids, D.sid, Q7, QQ, Zz] at hk; subst hk; repeat (first | exact QU | refine QS ?_)))) ?_
 refine Zh fun K hK => Q3 Z Z ?_
 refine QN Z (by repeat (first | exact Z | refine Zs (by first | decide | omega) ?_)) ?_
 refine Q3 Z Z ?_
 refine QN Z (by repeat (first | exact Z | refine Zs (by first | decide | omega) ?_)) ?_
 refine Qa Z (hK _ _ (QX (kp4 Z Z Z Z) ?_))
 refine Zh fun K hK => QE (Y7) Z Z (.inl Z) (Qa Z (hK _ _ (QX (kp5 Z Z Z Z Z) ?_)))
 refine X8 ?_ -- 0
 refine Zh fun K hK => Qa Z (hK _ _ (QX (kp6 Z Z Z Z Z Z) ?_))
 refine YZ ?_
 refine Qd2 (ι := List UR × Int × Nat) (fun ⟨us, J, n⟩ => ⟨[(0, .ref kg 0 0), (1, .int .i64 most), (5, .sl (ZZ names5)), (6, .osl 500000 us.length), (7, .sl (versions.map dVr)), (8, .int .i64 n)], [(500000, ⟨(us).map dUR, 3, 45, false⟩), (kg, gB L (J) eg)] ++ fbx 53 (us)⟩) (fun ⟨us, J, n⟩ => UnitsIn us /\ us.length <= 1 + 2 * n /\ n <= 5 /\ 1 + n <= us.length) (fun ⟨us, J, n⟩ => 5 - n) ([u0 v0], I, 0) ?_ ?_ ?_
 ·refine Qkb (l := [0, 1, 5, 6, 7, 8]) hkg (kp6 Z Z Z Z Z Z) ?_; simp only [List.map_cons, List.map_nil, D.ren, D.renS, k1, k2]; rfl
 ·exact ⟨UnitsIn.zero, by simp, by omega, by simp⟩
 intro ⟨us, J, n⟩ hI
 try dsimp only at hI
 have e1 : ¬ kg = 500001 + us.length := by omega
 have e2 : ¬ 500000 = 500001 + us.length := by omega
 have e4 : ¬ 500001 + us.length = 500000 := by omega
 have hx0 : 0 <= nx L J most := Qhg
 have hx1 : nx L J most < most := Qhf (by omega)
 have hn5 := Q8
 have hv4 := Qm5
 try dsimp only
 refine X8 ?_ -- 1
 refine Zh fun K hK => Qa Z (Qa Z (Qa Z ?_))
 refine Yy (Qby (I := J) Z (by repeat (first | exact Qv | refine Qi (by omega) ?_)) hL (by omega)) ?_
 refine Zd Z Z (by first | exact Qq (by omega) (by omega) | rfl) (Yz Z Z (Qa Z ?_))
 refine QA (g := 26) Z (fun h1 => ?_) (fun h1 => ?_)
 ·try rw [h1]
  try simp only [qA] at h1
  refine Qf Z (Qa Z (Qf Z (Qa Z (Qf Z ?_))))
  first | refine Q4 rfl Za ?_ | refine Q4 rfl rfl ?_
  refine Qf Z (Yz Z Z (Ql Z Z (hK _ _ (QX (kp7 Z Z Z Z Z Z Z) ?_))))
  refine Xi Z (fun h2 => ?_) (fun h2 => ?_)
  ·try rw [h2]
   try simp only [qA] at h2
   refine Xs (Zb (kp6 Z Z Z Z Z Z) ?_)
   refine X8 ?_ -- 2
   refine YZ (Zh fun K hK => Qa Z (hK _ _ (QX (kp7 Z Z Z Z Z Z Z) ?_)))
   refine Zh fun K hK => Qa Z ?_
   refine Yy (Qby (I := nxI J) Z (by repeat (first | exact Qv | refine Qi (by omega) ?_)) hL (by omega)) ?_
   refine Qa Z (hK _ _ (QX (kp8 Z Z Z Z Z Z Z Z) ?_))
   refine X8 ?_ -- 3
   refine Zh fun K hK => Qa Z (hK _ _ (QX (kp9 Z Z Z Z Z Z Z Z Z) ?_))
   refine YZ ?_
   refine Qd2 (ι := List CR × Nat) (fun ⟨cs, i⟩ => ⟨[(0, .ref kg 0 0), (1, .int .i64 most), (5, .sl (ZZ names5)), (6, .osl 500000 us.length), (7, .sl (versions.map dVr)), (8, .int .i64 n), (9, .osl (500001 + us.length) cs.length), (10, .int .i64 (nx L (nxI J) 16)), (11, .int .i64 i)], [(500001 + (us).length, ⟨(cs).map dCR, 8, 53, true⟩), (500000, ⟨(us).map dUR, 3, 45, false⟩), (kg, gB L (nxI (nxI J)) eg)] ++ fbx 53 (us)⟩) (fun ⟨cs, i⟩ => i <= 4 /\ CsIn i cs) (fun ⟨cs, i⟩ => 4 - i) ([], 0) ?_ ?_ ?_
   ·exact le_trans (Xu 9 (500001 + us.length) 8 53 rfl (by repeat (first | exact YK hI.1.keys (.inr (by omega)) | refine Zs (by omega) ?_))) (Qng (l := [0, 1, 5, 6, 7, 8, 9, 10, 11]) (B := [_, _, _, _, _]) (kp9 rfl rfl rfl rfl rfl rfl rfl rfl rfl) rfl hI.1.keys (by repeat (first | exact Qv | refine Qi (by omega) ?_)) (by repeat (first | exact Qv | refine Qi (by omega) ?_)) (by repeat (first | exact Qv | refine Qi (by omega) ?_)) (by intro p hp h; simp only [List.mem_cons, List.not_mem_nil, or_false] at hp; rcases hp with rfl | rfl | rfl | rfl | rfl <;> first | (simp only at h; omega) | exact .inl rfl | exact .inr rfl) (by intro p hp k hk; simp only [List.mem_cons, List.not_mem_nil, or_false] at hp; rcases hp with rfl | rfl | rfl | rfl | rfl | rfl | rfl | rfl | rfl <;> first | (simp [D.ids, D.sid, Q7, QQ, Zz] at hk; done) | (simp [D.ids, D.sid, Q7, QQ, Zz] at hk; subst hk; first | exact .inl rfl | exact .inr (.inl rfl) | exact .inr (.inr (.inl rfl)) | (refine .inr (.inr (.inl ?_)); simp; done) | (first | exact .inr (.inr ⟨_, List.mem_append_right _ (List.mem_singleton.2 rfl), rfl⟩) | exact .inr (.inr (.inr ⟨_, List.mem_append_right _ (List.mem_singleton.2 rfl), rfl⟩))))))
   ·exact ⟨by omega, CsIn.nil _⟩
   intro ⟨cs, i⟩ hC
   try dsimp only at hC
   have hcl := hC.2.1
   try dsimp only
   refine X8 ?_ -- 4
   refine Zh fun K hK => Qa Z (Qa Z ?_)
   first | refine Q4 rfl Za ?_ | refine Q4 rfl rfl ?_
   refine Yz Z Z (hK _ _ (QX (Qob Z Z Z Z Z Z Z Z Z Z) ?_))
   refine Xi Z (fun h3 => ?_) (fun h3 => ?_)
   ·try rw [h3]
    try simp only [qA] at h3
    refine Xs (Zb (kp9 Z Z Z Z Z Z Z Z Z) ?_)
    refine X8 ?_ -- 5
    refine YZ (Zh fun K hK => Qa Z (Qa Z (QgD Z (Qja (by omega) (by omega)) (Qns Z Z (by omega) (Qnm Z Z (Xk Z Z (hK _ _ (QX (Qob Z Z Z Z Z Z Z Z Z Z) ?_))))))))
    refine Xi Z (fun h4 => ?_) (fun h4 => ?_)
    ·try rw [h4]
     try simp only [qA] at h4
     refine Z0 fun K hK => Qa Z (Qa Z (Qa Z (QD Z Z Z (by omega) (Q9 (by omega)) Z (QR (cs := [_, _, _, _, _]) Z Z Z Z (Q3 Z Z ?_)))))
     refine QN Z (by repeat (first | exact YK hI.1.keys (.inl (by omega)) | exact YK hK1.keys (.inl (by omega)) | refine Zs (by first | decide | omega) ?_)) ?_
     refine Qbc (hk0 := by omega) Z Z (fun _ h => Qa5 Z Z Z h) (Qi (by omega) Qv) (by simp) Z Z Z (by simp; omega) (by simp; omega) (Qa Z (hK _ ?_))
     refine Qh (Zb (kp9 Z Z Z Z Z Z Z Z Z) (Z0 fun K hK => Qa Z (Zd Z Z (by first | exact Qq (by omega) (by omega) | rfl) (Qa Z (hK _ ?_)))))
     refine Qj (cs ++ [zr (versions[i]'(by omega)) 0], i + 1) ?_ ?_ ?_
     ·exact le_trans (Qf6 (B := [_, _, _, _, _]) (500001 + us.length) (Qeo _ _)) (Qng (l := [0, 1, 5, 6, 7, 8, 9, 10, 11]) (B := [_, _, _, _, _]) (kp9 rfl rfl rfl rfl rfl rfl rfl rfl rfl) (by simp [D.scrub, e1, e2, e3, e4] <;> omega) hI.1.keys (by rw [List.map_append]; exact Qv) (by repeat (first | exact Qv | exact QiO (Qhx hI.1.keys) | refine Qi (by omega) ?_)) (by repeat (first | exact Qv | refine Qi (by omega) ?_)) (by intro p hp h; simp only [List.mem_cons, List.not_mem_nil, or_false] at hp; rcases hp with rfl | rfl | rfl | rfl | rfl <;> first | (simp only at h; omega) | exact .inl rfl | exact .inr rfl) (by intro p hp k hk; simp only [List.mem_cons, List.not_mem_nil, or_false] at hp; rcases hp with rfl | rfl | rfl | rfl | rfl | rfl | rfl | rfl | rfl <;> first | (simp [D.ids, D.sid, Q7, QQ, Zz] at hk; done) | (simp [D.ids, D.sid, Q7, QQ, Zz] at hk; subst hk; first | exact .inl rfl | exact .inr (.inl rfl) | exact .inr (.inr (.inl rfl)) | (refine .inr (.inr (.inl ?_)); simp; done) | (first | exact .inr (.inr ⟨_, List.mem_append_right _ (List.mem_singleton.2 rfl), rfl⟩) | exact .inr (.inr (.inr ⟨_, List.mem_append_right _ (List.mem_singleton.2 rfl), rfl⟩))))))
     ·try dsimp only
      exact ⟨by omega, hC.2.snoc (Qn1 (by omega))⟩
     ·show 4 - (i + 1) < 4 - i; omega
    ·try rw [h4]
     try simp only [qA] at h4
     refine Xs (Qh (Zb (kp9 Z Z Z Z Z Z Z Z Z) (Z0 fun K hK => Qa Z (Zd Z Z (by first | exact Qq (by omega) (by omega) | rfl) (Qa Z (hK _ ?_))))))
     refine Qj (cs, i + 1) ?_ ?_ ?_
     ·exact Qng (l := [0, 1, 5, 6, 7, 8, 9, 10, 11]) (B := [_, _, _]) (kp9 rfl rfl rfl rfl rfl rfl rfl rfl rfl) rfl hI.1.keys (by repeat (first | exact Qv | refine Qi (by omega) ?_)) (by repeat (first | exact Qv | refine Qi (by omega) ?_)) (by repeat (first | exact Qv | refine Qi (by omega) ?_)) (by intro p hp h; simp only [List.mem_cons, List.not_mem_nil, or_false] at hp; rcases hp with rfl | rfl | rfl <;> first | (simp only at h; omega) | exact .inl rfl | exact .inr rfl) (by intro p hp k hk; simp only [List.mem_cons, List.not_mem_nil, or_false] at hp; rcases hp with rfl | rfl | rfl | rfl | rfl | rfl | rfl | rfl | rfl <;> first | (simp [D.ids, D.sid, Q7, QQ, Zz] at hk; done) | (simp [D.ids, D.sid, Q7, QQ, Zz] at hk; subst hk; first | exact .inl rfl | exact .inr (.inl rfl) | exact .inr (.inr (.inl rfl)) | (refine .inr (.inr (.inl ?_)); simp; done) | (first | exact .inr (.inr ⟨_, List.mem_append_right _ (List.mem_singleton.2 rfl), rfl⟩) | exact .inr (.inr (.inr ⟨_, List.mem_append_right _ (List.mem_singleton.2 rfl), rfl⟩)))))
     ·try dsimp only
      exact ⟨by omega, hC.2.keep⟩
     ·show 4 - (i + 1) < 4 - i; omega
   ·try rw [h3]
    try simp only [qA] at h3
    refine Qdu (Xx (Qy (QI (Zb (kp7 Z Z Z Z Z Z Z) (Zh fun K hK => Qa Z (Qa Z (Qa Z (QD Z Z Z (by omega) (Q9 (by omega)) Z (QG Z Z Z (Qa Z ?_))))))))))
    refine Q3 Z Z ?_
    refine QN Z (by repeat (first | exact YK hI.1.keys (.inl (by omega)) | exact YK hK1.keys (.inl (by omega)) | refine Zs (by first | decide | omega) ?_)) ?_
    refine QhI (hk0 := by decide) Z Z (fun _ h => Qa5 Z Z Z h) (Qi (by omega) (Qi (by omega) Qv)) (by simp) Z Z (.inr (Qi8 hI.1.keys (by omega))) (by simp; omega) (by simp; omega) (Qa Z (hK _ _ (QX (kp7 Z Z Z Z Z Z Z) ?_)))
    have hc4 : CsIn 4 cs := ⟨by omega, hC.2.2⟩
    refine QjF (le_trans (Qf6 (B := [_, _, _, _, _]) 500000 (Qeo _ _)) (Qn0 (u := (UR.mk (names5[n]'(by have := Q8; omega)) [] (500001 + us.length) cs)) (l := [0, 1, 5, 6, 7, 8, 9]) (fr' := [(0, .ref kg 0 0), (1, .int .i64 most), (5, .sl (ZZ names5)), (6, .osl 500000 (us ++ [(UR.mk (names5[n]'(by have := Q8; omega)) [] (500001 + us.length) cs)]).length), (7, .sl (versions.map dVr)), (8, .int .i64 n), (9, .osl (500001 + us.length) cs.length)]) (B := [_, _, _, _, _]) (kp7 rfl rfl rfl rfl rfl rfl rfl) (by simp [D.scrub, e1, e2, e3, e4]) hI.1.keys rfl (by repeat (first | exact Qv | refine Qi (by omega) ?_)) (by rw [List.map_append]; exact Qv) (by repeat (first | exact Qv | refine Qi (by omega) ?_)) (by intro p hp h; simp only [List.mem_cons, List.not_mem_nil, or_false] at hp; rcases hp with rfl | rfl | rfl | rfl | rfl <;> first | (simp only at h; omega) | exact .inl rfl | exact .inr rfl) hkg (by omega) (by intro p hp k hk; simp only [List.mem_cons, List.not_mem_nil, or_false] at hp; rcases hp with rfl | rfl | rfl | rfl | rfl | rfl | rfl <;> first | (simp [D.ids, D.sid, Q7, QQ, Zz] at hk; done) | (simp [D.ids, D.sid, Q7, QQ, Zz] at hk; subst hk; first | exact .inl rfl | exact .inr (.inl rfl) | (first | exact .inr (.inr ⟨_, List.mem_append_right _ (List.mem_singleton.2 rfl), rfl⟩) | exact .inr (.inr (.inr ⟨_, List.mem_append_right _ (List.mem_singleton.2 rfl), rfl⟩))))))) ?_
    have hK1 := hI.1.snoc (n := (names5[n]'(by have := Q8; omega))) (f := []) hc4.1 hc4.2
    have hl1 : (us ++ [(UR.mk (names5[n]'(by have := Q8; omega)) [] (500001 + us.length) cs)]).length = us.length + 1 := by simp
    have f1 : ¬ kg = 500001 + (us ++ [(UR.mk (names5[n]'(by have := Q8; omega)) [] (500001 + us.length) cs)]).length := by omega
    have f2 : ¬ 500000 = 500001 + (us ++ [(UR.mk (names5[n]'(by have := Q8; omega)) [] (500001 + us.length) cs)]).length := by omega
    have f4 : ¬ 500001 + (us ++ [(UR.mk (names5[n]'(by have := Q8; omega)) [] (500001 + us.length) cs)]).length = 500000 := by omega
    have f5 : ¬ 500001 + us.length = 500001 + (us ++ [(UR.mk (names5[n]'(by have := Q8; omega)) [] (500001 + us.length) cs)]).length := by omega
    refine Zh fun K hK => Qa Z (Yz Z Z (Qa Z ?_))
    refine QA (g := 67) Z (fun h5 => ?_) (fun h5 => ?_)
    ·try rw [h5]
     try simp only [qA] at h5
     refine Qf Z (Qa Z (Qf Z ?_))
     refine Yy (Qby (I := nxI (nxI J)) Z (by repeat (first | exact Qv | refine Qi (by omega) ?_)) hL (by omega)) ?_
     refine Qf Z (Xk Z Z (Ql Z Z (hK _ _ (QX (kp8 Z Z Z Z Z Z Z Z) ?_))))
     refine Xi Z (fun h6 => ?_) (fun h6 => ?_)
     ·try rw [h6]
      try simp only [qA] at h6
      refine Zh fun K hK => Qa Z (hK _ _ (QX (kp8 Z Z Z Z Z Z Z Z) ?_))
      refine X8 ?_ -- 6
      refine Zh fun K hK => Qa Z (hK _ _ (QX (kp9 Z Z Z Z Z Z Z Z Z) ?_))
      refine YZ ?_
      refine Qd2 (ι := List CR × Nat × Int) (fun ⟨c2, m, J3⟩ => ⟨[(0, .ref kg 0 0), (1, .int .i64 most), (5, .sl (ZZ names5)), (6, .osl 500000 (us ++ [(UR.mk (names5[n]'(by have := Q8; omega)) [] (500001 + us.length) cs)]).length), (7, .sl (versions.map dVr)), (8, .int .i64 n), (9, .osl (500001 + us.length) cs.length), (12, .osl (500001 + (us ++ [(UR.mk (names5[n]'(by have := Q8; omega)) [] (500001 + us.length) cs)]).length) c2.length), (13, .int .i64 m)], [(500001 + (us ++ [(UR.mk (names5[n]'(by have := Q8; omega)) [] (500001 + us.length) cs)]).length, ⟨(c2).map dCR, 8, 53, true⟩), (500000, ⟨(us ++ [(UR.mk (names5[n]'(by have := Q8; omega)) [] (500001 + us.length) cs)]).map dUR, 3, 45, false⟩), (kg, gB L (J3) eg)] ++ fbx 53 (us ++ [(UR.mk (names5[n]'(by have := Q8; omega)) [] (500001 + us.length) cs)])⟩) (fun ⟨c2, m, J3⟩ => m <= cs.length /\ CsIn m c2) (fun ⟨c2, m, J3⟩ => cs.length - m) ([], 0, nxI (nxI (nxI J))) ?_ ?_ ?_
      ·exact le_trans (Xu 12 (500001 + (us ++ [(UR.mk (names5[n]'(by have := Q8; omega)) [] (500001 + us.length) cs)]).length) 8 53 rfl (by repeat (first | exact YK hK1.keys (.inr (by omega)) | refine Zs (by omega) ?_))) (Qng (l := [0, 1, 5, 6, 7, 8, 9, 12, 13]) (B := [_, _, _, _]) (kp9 rfl rfl rfl rfl rfl rfl rfl rfl rfl) rfl hK1.keys (by repeat (first | exact Qv | refine Qi (by omega) ?_)) (by repeat (first | exact Qv | refine Qi (by omega) ?_)) (by repeat (first | exact Qv | refine Qi (by omega) ?_)) (by intro p hp h; simp only [List.mem_cons, List.not_mem_nil, or_false] at hp; rcases hp with rfl | rfl | rfl | rfl <;> first | (simp only at h; omega) | exact .inl rfl | exact .inr rfl) (by intro p hp k hk; simp only [List.mem_cons, List.not_mem_nil, or_false] at hp; rcases hp with rfl | rfl | rfl | rfl | rfl | rfl | rfl | rfl | rfl <;> first | (simp [D.ids, D.sid, Q7, QQ, Zz] at hk; done) | (simp [D.ids, D.sid, Q7, QQ, Zz] at hk; subst hk; first | exact .inl rfl | exact .inr (.inl rfl) | exact .inr (.inr (.inl rfl)) | (refine .inr (.inr (.inl ?_)); simp; done) | (first | exact .inr (.inr ⟨_, List.mem_append_right _ (List.mem_singleton.2 rfl), rfl⟩) | exact .inr (.inr (.inr ⟨_, List.mem_append_right _ (List.mem_singleton.2 rfl), rfl⟩))))))
      ·exact ⟨by omega, CsIn.nil _⟩
      intro ⟨c2, m, J3⟩ hM
      try dsimp only at hM
      have hcl2 := hM.2.1
      try dsimp only
      refine X8 ?_ -- 7
      refine Zh fun K hK => Qa Z (Qa Z ?_)
      first | refine Q4 rfl Za ?_ | refine Q4 rfl rfl ?_
      refine Yz Z Z (hK _ _ (QX (Qob Z Z Z Z Z Z Z Z Z Z) ?_))
      refine Xi Z (fun h7 => ?_) (fun h7 => ?_)
      ·try rw [h7]
       try simp only [qA] at h7
       refine Xs (Zb (kp9 Z Z Z Z Z Z Z Z Z) ?_)
       refine X8 ?_ -- 8
       refine YZ (Zh fun K hK => Qa Z ?_)
       refine Yy (Qby (I := J3) Z (by repeat (first | exact Qv | refine Qi (by omega) ?_)) hL (by omega)) ?_
       refine Qcm Z Z (hK _ _ (QX (Qob Z Z Z Z Z Z Z Z Z Z) ?_))
       refine Xi Z (fun h8 => ?_) (fun h8 => ?_)
       ·try rw [h8]
        try simp only [qA] at h8
        refine Z0 fun K hK => Qa Z (Qa Z (Qa Z (XI Z Z (Qi (by omega) (Qi (by omega) (Qi (by omega) (Qi (by omega) (QfV (u := (UR.mk (names5[n]'(by have := Q8; omega)) [] (500001 + us.length) cs)) hI.1.keys Z))))) (by simp) (by omega) (by omega) Z (Qn Z (Zq (Qi (by omega) (Qi (by omega) (Qi (by omega) (Qi (by omega) (QfV (u := (UR.mk (names5[n]'(by have := Q8; omega)) [] (500001 + us.length) cs)) hI.1.keys Z)))))) (QR (cs := [_, _, _, _, _]) Z (Ye (Qi (by omega) (Qi (by omega) (Qi (by omega) (Qi (by omega) (QfV (u := (UR.mk (names5[n]'(by have := Q8; omega)) [] (500001 + us.length) cs)) hI.1.keys Z))))) (Q9 (l := cs) (by omega))) Z Z (Q3 Z Z ?_))))))
        refine QN Z (by repeat (first | exact YK hI.1.keys (.inl (by omega)) | exact YK hK1.keys (.inl (by omega)) | refine Zs (by first | decide | omega) ?_)) ?_
        refine Qbc (hk0 := by omega) Z Z (fun _ h => Qa5 Z Z Z h) (Qi (by omega) (Qi (by omega) Qv)) (by simp) Z Z Z (by simp; omega) (by simp; omega) (Qa Z (hK _ ?_))
        refine Qh (Zb (kp9 Z Z Z Z Z Z Z Z Z) (Z0 fun K hK => Qa Z (Zd Z Z (by first | exact Qq (by omega) (by omega) | rfl) (Qa Z (hK _ ?_)))))
        refine Qj (c2 ++ [zr (cs[m]'(by omega)).v 0], m + 1, nxI J3) ?_ ?_ ?_
        ·exact le_trans (Qf6 (B := [_, _, _, _, _, _]) (500001 + (us ++ [(UR.mk (names5[n]'(by have := Q8; omega)) [] (500001 + us.length) cs)]).length) (Qeo _ _)) (Qng (l := [0, 1, 5, 6, 7, 8, 9, 12, 13]) (B := [_, _, _, _, _, _]) (kp9 rfl rfl rfl rfl rfl rfl rfl rfl rfl) (by simp [D.scrub, f1, f2, f4, f5] <;> omega) hK1.keys (by rw [QmF (cs := c2)]; exact Qv) (by repeat (first | exact Qv | exact QiO (Qhx hK1.keys) | refine Qi (by omega) ?_)) (by repeat (first | exact Qv | refine Qi (by omega) ?_)) (by intro p hp h; simp only [List.mem_cons, List.not_mem_nil, or_false] at hp; rcases hp with rfl | rfl | rfl | rfl | rfl | rfl <;> first | (simp only at h; omega) | exact .inl rfl | exact .inr rfl) (by intro p hp k hk; simp only [List.mem_cons, List.not_mem_nil, or_false] at hp; rcases hp with rfl | rfl | rfl | rfl | rfl | rfl | rfl | rfl | rfl <;> first | (simp [D.ids, D.sid, Q7, QQ, Zz] at hk; done) | (simp [D.ids, D.sid, Q7, QQ, Zz] at hk; subst hk; first | exact .inl rfl | exact .inr (.inl rfl) | exact .inr (.inr (.inl rfl)) | (refine .inr (.inr (.inl ?_)); simp; done) | (first | exact .inr (.inr ⟨_, List.mem_append_right _ (List.mem_singleton.2 rfl), rfl⟩) | exact .inr (.inr (.inr ⟨_, List.mem_append_right _ (List.mem_singleton.2 rfl), rfl⟩))))))
        ·try dsimp only
         exact ⟨by omega, hM.2.snoc (hC.2.at (by omega))⟩
        ·show cs.length - (m + 1) < cs.length - m; omega
       ·try rw [h8]
        try simp only [qA] at h8
        refine Xs (Qh (Zb (kp9 Z Z Z Z Z Z Z Z Z) (Z0 fun K hK => Qa Z (Zd Z Z (by first | exact Qq (by omega) (by omega) | rfl) (Qa Z (hK _ ?_))))))
        refine Qj (c2, m + 1, nxI J3) ?_ ?_ ?_
        ·exact Qng (l := [0, 1, 5, 6, 7, 8, 9, 12, 13]) (B := [_, _, _, _]) (kp9 rfl rfl rfl rfl rfl rfl rfl rfl rfl) rfl hK1.keys (by repeat (first | exact Qv | refine Qi (by omega) ?_)) (by repeat (first | exact Qv | refine Qi (by omega) ?_)) (by repeat (first | exact Qv | refine Qi (by omega) ?_)) (by intro p hp h; simp only [List.mem_cons, List.not_mem_nil, or_false] at hp; rcases hp with rfl | rfl | rfl | rfl <;> first | (simp only at h; omega) | exact .inl rfl | exact .inr rfl) (by intro p hp k hk; simp only [List.mem_cons, List.not_mem_nil, or_false] at hp; rcases hp with rfl | rfl | rfl | rfl | rfl | rfl | rfl | rfl | rfl <;> first | (simp [D.ids, D.sid, Q7, QQ, Zz] at hk; done) | (simp [D.ids, D.sid, Q7, QQ, Zz] at hk; subst hk; first | exact .inl rfl | exact .inr (.inl rfl) | exact .inr (.inr (.inl rfl)) | (refine .inr (.inr (.inl ?_)); simp; done) | (first | exact .inr (.inr ⟨_, List.mem_append_right _ (List.mem_singleton.2 rfl), rfl⟩) | exact .inr (.inr (.inr ⟨_, List.mem_append_right _ (List.mem_singleton.2 rfl), rfl⟩)))))
        ·try dsimp only
         exact ⟨by omega, hM.2.keep⟩
        ·show cs.length - (m + 1) < cs.length - m; omega
      ·try rw [h7]
       try simp only [qA] at h7
       refine Qdu (Xx (Qy (QI (Zb (kp7 Z Z Z Z Z Z Z) (Z0 fun K hK => Qa Z (Qa Z (Qa Z (QD Z Z Z (by omega) (Q9 (by omega)) Z (QG Z Z Z (Qa Z ?_))))))))))
       refine Q3 Z Z ?_
       refine QN Z (by repeat (first | exact YK hI.1.keys (.inl (by omega)) | exact YK hK1.keys (.inl (by omega)) | refine Zs (by first | decide | omega) ?_)) ?_
       refine QhI (hk0 := by decide) Z Z (fun _ h => Qa5 Z Z Z h) (Qi (by omega) (Qi (by omega) Qv)) (by simp) Z Z (.inr (Qi8 hK1.keys (by omega))) (by simp; omega) (by simp; omega) (Qa Z (hK _ ?_))
       refine Qh (Zb (kp6 Z Z Z Z Z Z) (Z0 fun K hK => Qa Z (Zd Z Z (by first | exact Qq (by omega) (by omega) | rfl) (Qa Z (hK _ ?_)))))
       refine Qj (us ++ [(UR.mk (names5[n]'(by have := Q8; omega)) [] (500001 + us.length) cs)] ++ [(UR.mk (names5[n]'(by have := Q8; omega)) [102] (500001 + (us ++ [(UR.mk (names5[n]'(by have := Q8; omega)) [] (500001 + us.length) cs)]).length) c2)], J3, n + 1) ?_ ?_ ?_
       ·exact le_trans (Qf6 (B := [_, _, _, _, _]) 500000 (Qeo _ _)) (Qn0 (u := (UR.mk (names5[n]'(by have := Q8; omega)) [102] (500001 + (us ++ [(UR.mk (names5[n]'(by have := Q8; omega)) [] (500001 + us.length) cs)]).length) c2)) (l := [0, 1, 5, 6, 7, 8]) (B := [_, _, _, _, _]) (kp6 rfl rfl rfl rfl rfl rfl) (by simp [D.scrub, f1, f2, e3, f4, e4] <;> omega) hK1.keys rfl (by repeat (first | exact Qv | refine Qi (by omega) ?_)) (by rw [Qm3 (u := (UR.mk (names5[n]'(by have := Q8; omega)) [102] (500001 + (us ++ [(UR.mk (names5[n]'(by have := Q8; omega)) [] (500001 + us.length) cs)]).length) c2))]; exact Qv) (by repeat (first | exact Qv | refine Qi (by omega) ?_)) (by intro p hp h; simp only [List.mem_cons, List.not_mem_nil, or_false] at hp; rcases hp with rfl | rfl | rfl | rfl | rfl <;> first | (simp only at h; omega) | exact .inl rfl | exact .inr rfl) hkg (by omega) (by intro p hp k hk; simp only [List.mem_cons, List.not_mem_nil, or_false] at hp; rcases hp with rfl | rfl | rfl | rfl | rfl | rfl <;> first | (simp [D.ids, D.sid, Q7, QQ, Zz] at hk; done) | (simp [D.ids, D.sid, Q7, QQ, Zz] at hk; subst hk; first | exact .inl rfl | exact .inr (.inl rfl) | (first | exact .inr (.inr ⟨_, List.mem_append_right _ (List.mem_singleton.2 rfl), rfl⟩) | exact .inr (.inr (.inr ⟨_, List.mem_append_right _ (List.mem_singleton.2 rfl), rfl⟩))))))
       ·try dsimp only
        exact ⟨hK1.snoc (by omega) hM.2.2, by simp; omega, by omega, by simp; omega⟩
       ·show 5 - (n + 1) < 5 - n; omega
     ·try rw [h6]
      try simp only [qA] at h6
      refine Xs (Qh (Zb (kp6 Z Z Z Z Z Z) (Z0 fun K hK => Qa Z (Zd Z Z (by first | exact Qq (by omega) (by omega) | rfl) (Qa Z (hK _ ?_))))))
      refine Qj (us ++ [(UR.mk (names5[n]'(by have := Q8; omega)) [] (500001 + us.length) cs)], nxI (nxI (nxI J)), n + 1) ?_ ?_ ?_
      ·exact QoN (l := [0, 1, 5, 6, 7, 8]) (B := [_, _, _]) (kp6 rfl rfl rfl rfl rfl rfl) rfl hK1.keys (by repeat (first | exact Qv | refine Qi (by omega) ?_)) (by repeat (first | exact Qv | refine Qi (by omega) ?_)) (by intro p hp h; simp only [List.mem_cons, List.not_mem_nil, or_false] at hp; rcases hp with rfl | rfl | rfl <;> first | (simp only at h; omega) | rfl) (by omega) (by intro p hp k hk; simp only [List.mem_cons, List.not_mem_nil, or_false] at hp; rcases hp with rfl | rfl | rfl | rfl | rfl | rfl <;> first | (simp [D.ids, D.sid, Q7, QQ, Zz] at hk; done) | (simp [D.ids, D.sid, Q7, QQ, Zz] at hk; subst hk; first | exact .inl rfl | exact .inr (.inl rfl) | (first | exact .inr (.inr ⟨_, List.mem_append_right _ (List.mem_singleton.2 rfl), rfl⟩) | exact .inr (.inr (.inr ⟨_, List.mem_append_right _ (List.mem_singleton.2 rfl), rfl⟩)))))
      ·try dsimp only
       exact ⟨hK1, by simp; omega, by omega, by simp; omega⟩
      ·show 5 - (n + 1) < 5 - n; omega
    ·try rw [h5]
     try simp only [qA] at h5
     refine Qt Z (Qt Z (Qt Z (Ql Z Z (hK _ _ (QX (kp8 Z Z Z Z Z Z Z Z) ?_)))))
     refine QjE Z (Xs (Qh (Zb (kp6 Z Z Z Z Z Z) (Z0 fun K hK => Qa Z (Zd Z Z (by first | exact Qq (by omega) (by omega) | rfl) (Qa Z (hK _ ?_)))))))
     refine Qj (us ++ [(UR.mk (names5[n]'(by have := Q8; omega)) [] (500001 + us.length) cs)], nxI (nxI J), n + 1) ?_ ?_ ?_
     ·exact QoN (l := [0, 1, 5, 6, 7, 8]) (B := [_, _]) (kp6 rfl rfl rfl rfl rfl rfl) rfl hK1.keys (by repeat (first | exact Qv | refine Qi (by omega) ?_)) (by repeat (first | exact Qv | refine Qi (by omega) ?_)) (by intro p hp h; simp only [List.mem_cons, List.not_mem_nil, or_false] at hp; rcases hp with rfl | rfl <;> first | (simp only at h; omega) | rfl) (by omega) (by intro p hp k hk; simp only [List.mem_cons, List.not_mem_nil, or_false] at hp; rcases hp with rfl | rfl | rfl | rfl | rfl | rfl <;> first | (simp [D.ids, D.sid, Q7, QQ, Zz] at hk; done) | (simp [D.ids, D.sid, Q7, QQ, Zz] at hk; subst hk; first | exact .inl rfl | exact .inr (.inl rfl) | (first | exact .inr (.inr ⟨_, List.mem_append_right _ (List.mem_singleton.2 rfl), rfl⟩) | exact .inr (.inr (.inr ⟨_, List.mem_append_right _ (List.mem_singleton.2 rfl), rfl⟩)))))
     ·try dsimp only
      exact ⟨hK1, by simp; omega, by omega, by simp; omega⟩
     ·show 5 - (n + 1) < 5 - n; omega
  ·try rw [h2]
   try simp only [qA] at h2
   refine Qdu (Xx (Qy (QI (Zb (kp1 Z) (Zh fun K hK => Qa Z (Qa Z (hK _ _ (QX (kp1 Z) ?_))))))))
   refine QgJ ?_
   refine ⟨.osl 500000 us.length, ((500000, ⟨us.map dUR, 3, 45, false⟩) :: fbx 53 us) ++ [(kg, gB L (nxI J) eg), (kg, gB L I eg)], ⟨us, _, ⟨hI.1, by omega, by omega⟩, rfl, rfl⟩, (QaH (g3 := gB L J eg) hI.1.keys hkg Z Z (by omega)).1, (QaH (g3 := gB L J eg) hI.1.keys hkg Z Z (by omega)).2.1, X3 Z Z (QaH (g3 := gB L J eg) hI.1.keys hkg Z Z (by omega)).2.2⟩
 ·try rw [h1]
  try simp only [qA] at h1
  refine Qt Z (Qt Z (Qt Z (Qt Z (Ql Z Z (hK _ _ (QX (kp7 Z Z Z Z Z Z Z) ?_))))))
  refine QjE Z (Qdu (Xx (Qy (QI (Zb (kp1 Z) (Zh fun K hK => Qa Z (Qa Z (hK _ _ (QX (kp1 Z) ?_)))))))))
  refine QgJ ?_
  refine ⟨.osl 500000 us.length, ((500000, ⟨us.map dUR, 3, 45, false⟩) :: fbx 53 us) ++ [(kg, gB L (nxI J) eg), (kg, gB L I eg)], ⟨us, _, ⟨hI.1, by omega, by omega⟩, rfl, rfl⟩, (QaH (g3 := gB L J eg) hI.1.keys hkg Z Z (by omega)).1, (QaH (g3 := gB L J eg) hI.1.keys hkg Z Z (by omega)).2.1, X3 Z Z (QaH (g3 := gB L J eg) hI.1.keys hkg Z Z (by omega)).2.2⟩
end Go.Proofs
