/- Part 4 of the means of the proof: a verified abstract evaluator, the prepared functions, and contracts of functions. It states nothing of the claim by itself. -/
import Derived.Test.YtaclbcdfaokmjaaDoorB3
set_option maxRecDepth 4000
set_option linter.unusedSimpArgs false
set_option linter.unusedVariables false
namespace Go.Proofs
open Go Go.Abs M3
set_option linter.unusedVariables false
set_option linter.unusedSimpArgs false
theorem QaH {s : List UInt8} (hl : s.length <= 1000000) : Ok Tryd.prog 96 [.str s] (.tup [.int .i64 (Yg s).1, .bool (Yg s).2]) := by
 refine Ok.ofT Z3 Tryd.func96 QrA (Nat.le_of_ble_eq_true Z) ?_
 show TW _ _ tf96.body _ _
 refine Qe fun K hK => Qb Z (Qb Z (hK _ _ (Qa (kp1 Z) ?_)))
 refine QkA (ι := Unit) (fun _u => ⟨[(0, .str s)], []⟩) (fun _u => ¬ (s = [] \/ 4 < s.length \/ (1 < s.length /\ s.head? = some 48))) ?_ ?_
 ·skip
  refine Qe fun K hK => Qb Z (QbD Z Z (Qb Z ?_))
  refine Qv (g := 9) Z (fun h1 => ?_) (fun h1 => ?_)
  ·try rw [h1]
   try simp only [qB, Bool.and_eq_true, Bool.and_eq_false_iff, decide_eq_true_eq] at h1
   refine Qr Z (Qr Z (Qr Z (Qi Z Z (Qb Z (Qr Z (Qr Z (Qr Z (Qr Z (QI Z (QI Z (QI Z ?_)))))))))))
   refine Qr Z (Qi Z Z (hK _ _ (Qa (kp2 Z Z) ?_)))
   refine Zj Z (Qe fun K hK => Qb Z (Qb Z (hK _ _ (Qa (kp2 Z Z) ?_))))
   refine Qq (Qcf (ZQ Z Z ?_))
   first | (rw [QaC (s := s) (by first | (left; assumption) | (right; omega))]; exact ⟨rfl, rfl⟩) | (rw [YF (s := s) (by omega) (by assumption)]; exact ⟨rfl, rfl⟩) | (rw [Xt (s := s) (i := i) (by omega) (by simp [Yo]; omega)]; exact ⟨rfl, rfl⟩) | (rw [QbZ (s := s) (i := i) hJ (by omega) hI.2.1]; exact ⟨rfl, by simp [QaF, D.fz, D.fzS, D.can, D.canS]; omega⟩)
  ·try rw [h1]
   try simp only [qB, Bool.and_eq_true, Bool.and_eq_false_iff, decide_eq_true_eq] at h1
   refine Qg Z (Qb Z (Qg Z (Yp Z (Qg Z (QdH Z Z (Qi Z Z (Qb Z ?_)))))))
   refine Qv (g := 14) Z (fun h2 => ?_) (fun h2 => ?_)
   ·try rw [h2]
    try simp only [qB, Bool.and_eq_true, Bool.and_eq_false_iff, decide_eq_true_eq] at h2
    refine Qr Z (Qr Z (Qr Z (Qr Z (QI Z (QI Z (QI Z (Qr Z (Qi Z Z (hK _ _ (Qa (kp2 Z Z) ?_))))))))))
    refine Zj Z (Qe fun K hK => Qb Z (Qb Z (hK _ _ (Qa (kp2 Z Z) ?_))))
    refine Qq (Qcf (ZQ Z Z ?_))
    first | (rw [QaC (s := s) (by first | (left; assumption) | (right; omega))]; exact ⟨rfl, rfl⟩) | (rw [YF (s := s) (by omega) (by assumption)]; exact ⟨rfl, rfl⟩) | (rw [Xt (s := s) (i := i) (by omega) (by simp [Yo]; omega)]; exact ⟨rfl, rfl⟩) | (rw [QbZ (s := s) (i := i) hJ (by omega) hI.2.1]; exact ⟨rfl, by simp [QaF, D.fz, D.fzS, D.can, D.canS]; omega⟩)
   ·try rw [h2]
    try simp only [qB, Bool.and_eq_true, Bool.and_eq_false_iff, decide_eq_true_eq] at h2
    refine Qg Z (Qb Z (Qg Z (Yk Z Z (by omega) (QbO (i := 0) (List.length_pos_iff.2 (by assumption))) (Qg Z (Yd Z Z (Qg Z (Qb Z ?_)))))))
    refine Qv (g := 18) Z (fun h3 => ?_) (fun h3 => ?_)
    ·try rw [h3]
     try simp only [qB, Bool.and_eq_true, Bool.and_eq_false_iff, decide_eq_true_eq] at h3
     refine Qg Z (Qb Z (Qg Z (Yp Z (Qg Z (QdH Z Z (Qg Z (Qi Z Z (Qi Z Z (hK _ _ (Qa (kp2 Z Z) ?_))))))))))
     refine QA Z (fun h4 => ?_) (fun h4 => ?_)
     ·try rw [h4]
      try simp only [qB, Bool.and_eq_true, Bool.and_eq_false_iff, decide_eq_true_eq] at h4
      refine Qe fun K hK => Qb Z (Qb Z (hK _ _ (Qa (kp2 Z Z) ?_)))
      refine Qq (Qcf (ZQ Z Z ?_))
      first | (rw [QaC (s := s) (by first | (left; assumption) | (right; omega))]; exact ⟨rfl, rfl⟩) | (rw [YF (s := s) (by omega) (by assumption)]; exact ⟨rfl, rfl⟩) | (rw [Xt (s := s) (i := i) (by omega) (by simp [Yo]; omega)]; exact ⟨rfl, rfl⟩) | (rw [QbZ (s := s) (i := i) hJ (by omega) hI.2.1]; exact ⟨rfl, by simp [QaF, D.fz, D.fzS, D.can, D.canS]; omega⟩)
     ·try rw [h4]
      try simp only [qB, Bool.and_eq_true, Bool.and_eq_false_iff, decide_eq_true_eq] at h4
      refine Qx ?_
      refine XB () ?_ ?_
      ·exact Za (kp1 rfl)
      ·rintro (q | q | q) <;> first | (simp_all; done) | omega | exact QgO (s := s) (by omega) (by assumption) q.2
    ·try rw [h3]
     try simp only [qB, Bool.and_eq_true, Bool.and_eq_false_iff, decide_eq_true_eq] at h3
     refine Qr Z (Qr Z (Qr Z (Qg Z (Qi Z Z (Qi Z Z (hK _ _ (Qa (kp2 Z Z) ?_)))))))
     refine ZD Z (Qx ?_)
     refine XB () ?_ ?_
     ·exact Za (kp1 rfl)
     ·rintro (q | q | q) <;> first | (simp_all; done) | omega | exact QgO (s := s) (by omega) (by assumption) q.2
 intro _u hJ
 try dsimp only
 refine Qe fun K hK => Qb Z (hK _ _ (Qa (kp2 Z Z) ?_))
 refine QH ?_ -- 1
 refine Qe fun K hK => Qb Z (Qky Z Z (hK _ _ (Qa (kp2 Z Z) ?_)))
 refine QM ?_
 refine Z8 (ι := Nat) (fun i => ⟨[(4, .int .i64 (val (s.take i))), (25, .ref 25 0 0)], [(25, ⟨[], 0, Zp s i, false⟩)]⟩) (fun i => i <= s.length /\ (s.take i).all Yo = true /\ s.length <= 4 /\ 0 < s.length) (fun i => s.length - i) 0 ?_ ?_ ?_
 ·exact Zx (l := [4, 25]) (lH := [25]) (kp2 rfl rfl) (Qz rfl QC) (by simp [val]) rfl rfl
 ·exact ⟨Nat.zero_le _, rfl, Nat.le_of_not_lt fun h => hJ (.inr (.inl h)), List.length_pos_iff.2 fun h => hJ (.inl h)⟩
 intro i hI
 have hv := QlM (s := s.take i) hI.2.1
 have hp : 10 ^ (s.take i).length <= 10 ^ 4 := Nat.pow_le_pow_right (by omega) (by simp; omega)
 have hI1 := hI.1
 have hI3 := hI.2.2.1
 try dsimp only
 refine Qe fun K hK => ?_
 rcases Nat.lt_or_ge (i) (s).length with h5 | h5
 ·rcases Nat.lt_or_ge (((s)[i]).toNat) 128 with h6 | h6
  ·refine Qji Z Z h5 (QhH h5 h6) (Zh Z Z (hK _ _ (Qa (kp4 Z Z Z Z) ?_)))
   refine QH ?_ -- 2
   refine Zj Z (Qx (Qf (kp3 Z Z Z) (QM (Qe fun K hK => Zh Z Z (Qb Z (hK _ _ (Qa (kp3 Z Z Z) ?_)))))))
   refine QM (Qe fun K hK => Qb Z (Qiy Z Z (Qb Z ?_)))
   refine Qv (g := 32) Z (fun h7 => ?_) (fun h7 => ?_)
   ·try rw [h7]
    try simp only [qB, Bool.and_eq_true, Bool.and_eq_false_iff, decide_eq_true_eq] at h7
    refine Qg Z (Qb Z (Qg Z (QlY Z Z (Qi Z Z (Qb Z (hK _ _ (Qa (kp4 Z Z Z Z) ?_)))))))
    refine QA Z (fun h8 => ?_) (fun h8 => ?_)
    ·try rw [h8]
     try simp only [qB, Bool.and_eq_true, Bool.and_eq_false_iff, decide_eq_true_eq] at h8
     refine Ze fun K hK => Qb Z (QlZ Z Z (by first | exact Qu (by omega) (by omega) | exact QY (by omega) (by omega) | exact Zb (by omega) (by omega) | rfl) (Qb Z (Qc1 Z Z (by first | exact Qu (by omega) (by omega) | exact QY (by omega) (by omega) | exact Zb (by omega) (by omega) | rfl) (QfU Z (by first | exact Qu (by omega) (by omega) | exact QY (by omega) (by omega) | exact Zb (by omega) (by omega) | rfl) (Zi Z Z (by first | exact Qu (by omega) (by omega) | exact QY (by omega) (by omega) | exact Zb (by omega) (by omega) | rfl) (Qb Z (hK _ ?_)))))))
     refine Ql (Ql ?_)
     refine Qo (i + 1) ?_ ?_ ?_
     ·first | exact Zx (l := [4, 25]) (lH := [25]) (kp2 rfl rfl) (Qz rfl QC) rfl rfl rfl | exact Zx (l := [4, 25]) (lH := [25]) (kp2 rfl rfl) (Qz rfl QC) (by rw [QeF (by omega)]; simp; omega) rfl rfl | (exfalso; omega)
     ·first | exact ⟨by omega, Zg (by omega) hI.2.1 (by simp [Yo]; omega), hI.2.2⟩ | (exfalso; omega)
     ·first | omega | (simp only; omega) | (dsimp only; omega)
    ·try rw [h8]
     try simp only [qB, Bool.and_eq_true, Bool.and_eq_false_iff, decide_eq_true_eq] at h8
     refine Qe fun K hK => Qb Z (Qb Z (hK _ _ (Qa (kp2 Z Z) ?_)))
     refine Qq (Qw (Qw (Q8 (Qw (Qk (ZQ Z Z ?_))))))
     first | (rw [QaC (s := s) (by first | (left; assumption) | (right; omega))]; exact ⟨rfl, rfl⟩) | (rw [YF (s := s) (by omega) (by assumption)]; exact ⟨rfl, rfl⟩) | (rw [Xt (s := s) (i := i) (by omega) (by simp [Yo]; omega)]; exact ⟨rfl, rfl⟩) | (rw [QbZ (s := s) (i := i) hJ (by omega) hI.2.1]; exact ⟨rfl, by simp [QaF, D.fz, D.fzS, D.can, D.canS]; omega⟩)
   ·try rw [h7]
    try simp only [qB, Bool.and_eq_true, Bool.and_eq_false_iff, decide_eq_true_eq] at h7
    refine Qr Z (Qr Z (Qi Z Z (Qb Z (hK _ _ (Qa (kp4 Z Z Z Z) ?_)))))
    refine ZD Z (Qe fun K hK => Qb Z (Qb Z (hK _ _ (Qa (kp2 Z Z) ?_))))
    refine Qq (Qw (Qw (Q8 (Qw (Qk (ZQ Z Z ?_))))))
    first | (rw [QaC (s := s) (by first | (left; assumption) | (right; omega))]; exact ⟨rfl, rfl⟩) | (rw [YF (s := s) (by omega) (by assumption)]; exact ⟨rfl, rfl⟩) | (rw [Xt (s := s) (i := i) (by omega) (by simp [Yo]; omega)]; exact ⟨rfl, rfl⟩) | (rw [QbZ (s := s) (i := i) hJ (by omega) hI.2.1]; exact ⟨rfl, by simp [QaF, D.fz, D.fzS, D.can, D.canS]; omega⟩)
  ·obtain ⟨cwh6, nwh6, hch6, hdh6⟩ := Qjp h5 h6
   refine Qji Z Z h5 hdh6 (Zh Z Z (hK _ _ (Qa (kp4 Z Z Z Z) ?_)))
   refine QH ?_ -- 2
   refine Zj Z (Qx (Qf (kp3 Z Z Z) (QM (Qe fun K hK => Zh Z Z (Qb Z (hK _ _ (Qa (kp3 Z Z Z) ?_)))))))
   refine QM (Qe fun K hK => Qb Z (Qiy Z Z (Qb Z ?_)))
   refine Qv (g := 32) Z (fun h9 => ?_) (fun h9 => ?_)
   ·try rw [h9]
    try simp only [qB, Bool.and_eq_true, Bool.and_eq_false_iff, decide_eq_true_eq] at h9
    refine Qg Z (Qb Z (Qg Z (QlY Z Z (Qi Z Z (Qb Z (hK _ _ (Qa (kp4 Z Z Z Z) ?_)))))))
    refine QA Z (fun h10 => ?_) (fun h10 => ?_)
    ·try rw [h10]
     try simp only [qB, Bool.and_eq_true, Bool.and_eq_false_iff, decide_eq_true_eq] at h10
     refine Ze fun K hK => Qb Z (QlZ Z Z (by first | exact Qu (by omega) (by omega) | exact QY (by omega) (by omega) | exact Zb (by omega) (by omega) | rfl) (Qb Z (Qc1 Z Z (by first | exact Qu (by omega) (by omega) | exact QY (by omega) (by omega) | exact Zb (by omega) (by omega) | rfl) (QfU Z (by first | exact Qu (by omega) (by omega) | exact QY (by omega) (by omega) | exact Zb (by omega) (by omega) | rfl) (Zi Z Z (by first | exact Qu (by omega) (by omega) | exact QY (by omega) (by omega) | exact Zb (by omega) (by omega) | rfl) (Qb Z (hK _ ?_)))))))
     refine Ql (Ql ?_)
     refine Qo (i + 1) ?_ ?_ ?_
     ·first | exact Zx (l := [4, 25]) (lH := [25]) (kp2 rfl rfl) (Qz rfl QC) rfl rfl rfl | exact Zx (l := [4, 25]) (lH := [25]) (kp2 rfl rfl) (Qz rfl QC) (by rw [QeF (by omega)]; simp; omega) rfl rfl | (exfalso; omega)
     ·first | exact ⟨by omega, Zg (by omega) hI.2.1 (by simp [Yo]; omega), hI.2.2⟩ | (exfalso; omega)
     ·first | omega | (simp only; omega) | (dsimp only; omega)
    ·try rw [h10]
     try simp only [qB, Bool.and_eq_true, Bool.and_eq_false_iff, decide_eq_true_eq] at h10
     refine Qe fun K hK => Qb Z (Qb Z (hK _ _ (Qa (kp2 Z Z) ?_)))
     refine Qq (Qw (Qw (Q8 (Qw (Qk (ZQ Z Z ?_))))))
     first | (rw [QaC (s := s) (by first | (left; assumption) | (right; omega))]; exact ⟨rfl, rfl⟩) | (rw [YF (s := s) (by omega) (by assumption)]; exact ⟨rfl, rfl⟩) | (rw [Xt (s := s) (i := i) (by omega) (by simp [Yo]; omega)]; exact ⟨rfl, rfl⟩) | (rw [QbZ (s := s) (i := i) hJ (by omega) hI.2.1]; exact ⟨rfl, by simp [QaF, D.fz, D.fzS, D.can, D.canS]; omega⟩)
   ·try rw [h9]
    try simp only [qB, Bool.and_eq_true, Bool.and_eq_false_iff, decide_eq_true_eq] at h9
    refine Qr Z (Qr Z (Qi Z Z (Qb Z (hK _ _ (Qa (kp4 Z Z Z Z) ?_)))))
    refine ZD Z (Qe fun K hK => Qb Z (Qb Z (hK _ _ (Qa (kp2 Z Z) ?_))))
    refine Qq (Qw (Qw (Q8 (Qw (Qk (ZQ Z Z ?_))))))
    first | (rw [QaC (s := s) (by first | (left; assumption) | (right; omega))]; exact ⟨rfl, rfl⟩) | (rw [YF (s := s) (by omega) (by assumption)]; exact ⟨rfl, rfl⟩) | (rw [Xt (s := s) (i := i) (by omega) (by simp [Yo]; omega)]; exact ⟨rfl, rfl⟩) | (rw [QbZ (s := s) (i := i) hJ (by omega) hI.2.1]; exact ⟨rfl, by simp [QaF, D.fz, D.fzS, D.can, D.canS]; omega⟩)
 ·refine Qhs Z Z (by omega) (Zh Z Z (hK _ _ (Qa (kp4 Z Z Z Z) ?_)))
  refine QH ?_ -- 2
  refine ZD Z (ZA (QR (QD (QK (Qf (kp1 Z) (Qe fun K hK => Qb Z (Qb Z (QlY Z Z (Qb Z (Qb Z ?_))))))))))
  refine hK _ _ (Qa (kp2 Z Z) ?_)
  refine Qq (ZQ Z Z ?_)
  first | (rw [QaC (s := s) (by first | (left; assumption) | (right; omega))]; exact ⟨rfl, rfl⟩) | (rw [YF (s := s) (by omega) (by assumption)]; exact ⟨rfl, rfl⟩) | (rw [Xt (s := s) (i := i) (by omega) (by simp [Yo]; omega)]; exact ⟨rfl, rfl⟩) | (rw [QbZ (s := s) (i := i) hJ (by omega) hI.2.1]; exact ⟨rfl, by simp [QaF, D.fz, D.fzS, D.can, D.canS]; omega⟩)
theorem QaJ {s : List UInt8} (hl : s.length <= 1000000) : Ok Tryd.prog 81 [.str s] (.bool (QcH s)) := by
 refine Ok.ofT Z3 Tryd.func81 Qrl (Nat.le_of_ble_eq_true Z) ?_
 show TW _ _ tf81.body _ _
 refine Qe fun K hK => Qb Z (hK _ _ (Qa (kp1 Z) ?_))
 refine Qny (Qe fun K hK => Qb Z (Qy (X1 (by omega)) Z Z (.inl Z) (Qb Z (hK _ _ (Qa (kp1 Z) ?_)))))
 refine Qe fun K hK => Qb Z (ZF Z Z (QlY Z Z (Qb Z (hK _ _ (Qa (kp2 Z Z) ?_)))))
 refine QH ?_ -- 0
 refine Qx (Qf (kp2 Z Z) ?_)
 refine QH ?_ -- 1
 refine Qe fun K hK => Qb Z (ZF Z Z (Qb Z (hK _ _ (Qa (kp4 Z Z Z Z) ?_))))
 refine QM ?_
 refine Z8 (ι := Nat) (fun i => ⟨[(4, .bool (decide ((Q4 s 46).length <= 4))), (14, .sl (YP (Q4 s 46))), (15, .int .i64 (Q4 s 46).length), (16, .int .i64 i)], []⟩) (fun i => i <= (Q4 s 46).length /\ ((Q4 s 46).take i).all QbC = true) (fun i => (Q4 s 46).length - i) 0 ?_ ?_ ?_
 ·exact Zx (l := [4, 14, 15, 16]) (kp4 rfl rfl rfl rfl) QC (by simp [Qp]; omega) rfl rfl
 ·exact ⟨Nat.zero_le _, rfl⟩
 intro i hI
 have sl := QdF (s := s) (c := 46)
 try dsimp only
 refine Qe fun K hK => YH Z Z (hK _ _ (Qa (kp5 Z Z Z Z Z) ?_))
 refine QH ?_ -- 2
 refine QA Z (fun h1 => ?_) (fun h1 => ?_)
 ·try rw [h1]
  try simp only [qB, Qp] at h1
  refine Qx (Qf (kp4 Z Z Z Z) ?_)
  refine QH ?_ -- 3
  refine QM (Qe fun K hK => Q3 Z Z Z (by omega) (X4 (by omega)) Z (QF Z Z Z (Qb Z (hK _ _ (Qa (kp5 Z Z Z Z Z) ?_)))))
  refine QH ?_ -- 4
  refine Qe fun K hK => Qb Z (QbD Z Z (Qb Z ?_))
  refine Qv (g := 22) Z (fun h2 => ?_) (fun h2 => ?_)
  ·try rw [h2]
   try simp only [qB, Qp] at h2
   refine Qr Z (Qr Z (Qr Z (Qi Z Z (hK _ _ (Qa (kp6 Z Z Z Z Z Z) ?_)))))
   refine Zj Z (Qe fun K hK => Qb Z (hK _ _ (Qa (kp1 Z) ?_)))
   refine ZA (QR (Zc (by decide) (QR (QD (QK (Qf (kp1 Z) (Qe fun K hK => Qb Z (Qb Z (hK _ _ (Qa (kp1 Z) ?_))))))))))
   refine Qq (Qm Z ?_)
   first | exact (ZO (i := i) (by omega) (Xs (by first | (left; assumption) | (right; omega)))).symm | exact (ZO (i := i) (by omega) (Xr (Yl (i := j) (by omega) (by simp [ZN]; omega)))).symm | exact (YN (by omega) hI.2).symm
  ·try rw [h2]
   try simp only [qB, Qp] at h2
   refine Qg Z (Qb Z (Qg Z (Yp Z (Qg Z (QdH Z Z (Qi Z Z (hK _ _ (Qa (kp6 Z Z Z Z Z Z) ?_))))))))
   refine QA Z (fun h3 => ?_) (fun h3 => ?_)
   ·try rw [h3]
    try simp only [qB, Qp] at h3
    refine Qe fun K hK => Qb Z (hK _ _ (Qa (kp1 Z) ?_))
    refine ZA (QR (Zc (by decide) (QR (QD (QK (Qf (kp1 Z) (Qe fun K hK => Qb Z (Qb Z (hK _ _ (Qa (kp1 Z) ?_))))))))))
    refine Qq (Qm Z ?_)
    first | exact (ZO (i := i) (by omega) (Xs (by first | (left; assumption) | (right; omega)))).symm | exact (ZO (i := i) (by omega) (Xr (Yl (i := j) (by omega) (by simp [ZN]; omega)))).symm | exact (YN (by omega) hI.2).symm
   ·try rw [h3]
    try simp only [qB, Qp] at h3
    refine Qx (Qf (kp5 Z Z Z Z Z) (Qe fun K hK => Qb Z (Qky Z Z (hK _ _ (Qa (kp5 Z Z Z Z Z) ?_)))))
    refine QM ?_
    have hlt : i < (Q4 s 46).length := by omega
    refine Z8 (ι := Nat) (fun j => ⟨[(4, .bool (decide ((Q4 s 46).length <= 4))), (14, .sl (YP (Q4 s 46))), (15, .int .i64 (Q4 s 46).length), (16, .int .i64 i), (28, .ref 28 0 0)], [(28, ⟨[], 0, Zp ((Q4 s 46)[i]'hlt) j, false⟩)]⟩) (fun j => j <= ((Q4 s 46)[i]'hlt).length /\ (((Q4 s 46)[i]'hlt).take j).all ZN = true) (fun j => ((Q4 s 46)[i]'hlt).length - j) 0 ?_ ?_ ?_
    ·first | exact Zx (l := [4, 14, 15, 16, 28]) (lH := [28]) (kp5 rfl rfl rfl rfl rfl) (Qz rfl QC) rfl rfl rfl | (exfalso; omega)
    ·exact ⟨Nat.zero_le _, rfl⟩
    intro j hJ
    have hJ1 := hJ.1
    try dsimp only
    refine Qe fun K hK => ?_
    rcases Nat.lt_or_ge (j) (((Q4 s 46)[i]'hlt)).length with h4 | h4
    ·rcases Nat.lt_or_ge (((((Q4 s 46)[i]'hlt))[j]).toNat) 128 with h5 | h5
     ·refine Qji Z Z h4 (QhH h4 h5) (Zh Z Z (hK _ _ (Qa (kp7 Z Z Z Z Z Z Z) ?_)))
      refine QH ?_ -- 5
      refine Zj Z (Qx (Qf (kp6 Z Z Z Z Z Z) (QM (Qe fun K hK => Zh Z Z (Qb Z (hK _ _ (Qa (kp6 Z Z Z Z Z Z) ?_)))))))
      refine Qe fun K hK => Qb Z (YH Z Z (Qb Z ?_))
      refine Qv (g := 34) Z (fun h6 => ?_) (fun h6 => ?_)
      ·try rw [h6]
       try simp only [qB, Qp] at h6
       refine Qr Z (Qr Z (Qi Z Z (Qb Z (Qg Z (Qb Z (Qg Z (YH Z Z (Qg Z (Qb Z ?_)))))))))
       refine Qv (g := 41) Z (fun h7 => ?_) (fun h7 => ?_)
       ·try rw [h7]
        try simp only [qB, Qp] at h7
        refine Qr Z (Qr Z (Qg Z (Qi Z Z (Qi Z Z (Qb Z (Qg Z (Qb Z (Qg Z (Y4 Z Z (Qi Z Z (hK _ _ (Qa (kp6 Z Z Z Z Z Z) ?_))))))))))))
        refine QA Z (fun h8 => ?_) (fun h8 => ?_)
        ·try rw [h8]
         try simp only [qB, Qp] at h8
         refine Qe fun K hK => Qb Z (hK _ _ (Qa (kp1 Z) ?_))
         refine ZA (Zc (by decide) (QD (Zc (by decide) (Zc (by decide) (QR (QD (QK (Qf (kp1 Z) (Qe fun K hK => Qb Z (Qb Z ?_))))))))))
         refine hK _ _ (Qa (kp1 Z) ?_)
         refine Qq (Qm Z ?_)
         first | exact (ZO (i := i) (by omega) (Xs (by first | (left; assumption) | (right; omega)))).symm | exact (ZO (i := i) (by omega) (Xr (Yl (i := j) (by omega) (by simp [ZN]; omega)))).symm | exact (YN (by omega) hI.2).symm
        ·try rw [h8]
         try simp only [qB, Qp] at h8
         refine Qx (Ql ?_)
         refine Qo (j + 1) ?_ ?_ ?_
         ·first | exact Zx (l := [4, 14, 15, 16, 28]) (lH := [28]) (kp5 rfl rfl rfl rfl rfl) (Qz rfl QC) rfl rfl rfl | (exfalso; omega)
         ·first | exact ⟨by omega, Zg (by omega) hJ.2 (by simp [ZN]; omega)⟩ | (exfalso; omega)
         ·first | omega | (simp only; omega) | (dsimp only; omega)
       ·try rw [h7]
        try simp only [qB, Qp] at h7
        refine Qg Z (Qb Z (Qg Z (QdH Z Z (Qg Z (Qi Z Z (Qi Z Z (Qb Z ?_)))))))
        refine Qv (g := 46) Z (fun h9 => ?_) (fun h9 => ?_)
        ·try rw [h9]
         try simp only [qB, Qp] at h9
         refine Qg Z (Qb Z (Qg Z (Y4 Z Z (Qi Z Z (hK _ _ (Qa (kp6 Z Z Z Z Z Z) ?_))))))
         refine QA Z (fun h10 => ?_) (fun h10 => ?_)
         ·try rw [h10]
          try simp only [qB, Qp] at h10
          refine Qe fun K hK => Qb Z (hK _ _ (Qa (kp1 Z) ?_))
          refine ZA (Zc (by decide) (QD (Zc (by decide) (Zc (by decide) (QR (QD (QK (Qf (kp1 Z) (Qe fun K hK => Qb Z (Qb Z ?_))))))))))
          refine hK _ _ (Qa (kp1 Z) ?_)
          refine Qq (Qm Z ?_)
          first | exact (ZO (i := i) (by omega) (Xs (by first | (left; assumption) | (right; omega)))).symm | exact (ZO (i := i) (by omega) (Xr (Yl (i := j) (by omega) (by simp [ZN]; omega)))).symm | exact (YN (by omega) hI.2).symm
         ·try rw [h10]
          try simp only [qB, Qp] at h10
          refine Qx (Ql ?_)
          refine Qo (j + 1) ?_ ?_ ?_
          ·first | exact Zx (l := [4, 14, 15, 16, 28]) (lH := [28]) (kp5 rfl rfl rfl rfl rfl) (Qz rfl QC) rfl rfl rfl | (exfalso; omega)
          ·first | exact ⟨by omega, Zg (by omega) hJ.2 (by simp [ZN]; omega)⟩ | (exfalso; omega)
          ·first | omega | (simp only; omega) | (dsimp only; omega)
        ·try rw [h9]
         try simp only [qB, Qp] at h9
         refine Qr Z (Qr Z (Qi Z Z (hK _ _ (Qa (kp6 Z Z Z Z Z Z) ?_))))
         refine ZD Z (Qx (Ql ?_))
         refine Qo (j + 1) ?_ ?_ ?_
         ·first | exact Zx (l := [4, 14, 15, 16, 28]) (lH := [28]) (kp5 rfl rfl rfl rfl rfl) (Qz rfl QC) rfl rfl rfl | (exfalso; omega)
         ·first | exact ⟨by omega, Zg (by omega) hJ.2 (by simp [ZN]; omega)⟩ | (exfalso; omega)
         ·first | omega | (simp only; omega) | (dsimp only; omega)
      ·try rw [h6]
       try simp only [qB, Qp] at h6
       refine Qg Z (Qb Z (Qg Z (QdH Z Z (Qi Z Z (Qb Z ?_)))))
       refine Qv (g := 38) Z (fun h11 => ?_) (fun h11 => ?_)
       ·try rw [h11]
        try simp only [qB, Qp] at h11
        refine Qg Z (Qb Z (Qg Z (YH Z Z (Qg Z (Qb Z ?_)))))
        refine Qv (g := 41) Z (fun h12 => ?_) (fun h12 => ?_)
        ·try rw [h12]
         try simp only [qB, Qp] at h12
         refine Qr Z (Qr Z (Qg Z (Qi Z Z (Qi Z Z (Qb Z (Qg Z (Qb Z (Qg Z (Y4 Z Z (Qi Z Z (hK _ _ (Qa (kp6 Z Z Z Z Z Z) ?_))))))))))))
         refine QA Z (fun h13 => ?_) (fun h13 => ?_)
         ·try rw [h13]
          try simp only [qB, Qp] at h13
          refine Qe fun K hK => Qb Z (hK _ _ (Qa (kp1 Z) ?_))
          refine ZA (Zc (by decide) (QD (Zc (by decide) (Zc (by decide) (QR (QD (QK (Qf (kp1 Z) (Qe fun K hK => Qb Z (Qb Z ?_))))))))))
          refine hK _ _ (Qa (kp1 Z) ?_)
          refine Qq (Qm Z ?_)
          first | exact (ZO (i := i) (by omega) (Xs (by first | (left; assumption) | (right; omega)))).symm | exact (ZO (i := i) (by omega) (Xr (Yl (i := j) (by omega) (by simp [ZN]; omega)))).symm | exact (YN (by omega) hI.2).symm
         ·try rw [h13]
          try simp only [qB, Qp] at h13
          refine Qx (Ql ?_)
          refine Qo (j + 1) ?_ ?_ ?_
          ·first | exact Zx (l := [4, 14, 15, 16, 28]) (lH := [28]) (kp5 rfl rfl rfl rfl rfl) (Qz rfl QC) rfl rfl rfl | (exfalso; omega)
          ·first | exact ⟨by omega, Zg (by omega) hJ.2 (by simp [ZN]; omega)⟩ | (exfalso; omega)
          ·first | omega | (simp only; omega) | (dsimp only; omega)
        ·try rw [h12]
         try simp only [qB, Qp] at h12
         refine Qg Z (Qb Z (Qg Z (QdH Z Z (Qg Z (Qi Z Z (Qi Z Z (Qb Z ?_)))))))
         refine Qv (g := 46) Z (fun h14 => ?_) (fun h14 => ?_)
         ·try rw [h14]
          try simp only [qB, Qp] at h14
          refine Qg Z (Qb Z (Qg Z (Y4 Z Z (Qi Z Z (hK _ _ (Qa (kp6 Z Z Z Z Z Z) ?_))))))
          refine QA Z (fun h15 => ?_) (fun h15 => ?_)
          ·try rw [h15]
           try simp only [qB, Qp] at h15
           refine Qe fun K hK => Qb Z (hK _ _ (Qa (kp1 Z) ?_))
           refine ZA (Zc (by decide) (QD (Zc (by decide) (Zc (by decide) (QR (QD (QK (Qf (kp1 Z) (Qe fun K hK => Qb Z (Qb Z ?_))))))))))
           refine hK _ _ (Qa (kp1 Z) ?_)
           refine Qq (Qm Z ?_)
           first | exact (ZO (i := i) (by omega) (Xs (by first | (left; assumption) | (right; omega)))).symm | exact (ZO (i := i) (by omega) (Xr (Yl (i := j) (by omega) (by simp [ZN]; omega)))).symm | exact (YN (by omega) hI.2).symm
          ·try rw [h15]
           try simp only [qB, Qp] at h15
           refine Qx (Ql ?_)
           refine Qo (j + 1) ?_ ?_ ?_
           ·first | exact Zx (l := [4, 14, 15, 16, 28]) (lH := [28]) (kp5 rfl rfl rfl rfl rfl) (Qz rfl QC) rfl rfl rfl | (exfalso; omega)
           ·first | exact ⟨by omega, Zg (by omega) hJ.2 (by simp [ZN]; omega)⟩ | (exfalso; omega)
           ·first | omega | (simp only; omega) | (dsimp only; omega)
         ·try rw [h14]
          try simp only [qB, Qp] at h14
          refine Qr Z (Qr Z (Qi Z Z (hK _ _ (Qa (kp6 Z Z Z Z Z Z) ?_))))
          refine ZD Z (Qx (Ql ?_))
          refine Qo (j + 1) ?_ ?_ ?_
          ·first | exact Zx (l := [4, 14, 15, 16, 28]) (lH := [28]) (kp5 rfl rfl rfl rfl rfl) (Qz rfl QC) rfl rfl rfl | (exfalso; omega)
          ·first | exact ⟨by omega, Zg (by omega) hJ.2 (by simp [ZN]; omega)⟩ | (exfalso; omega)
          ·first | omega | (simp only; omega) | (dsimp only; omega)
       ·try rw [h11]
        try simp only [qB, Qp] at h11
        refine Qr Z (Qr Z (Qr Z (QI Z (QI Z (Qr Z (Qi Z Z (Qb Z (Qr Z (Qr Z (Qi Z Z (hK _ _ (Qa (kp6 Z Z Z Z Z Z) ?_))))))))))))
        refine ZD Z (Qx (Ql ?_))
        refine Qo (j + 1) ?_ ?_ ?_
        ·first | exact Zx (l := [4, 14, 15, 16, 28]) (lH := [28]) (kp5 rfl rfl rfl rfl rfl) (Qz rfl QC) rfl rfl rfl | (exfalso; omega)
        ·first | exact ⟨by omega, Zg (by omega) hJ.2 (by simp [ZN]; omega)⟩ | (exfalso; omega)
        ·first | omega | (simp only; omega) | (dsimp only; omega)
     ·obtain ⟨cwh5, nwh5, hch5, hdh5⟩ := Qjp h4 h5
      refine Qji Z Z h4 hdh5 (Zh Z Z (hK _ _ (Qa (kp7 Z Z Z Z Z Z Z) ?_)))
      refine QH ?_ -- 5
      refine Zj Z (Qx (Qf (kp6 Z Z Z Z Z Z) (QM (Qe fun K hK => Zh Z Z (Qb Z (hK _ _ (Qa (kp6 Z Z Z Z Z Z) ?_)))))))
      refine Qe fun K hK => Qb Z (YH Z Z (Qb Z ?_))
      refine Qv (g := 34) Z (fun h16 => ?_) (fun h16 => ?_)
      ·try rw [h16]
       try simp only [qB, Qp] at h16
       refine Qr Z (Qr Z (Qi Z Z (Qb Z (Qg Z (Qb Z (Qg Z (YH Z Z (Qg Z (Qb Z ?_)))))))))
       refine Qv (g := 41) Z (fun h17 => ?_) (fun h17 => ?_)
       ·try rw [h17]
        try simp only [qB, Qp] at h17
        refine Qr Z (Qr Z (Qg Z (Qi Z Z (Qi Z Z (Qb Z (Qg Z (Qb Z (Qg Z (Y4 Z Z (Qi Z Z (hK _ _ (Qa (kp6 Z Z Z Z Z Z) ?_))))))))))))
        refine QA Z (fun h18 => ?_) (fun h18 => ?_)
        ·try rw [h18]
         try simp only [qB, Qp] at h18
         refine Qe fun K hK => Qb Z (hK _ _ (Qa (kp1 Z) ?_))
         refine ZA (Zc (by decide) (QD (Zc (by decide) (Zc (by decide) (QR (QD (QK (Qf (kp1 Z) (Qe fun K hK => Qb Z (Qb Z ?_))))))))))
         refine hK _ _ (Qa (kp1 Z) ?_)
         refine Qq (Qm Z ?_)
         first | exact (ZO (i := i) (by omega) (Xs (by first | (left; assumption) | (right; omega)))).symm | exact (ZO (i := i) (by omega) (Xr (Yl (i := j) (by omega) (by simp [ZN]; omega)))).symm | exact (YN (by omega) hI.2).symm
        ·try rw [h18]
         try simp only [qB, Qp] at h18
         refine Qx (Ql ?_)
         refine Qo (j + 1) ?_ ?_ ?_
         ·first | exact Zx (l := [4, 14, 15, 16, 28]) (lH := [28]) (kp5 rfl rfl rfl rfl rfl) (Qz rfl QC) rfl rfl rfl | (exfalso; omega)
         ·first | exact ⟨by omega, Zg (by omega) hJ.2 (by simp [ZN]; omega)⟩ | (exfalso; omega)
         ·first | omega | (simp only; omega) | (dsimp only; omega)
       ·try rw [h17]
        try simp only [qB, Qp] at h17
        refine Qg Z (Qb Z (Qg Z (QdH Z Z (Qg Z (Qi Z Z (Qi Z Z (Qb Z ?_)))))))
        refine Qv (g := 46) Z (fun h19 => ?_) (fun h19 => ?_)
        ·try rw [h19]
         try simp only [qB, Qp] at h19
         refine Qg Z (Qb Z (Qg Z (Y4 Z Z (Qi Z Z (hK _ _ (Qa (kp6 Z Z Z Z Z Z) ?_))))))
         refine QA Z (fun h20 => ?_) (fun h20 => ?_)
         ·try rw [h20]
          try simp only [qB, Qp] at h20
          refine Qe fun K hK => Qb Z (hK _ _ (Qa (kp1 Z) ?_))
          refine ZA (Zc (by decide) (QD (Zc (by decide) (Zc (by decide) (QR (QD (QK (Qf (kp1 Z) (Qe fun K hK => Qb Z (Qb Z ?_))))))))))
          refine hK _ _ (Qa (kp1 Z) ?_)
          refine Qq (Qm Z ?_)
          first | exact (ZO (i := i) (by omega) (Xs (by first | (left; assumption) | (right; omega)))).symm | exact (ZO (i := i) (by omega) (Xr (Yl (i := j) (by omega) (by simp [ZN]; omega)))).symm | exact (YN (by omega) hI.2).symm
         ·try rw [h20]
          try simp only [qB, Qp] at h20
          refine Qx (Ql ?_)
          refine Qo (j + 1) ?_ ?_ ?_
          ·first | exact Zx (l := [4, 14, 15, 16, 28]) (lH := [28]) (kp5 rfl rfl rfl rfl rfl) (Qz rfl QC) rfl rfl rfl | (exfalso; omega)
          ·first | exact ⟨by omega, Zg (by omega) hJ.2 (by simp [ZN]; omega)⟩ | (exfalso; omega)
          ·first | omega | (simp only; omega) | (dsimp only; omega)
        ·try rw [h19]
         try simp only [qB, Qp] at h19
         refine Qr Z (Qr Z (Qi Z Z (hK _ _ (Qa (kp6 Z Z Z Z Z Z) ?_))))
         refine ZD Z (Qx (Ql ?_))
         refine Qo (j + 1) ?_ ?_ ?_
         ·first | exact Zx (l := [4, 14, 15, 16, 28]) (lH := [28]) (kp5 rfl rfl rfl rfl rfl) (Qz rfl QC) rfl rfl rfl | (exfalso; omega)
         ·first | exact ⟨by omega, Zg (by omega) hJ.2 (by simp [ZN]; omega)⟩ | (exfalso; omega)
         ·first | omega | (simp only; omega) | (dsimp only; omega)
      ·try rw [h16]
       try simp only [qB, Qp] at h16
       refine Qg Z (Qb Z (Qg Z (QdH Z Z (Qi Z Z (Qb Z ?_)))))
       refine Qv (g := 38) Z (fun h21 => ?_) (fun h21 => ?_)
       ·try rw [h21]
        try simp only [qB, Qp] at h21
        refine Qg Z (Qb Z (Qg Z (YH Z Z (Qg Z (Qb Z ?_)))))
        refine Qv (g := 41) Z (fun h22 => ?_) (fun h22 => ?_)
        ·try rw [h22]
         try simp only [qB, Qp] at h22
         refine Qr Z (Qr Z (Qg Z (Qi Z Z (Qi Z Z (Qb Z (Qg Z (Qb Z (Qg Z (Y4 Z Z (Qi Z Z (hK _ _ (Qa (kp6 Z Z Z Z Z Z) ?_))))))))))))
         refine QA Z (fun h23 => ?_) (fun h23 => ?_)
         ·try rw [h23]
          try simp only [qB, Qp] at h23
          refine Qe fun K hK => Qb Z (hK _ _ (Qa (kp1 Z) ?_))
          refine ZA (Zc (by decide) (QD (Zc (by decide) (Zc (by decide) (QR (QD (QK (Qf (kp1 Z) (Qe fun K hK => Qb Z (Qb Z ?_))))))))))
          refine hK _ _ (Qa (kp1 Z) ?_)
          refine Qq (Qm Z ?_)
          first | exact (ZO (i := i) (by omega) (Xs (by first | (left; assumption) | (right; omega)))).symm | exact (ZO (i := i) (by omega) (Xr (Yl (i := j) (by omega) (by simp [ZN]; omega)))).symm | exact (YN (by omega) hI.2).symm
         ·try rw [h23]
          try simp only [qB, Qp] at h23
          refine Qx (Ql ?_)
          refine Qo (j + 1) ?_ ?_ ?_
          ·first | exact Zx (l := [4, 14, 15, 16, 28]) (lH := [28]) (kp5 rfl rfl rfl rfl rfl) (Qz rfl QC) rfl rfl rfl | (exfalso; omega)
          ·first | exact ⟨by omega, Zg (by omega) hJ.2 (by simp [ZN]; omega)⟩ | (exfalso; omega)
          ·first | omega | (simp only; omega) | (dsimp only; omega)
        ·try rw [h22]
         try simp only [qB, Qp] at h22
         refine Qg Z (Qb Z (Qg Z (QdH Z Z (Qg Z (Qi Z Z (Qi Z Z (Qb Z ?_)))))))
         refine Qv (g := 46) Z (fun h24 => ?_) (fun h24 => ?_)
         ·try rw [h24]
          try simp only [qB, Qp] at h24
          refine Qg Z (Qb Z (Qg Z (Y4 Z Z (Qi Z Z (hK _ _ (Qa (kp6 Z Z Z Z Z Z) ?_))))))
          refine QA Z (fun h25 => ?_) (fun h25 => ?_)
          ·try rw [h25]
           try simp only [qB, Qp] at h25
           refine Qe fun K hK => Qb Z (hK _ _ (Qa (kp1 Z) ?_))
           refine ZA (Zc (by decide) (QD (Zc (by decide) (Zc (by decide) (QR (QD (QK (Qf (kp1 Z) (Qe fun K hK => Qb Z (Qb Z ?_))))))))))
           refine hK _ _ (Qa (kp1 Z) ?_)
           refine Qq (Qm Z ?_)
           first | exact (ZO (i := i) (by omega) (Xs (by first | (left; assumption) | (right; omega)))).symm | exact (ZO (i := i) (by omega) (Xr (Yl (i := j) (by omega) (by simp [ZN]; omega)))).symm | exact (YN (by omega) hI.2).symm
          ·try rw [h25]
           try simp only [qB, Qp] at h25
           refine Qx (Ql ?_)
           refine Qo (j + 1) ?_ ?_ ?_
           ·first | exact Zx (l := [4, 14, 15, 16, 28]) (lH := [28]) (kp5 rfl rfl rfl rfl rfl) (Qz rfl QC) rfl rfl rfl | (exfalso; omega)
           ·first | exact ⟨by omega, Zg (by omega) hJ.2 (by simp [ZN]; omega)⟩ | (exfalso; omega)
           ·first | omega | (simp only; omega) | (dsimp only; omega)
         ·try rw [h24]
          try simp only [qB, Qp] at h24
          refine Qr Z (Qr Z (Qi Z Z (hK _ _ (Qa (kp6 Z Z Z Z Z Z) ?_))))
          refine ZD Z (Qx (Ql ?_))
          refine Qo (j + 1) ?_ ?_ ?_
          ·first | exact Zx (l := [4, 14, 15, 16, 28]) (lH := [28]) (kp5 rfl rfl rfl rfl rfl) (Qz rfl QC) rfl rfl rfl | (exfalso; omega)
          ·first | exact ⟨by omega, Zg (by omega) hJ.2 (by simp [ZN]; omega)⟩ | (exfalso; omega)
          ·first | omega | (simp only; omega) | (dsimp only; omega)
       ·try rw [h21]
        try simp only [qB, Qp] at h21
        refine Qr Z (Qr Z (Qr Z (QI Z (QI Z (Qr Z (Qi Z Z (Qb Z (Qr Z (Qr Z (Qi Z Z (hK _ _ (Qa (kp6 Z Z Z Z Z Z) ?_))))))))))))
        refine ZD Z (Qx (Ql ?_))
        refine Qo (j + 1) ?_ ?_ ?_
        ·first | exact Zx (l := [4, 14, 15, 16, 28]) (lH := [28]) (kp5 rfl rfl rfl rfl rfl) (Qz rfl QC) rfl rfl rfl | (exfalso; omega)
        ·first | exact ⟨by omega, Zg (by omega) hJ.2 (by simp [ZN]; omega)⟩ | (exfalso; omega)
        ·first | omega | (simp only; omega) | (dsimp only; omega)
    ·refine Qhs Z Z (by omega) (Zh Z Z (hK _ _ (Qa (kp7 Z Z Z Z Z Z Z) ?_)))
     refine QH ?_ -- 5
     refine ZD Z (ZA (QR (QD (QK (Ql (Qf (kp4 Z Z Z Z) (Ze fun K hK => Zi Z Z (by first | exact Qu (by omega) (by omega) | exact QY (by omega) (by omega) | exact Zb (by omega) (by omega) | rfl) (Qb Z (hK _ ?_)))))))))
     refine Qo (i + 1) ?_ ?_ ?_
     ·exact Zx (l := [4, 14, 15, 16]) (kp4 rfl rfl rfl rfl) QC rfl rfl rfl
     ·exact ⟨by omega, Zg (by omega) hI.2 (QnY (by assumption) (by omega) (Xc (by omega) hJ.2))⟩
     ·first | omega | (simp only; omega) | (dsimp only; omega)
 ·try rw [h1]
  try simp only [qB, Qp] at h1
  refine ZA (QR (QD (QK (Qf (kp1 Z) (Qe fun K hK => Qb Z (Qb Z (hK _ _ (Qa (kp1 Z) ?_))))))))
  refine Qq (Qm Z ?_)
  first | exact (ZO (i := i) (by omega) (Xs (by first | (left; assumption) | (right; omega)))).symm | exact (ZO (i := i) (by omega) (Xr (Yl (i := j) (by omega) (by simp [ZN]; omega)))).symm | exact (YN (by omega) hI.2).symm
end Go.Proofs
namespace Go.Proofs
open Go Go.Abs M3
set_option linter.unusedVariables false
set_option linter.unusedSimpArgs false
theorem QgA {a b : List UInt8} (ha : a.length <= 1000000) (hb : b.length <= 1000000) : Ok Tryd.prog 110 [.str a, .str b] (.int .i64 (QfP a b)) := by
 refine Ok.ofT Z3 Tryd.func110 Qp5 (Nat.le_of_ble_eq_true Z) ?_
 show TW _ _ tf110.body _ _
 refine Qe fun K hK => Qb Z (hK _ _ (Qa (kp2 Z Z) ?_))
 refine Qe fun K hK => Qb Z (Qy (XA (by omega)) Z Z (.inr Z) (Qb Z (Qy (XA (by omega)) Z Z (.inr Z) (Qb Z (Qb Z (hK _ _ (Qa (kp4 Z Z Z Z) ?_)))))))
 refine QH ?_ -- 0
 refine Qe fun K hK => Qb Z (Qb Z ?_)
 refine Qv (g := 16) Z (fun h1 => ?_) (fun h1 => ?_)
 ·try rw [h1]
  try simp only [qB] at h1
  refine Qg Z (Qb Z (Qi Z Z (hK _ _ (Qa (kp5 Z Z Z Z Z) ?_))))
  refine QA Z (fun h2 => ?_) (fun h2 => ?_)
  ·try rw [h2]
   try simp only [qB] at h2
   refine Qe fun K hK => Qb Z (Qy (QaH (by omega)) Z Z (.inr Z) (Qb Z (Zh Z Z (Zh Z Z (Qb Z (Qb Z (hK _ _ (Qa (kp2 Z Z) ?_))))))))
   refine Qe fun K hK => Qb Z (Qy (QaH (by omega)) Z Z (.inr Z) (Qb Z (Zh Z Z (Zh Z Z (Qb Z (Qb Z (hK _ _ (Qa (kp2 Z Z) ?_))))))))
   refine Qe fun K hK => Qb Z (Qb Z (Qy (ZJ) Z Z (.inr Z) (Qb Z (hK _ _ (Qa (kp1 Z) ?_)))))
   refine Qq (Qk (Qs Z ?_))
   (repeat clear hK K); first | (simp [QfP, h1, h2]; done) | (simp_all [QfP]; done)
  ·try rw [h2]
   try simp only [qB] at h2
   refine Qx (Qf (kp4 Z Z Z Z) ?_)
   refine QH ?_ -- 1
   refine Qe fun K hK => Qb Z (Qb Z (QoH Z Z (hK _ _ (Qa (kp4 Z Z Z Z) ?_))))
   refine QA Z (fun h3 => ?_) (fun h3 => ?_)
   ·try rw [h3]
    try simp only [qB] at h3
    refine QH ?_ -- 2
    refine Qe fun K hK => Qb Z (hK _ _ (Qa (kp1 Z) ?_))
    refine Zj Z (Qe fun K hK => Qb Z (hK _ _ (Qa (kp1 Z) ?_)))
    refine Qq (Qk (Qk (Qs Z ?_)))
    (repeat clear hK K); first | (simp [QfP, h1, h2, h3]; done) | (simp_all [QfP]; done)
   ·try rw [h3]
    try simp only [qB] at h3
    refine Qx (Qf (kp2 Z Z) (Qe fun K hK => Qb Z (Qb Z (Qy (XT) Z Z (.inr Z) (Qb Z (hK _ _ (Qa (kp1 Z) ?_)))))))
    refine Qq (Qs Z ?_)
    (repeat clear hK K); first | (simp [QfP, h1, h2, h3]; done) | (simp_all [QfP]; done)
 ·try rw [h1]
  try simp only [qB] at h1
  refine Qr Z (Qi Z Z (hK _ _ (Qa (kp5 Z Z Z Z Z) ?_)))
  refine ZD Z (Qx (Qf (kp4 Z Z Z Z) ?_))
  refine QH ?_ -- 1
  refine Qe fun K hK => Qb Z (Qb Z (QoH Z Z (hK _ _ (Qa (kp4 Z Z Z Z) ?_))))
  refine QA Z (fun h4 => ?_) (fun h4 => ?_)
  ·try rw [h4]
   try simp only [qB] at h4
   refine QH ?_ -- 2
   refine Qe fun K hK => Qb Z (hK _ _ (Qa (kp1 Z) ?_))
   refine ZD Z (Qx (Qf (QX) (Qe fun K hK => Qb Z (hK _ _ (Qa (kp1 Z) ?_)))))
   refine Qq (Qk (Qs Z ?_))
   (repeat clear hK K); first | (simp [QfP, h1, h4]; done) | (simp_all [QfP]; done)
  ·try rw [h4]
   try simp only [qB] at h4
   refine Qx (Qf (kp2 Z Z) (Qe fun K hK => Qb Z (Qb Z (Qy (XT) Z Z (.inr Z) (Qb Z (hK _ _ (Qa (kp1 Z) ?_)))))))
   refine Qq (Qs Z ?_)
   (repeat clear hK K); first | (simp [QfP, h1, h4]; done) | (simp_all [QfP]; done)
theorem Qgz {s : List UInt8} (hl : s.length <= 1000000) : Ok Tryd.prog 80 [.str s] (.bool (QfQ s)) := by
 refine Ok.ofT Z3 Tryd.func80 Qrk (Nat.le_of_ble_eq_true Z) ?_
 show TW _ _ tf80.body _ _
 refine Qe fun K hK => Qb Z (hK _ _ (Qa (kp1 Z) ?_))
 refine QH ?_ -- 0
 refine Qe fun K hK => Qb Z (Qy (QaJ (by omega)) Z Z (.inr Z) (ZM Z (hK _ _ (Qa (kp2 Z Z) ?_))))
 refine QA Z (fun h1 => ?_) (fun h1 => ?_)
 ·try rw [h1]
  try simp only [qB, Qp] at h1
  refine Qe fun K hK => Qb Z (hK _ _ (Qa (kp1 Z) ?_))
  refine Qq (Qk (Qm Z ?_))
  first | (simp [QfQ, h1]; done) | exact (QiY (i := i) (by omega) (by simp [Qei, h1])).symm | exact (Qg3 (i := i) (by assumption) (by omega) hI.2).symm
 ·try rw [h1]
  try simp only [qB, Qp] at h1
  refine Qx (Qf (kp1 Z) ?_)
  refine QH ?_ -- 1
  refine Qe fun K hK => Qb Z (Qy (X1 (by omega)) Z Z (.inl Z) (ZF Z Z (Qb Z (hK _ _ (Qa (kp3 Z Z Z) ?_)))))
  refine QM ?_
  refine Z8 (ι := Nat) (fun i => ⟨[(11, .sl (YP (Q4 s 46))), (12, .int .i64 (Q4 s 46).length), (13, .int .i64 i)], []⟩) (fun i => i <= (Q4 s 46).length /\ ((Q4 s 46).take i).all Qei = true) (fun i => (Q4 s 46).length - i) 0 ?_ ?_ ?_
  ·exact Zx (l := [11, 12, 13]) (kp3 rfl rfl rfl) QC (by simp [Qp]) rfl rfl
  ·exact ⟨Nat.zero_le _, rfl⟩
  intro i hI
  have sl := QdF (s := s) (c := 46)
  try dsimp only
  refine Qe fun K hK => YH Z Z (hK _ _ (Qa (kp4 Z Z Z Z) ?_))
  refine QH ?_ -- 2
  refine QA Z (fun h2 => ?_) (fun h2 => ?_)
  ·try rw [h2]
   try simp only [qB, Qp] at h2
   refine Qx (Qf (kp3 Z Z Z) ?_)
   refine QH ?_ -- 3
   refine QM (Qe fun K hK => Q3 Z Z Z (by omega) (X4 (by omega)) Z (QF Z Z Z (Qb Z (hK _ _ (Qa (kp4 Z Z Z Z) ?_)))))
   refine Qe fun K hK => Qb Z (Qy (QaH (X8 (by omega) hl)) Z Z (.inr Z) (Qb Z (Zh Z Z (Zh Z Z (Qb Z (Qb Z (hK _ _ (Qa (kp5 Z Z Z Z Z) ?_))))))))
   refine Qe fun K hK => Qb Z (Qy (XA (X8 (by omega) hl)) Z Z (.inr Z) (Qb Z ?_))
   refine Qv (g := 24) Z (fun h3 => ?_) (fun h3 => ?_)
   ·try rw [h3]
    try simp only [qB, Qp] at h3
    refine Qg Z (Qb Z (Qg Z (ZM Z (Qi Z Z (hK _ _ (Qa (kp4 Z Z Z Z) ?_))))))
    refine QA Z (fun h4 => ?_) (fun h4 => ?_)
    ·try rw [h4]
     try simp only [qB, Qp] at h4
     refine Qe fun K hK => Qb Z (hK _ _ (Qa (kp1 Z) ?_))
     refine Qq (Qw (Qk (Q8 (Qw (Qk (Qm Z ?_))))))
     first | (simp [QfQ, h1, h2, h3, h4]; done) | exact (QiY (i := i) (by omega) (by simp [Qei, h1, h2, h3, h4])).symm | exact (Qg3 (i := i) (by assumption) (by omega) hI.2).symm
    ·try rw [h4]
     try simp only [qB, Qp] at h4
     refine Qx (Ql (Qf (kp3 Z Z Z) (Ze fun K hK => Zi Z Z (by first | exact Qu (by omega) (by omega) | exact QY (by omega) (by omega) | exact Zb (by omega) (by omega) | rfl) (Qb Z (hK _ ?_)))))
     refine Qo (i + 1) ?_ ?_ ?_
     ·exact Za (kp3 rfl rfl rfl)
     ·exact ⟨by omega, Zg (by omega) hI.2 (by simp [Qei, h1, h2, h3, h4])⟩
     ·first | omega | (simp only; omega) | (dsimp only; omega)
   ·try rw [h3]
    try simp only [qB, Qp] at h3
    refine Qr Z (Qr Z (Qi Z Z (hK _ _ (Qa (kp4 Z Z Z Z) ?_))))
    refine ZD Z (Qx (Ql (Qf (kp3 Z Z Z) (Ze fun K hK => Zi Z Z (by first | exact Qu (by omega) (by omega) | exact QY (by omega) (by omega) | exact Zb (by omega) (by omega) | rfl) (Qb Z (hK _ ?_))))))
    refine Qo (i + 1) ?_ ?_ ?_
    ·exact Za (kp3 rfl rfl rfl)
    ·exact ⟨by omega, Zg (by omega) hI.2 (by simp [Qei, h1, h2, h3])⟩
    ·first | omega | (simp only; omega) | (dsimp only; omega)
  ·try rw [h2]
   try simp only [qB, Qp] at h2
   refine ZA (QR (QD (QK (Qf (QX) (Qe fun K hK => Qb Z (hK _ _ (Qa (kp1 Z) ?_)))))))
   refine Qq (Qm Z ?_)
   first | (simp [QfQ, h1, h2]; done) | exact (QiY (i := i) (by omega) (by simp [Qei, h1, h2])).symm | exact (Qg3 (i := i) (by assumption) (by omega) hI.2).symm
theorem YO {a b c : Int} {p q : List UInt8} (hp : p.length <= 1000000) (hq : q.length <= 1000000) : Ok Tryd.prog 60 [.agg [.int .i64 a, .int .i64 b, .int .i64 c, .str p, .str q]] (.bool (Qbp a b c p q)) := by
 refine Ok.ofT Z3 Tryd.func60 Qq0 (Nat.le_of_ble_eq_true Z) ?_
 show TW _ _ tf60.body _ _
 refine Qe fun K hK => ZI Z Z Z (Qb Z (hK _ _ (Qa (kp1 Z) ?_)))
 refine Qe fun K hK => Qh Z Z (QF Z Z Z (Qy (QaI) Z Z (.inr Z) (Qb Z ?_)))
 refine Qv (g := 6) Z (fun h1 => ?_) (fun h1 => ?_)
 ·try rw [h1]
  try simp only [qB] at h1
  refine Qg Z (Qh Z Z (Qg Z (QF Z Z Z (Qg Z (Qy (QaI) Z Z (.inr Z) (Qi Z Z (Qb Z ?_)))))))
  refine Qv (g := 11) Z (fun h2 => ?_) (fun h2 => ?_)
  ·try rw [h2]
   try simp only [qB] at h2
   refine Qg Z (Qh Z Z (Qg Z (QF Z Z Z (Qg Z (Qy (QaI) Z Z (.inr Z) (Qi Z Z (Qb Z ?_)))))))
   refine Qv (g := 16) Z (fun h3 => ?_) (fun h3 => ?_)
   ·try rw [h3]
    try simp only [qB] at h3
    refine Qg Z (Qh Z Z (Qg Z (QF Z Z Z (Qg Z (QbD Z Z (Qg Z (Qb Z ?_)))))))
    refine Qv (g := 20) Z (fun h4 => ?_) (fun h4 => ?_)
    ·try rw [h4]
     try simp only [qB] at h4
     refine Qr Z (Qr Z (Qr Z (Qg Z (Qi Z Z (Qi Z Z (Qb Z (Qg Z (Qh Z Z (Qg Z (QF Z Z Z (Qg Z ?_)))))))))))
     refine QbD Z Z (Qg Z (Qb Z ?_))
     refine Qv (g := 30) Z (fun h5 => ?_) (fun h5 => ?_)
     ·try rw [h5]
      try simp only [qB] at h5
      refine Qr Z (Qr Z (Qr Z (Qg Z (Qi Z Z (Qi Z Z (Qb Z (hK _ _ (Qa (kp1 Z) ?_))))))))
      refine Qq (Qm Z ?_)
      simp [Qbp, YM, Xg, h1, h2, h3, h4, h5]
     ·try rw [h5]
      try simp only [qB] at h5
      refine Qg Z (Qh Z Z (Qg Z (QF Z Z Z (Qg Z (Qy (QaJ (by omega)) Z Z (.inr Z) (Qg Z (Qi Z Z (Qi Z Z (Qb Z (hK _ _ (Qa (kp1 Z) ?_)))))))))))
      refine Qq (Qm Z ?_)
      simp [Qbp, YM, Xg, h1, h2, h3, h4, h5]
    ·try rw [h4]
     try simp only [qB] at h4
     refine Qg Z (Qh Z Z (Qg Z (QF Z Z Z (Qg Z (Qy (Qgz (by omega)) Z Z (.inr Z) (Qg Z (Qi Z Z (Qi Z Z (Qb Z ?_)))))))))
     refine Qv (g := 26) Z (fun h6 => ?_) (fun h6 => ?_)
     ·try rw [h6]
      try simp only [qB] at h6
      refine Qg Z (Qh Z Z (Qg Z (QF Z Z Z (Qg Z (QbD Z Z (Qg Z (Qb Z ?_)))))))
      refine Qv (g := 30) Z (fun h7 => ?_) (fun h7 => ?_)
      ·try rw [h7]
       try simp only [qB] at h7
       refine Qr Z (Qr Z (Qr Z (Qg Z (Qi Z Z (Qi Z Z (Qb Z (hK _ _ (Qa (kp1 Z) ?_))))))))
       refine Qq (Qm Z ?_)
       simp [Qbp, YM, Xg, h1, h2, h3, h4, h6, h7]
      ·try rw [h7]
       try simp only [qB] at h7
       refine Qg Z (Qh Z Z (Qg Z (QF Z Z Z (Qg Z (Qy (QaJ (by omega)) Z Z (.inr Z) (Qg Z (Qi Z Z (Qi Z Z (Qb Z (hK _ _ (Qa (kp1 Z) ?_)))))))))))
       refine Qq (Qm Z ?_)
       simp [Qbp, YM, Xg, h1, h2, h3, h4, h6, h7]
     ·try rw [h6]
      try simp only [qB] at h6
      refine Qr Z (Qr Z (Qr Z (Qr Z (QI Z (QI Z (QI Z (Qr Z (Qi Z Z (Qb Z (hK _ _ (Qa (kp1 Z) ?_)))))))))))
      refine Qq (Qm Z ?_)
      simp [Qbp, YM, Xg, h1, h2, h3, h4, h6]
   ·try rw [h3]
    try simp only [qB] at h3
    refine Qr Z (Qr Z (Qr Z (Qr Z (QI Z (QI Z (QI Z (Qr Z (Qi Z Z (Qb Z (Qr Z (Qr Z ?_)))))))))))
    refine Qr Z (Qr Z (QI Z (QI Z (QI Z (Qr Z (Qi Z Z (Qb Z (hK _ _ (Qa (kp1 Z) ?_)))))))))
    refine Qq (Qm Z ?_)
    simp [Qbp, YM, Xg, h1, h2, h3]
  ·try rw [h2]
   try simp only [qB] at h2
   refine Qr Z (Qr Z (Qr Z (Qi Z Z (Qb Z (Qr Z (Qr Z (Qr Z (Qr Z (QI Z (QI Z (QI Z ?_)))))))))))
   refine Qr Z (Qi Z Z (Qb Z (Qr Z (Qr Z (Qr Z (Qr Z (QI Z (QI Z (QI Z (Qr Z (Qi Z Z ?_)))))))))))
   refine Qb Z (hK _ _ (Qa (kp1 Z) ?_))
   refine Qq (Qm Z ?_)
   simp [Qbp, YM, Xg, h1, h2]
 ·try rw [h1]
  try simp only [qB] at h1
  refine Qr Z (Qr Z (Qr Z (Qi Z Z (Qb Z (Qr Z (Qr Z (Qr Z (Qi Z Z (Qb Z (Qr Z (Qr Z ?_)))))))))))
  refine Qr Z (Qr Z (QI Z (QI Z (QI Z (Qr Z (Qi Z Z (Qb Z (Qr Z (Qr Z (Qr Z (Qr Z ?_)))))))))))
  refine QI Z (QI Z (QI Z (Qr Z (Qi Z Z (Qb Z (hK _ _ (Qa (kp1 Z) ?_)))))))
  refine Qq (Qm Z ?_)
  simp [Qbp, YM, Xg, h1]
theorem QaW {a b c : Int} {p q : List UInt8} (hp : p.length <= 1000000) (hq : q.length <= 1000000) {a' b' c' : Int} {p' q' : List UInt8} (hp' : p'.length <= 1000000) (hq' : q'.length <= 1000000) : Ok Tryd.prog 105 [.agg [.int .i64 a, .int .i64 b, .int .i64 c, .str p, .str q], .agg [.int .i64 a', .int .i64 b', .int .i64 c', .str p', .str q']] (.int .i64 (QcP a b c p q a' b' c' p' q')) := by
 refine Ok.ofT Z3 Tryd.func105 Qp0 (Nat.le_of_ble_eq_true Z) ?_
 show TW _ _ tf105.body _ _
 refine Qe fun K hK => ZI Z Z Z (ZI Z Z Z (Qb Z (hK _ _ (Qa (kp2 Z Z) ?_))))
 refine QH ?_ -- 0
 refine Qe fun K hK => QG (ds0 := [13, 12, 11, 10, 9, 8, 7, 6, 5, 4, 3, 2, 1, 0]) (cs := [_, _, _, _, _]) Z Z Z Z Z Z (QU (ds0 := [12, 11, 10, 9, 8, 7, 6, 5, 4, 3, 2, 1, 0]) (YO (by omega) (by omega)) Z Z (.inr Z) Z Z (ZM Z (Qb Z ?_)))
 refine Qv (g := 13) Z (fun h1 => ?_) (fun h1 => ?_)
 ·try rw [h1]
  try simp only [qB, Qp] at h1
  refine Qr Z (Qr Z (Qr Z (Qi Z Z (Qb Z (Qr Z (Qr Z (Qr Z (Qr Z (Qr Z (Qi Z Z (hK _ _ (Qa (kp3 Z Z Z) ?_))))))))))))
  refine Zj Z (Qe fun K hK => Qb Z (hK _ _ (Qa (kp1 Z) ?_)))
  refine Qq (Qk (Qs Z ?_))
  first | (simp [QcP, h1]; done) | (exact (Qdh (by assumption) (by assumption) (by assumption)).symm) | (exact Qbd (by assumption) (by assumption) (by assumption)) | (exact (X2 (by assumption) (by assumption) (by assumption) (by assumption) (by assumption)).symm) | (exact (X3 (by assumption) (by assumption) (by assumption) (by assumption) (by assumption)).symm) | (rw [hI.2.2, Yu (by omega) (by omega) (by assumption)]) | (rw [hI.2.2, Yt (by omega) (by omega) (by omega)]; simp [Qp])
 ·try rw [h1]
  try simp only [qB, Qp] at h1
  refine Qg Z (QG (ds0 := [9, 8, 7, 6, 5, 4, 3, 2, 1, 0]) (cs := [_, _, _, _, _]) Z Z Z Z Z Z (Qg Z (QU (ds0 := [8, 7, 6, 5, 4, 3, 2, 1, 0]) (YO (by omega) (by omega)) Z Z (.inr Z) Z Z (Qg Z (ZM Z (Qi Z Z (Qb Z ?_)))))))
  refine Qv (g := 18) Z (fun h2 => ?_) (fun h2 => ?_)
  ·try rw [h2]
   try simp only [qB, Qp] at h2
   refine Qr Z (Qr Z (Qr Z (Qr Z (Qr Z (Qi Z Z (hK _ _ (Qa (kp3 Z Z Z) ?_)))))))
   refine Zj Z (Qe fun K hK => Qb Z (hK _ _ (Qa (kp1 Z) ?_)))
   refine Qq (Qk (Qs Z ?_))
   first | (simp [QcP, h1, h2]; done) | (exact (Qdh (by assumption) (by assumption) (by assumption)).symm) | (exact Qbd (by assumption) (by assumption) (by assumption)) | (exact (X2 (by assumption) (by assumption) (by assumption) (by assumption) (by assumption)).symm) | (exact (X3 (by assumption) (by assumption) (by assumption) (by assumption) (by assumption)).symm) | (rw [hI.2.2, Yu (by omega) (by omega) (by assumption)]) | (rw [hI.2.2, Yt (by omega) (by omega) (by omega)]; simp [Qp])
  ·try rw [h2]
   try simp only [qB, Qp] at h2
   refine Qg Z (QG (ds0 := [4, 1, 0]) (cs := [_, _, _, _, _]) Z Z Z Z Z Z (Qg Z (QU (ds0 := [1, 0]) (QcA) Z Z (.inl Z) Z Z (Qg Z (QG (ds0 := [2, 1, 0]) (cs := [_, _, _, _, _]) Z Z Z Z Z Z (Qg Z (QU (ds0 := [1, 0]) (QcA) Z Z (.inl Z) Z Z (Qg Z (Qhr Z Z Z (Qi Z Z (hK _ _ (Qa (kp3 Z Z Z) ?_))))))))))))
   refine QA Z (fun h3 => ?_) (fun h3 => ?_)
   ·try rw [h3]
    try simp only [qB, Qp] at h3
    refine Qe fun K hK => Qb Z (hK _ _ (Qa (kp1 Z) ?_))
    refine Qq (Qk (Qs Z ?_))
    first | (simp [QcP, h1, h2, h3]; done) | (exact (Qdh (by assumption) (by assumption) (by assumption)).symm) | (exact Qbd (by assumption) (by assumption) (by assumption)) | (exact (X2 (by assumption) (by assumption) (by assumption) (by assumption) (by assumption)).symm) | (exact (X3 (by assumption) (by assumption) (by assumption) (by assumption) (by assumption)).symm) | (rw [hI.2.2, Yu (by omega) (by omega) (by assumption)]) | (rw [hI.2.2, Yt (by omega) (by omega) (by omega)]; simp [Qp])
   ·try rw [h3]
    try simp only [qB, Qp] at h3
    refine Qx (Qf (kp2 Z Z) ?_)
    refine QH ?_ -- 1
    refine Qe fun K hK => Qh Z Z (ZC (ds0 := [13, 2, 1, 0]) Z Z Z Z Z (Qh Z Z (ZC (ds0 := [13, 2, 1, 0]) Z Z Z Z Z (QU (ds0 := [2, 1, 0]) (ZJ) Z Z (.inr Z) Z Z (Qh Z Z (ZC (ds0 := [8, 2, 1, 0]) Z Z Z Z Z (Qh Z Z (ZC (ds0 := [8, 2, 1, 0]) Z Z Z Z Z (QU (ds0 := [2, 1, 0]) (ZJ) Z Z (.inr Z) Z Z (Qh Z Z ?_))))))))))
    refine ZC (ds0 := [3, 2, 1, 0]) Z Z Z Z Z (Qh Z Z (ZC (ds0 := [3, 2, 1, 0]) Z Z Z Z Z (QU (ds0 := [2, 1, 0]) (ZJ) Z Z (.inr Z) Z Z (QP Z Z (QU (ds0 := [0]) (QhA (l := [ZU a a', ZU b b', ZU c c']) (by simp)) Z Z (.inr Z) Z Z (Qb Z (hK _ _ (Qa (kp3 Z Z Z) ?_))))))))
    refine Qe fun K hK => Qb Z (Y4 Z Z (hK _ _ (Qa (kp4 Z Z Z Z) ?_)))
    refine QA Z (fun h4 => ?_) (fun h4 => ?_)
    ·try rw [h4]
     try simp only [qB, Qp] at h4
     refine Qe fun K hK => Qb Z (Qb Z (hK _ _ (Qa (kp1 Z) ?_)))
     refine Qq (Qk (Qs Z ?_))
     first | (simp [QcP, h1, h2, h3, h4]; done) | (exact (Qdh (by assumption) (by assumption) (by assumption)).symm) | (exact Qbd (by assumption) (by assumption) (by assumption)) | (exact (X2 (by assumption) (by assumption) (by assumption) (by assumption) (by assumption)).symm) | (exact (X3 (by assumption) (by assumption) (by assumption) (by assumption) (by assumption)).symm) | (rw [hI.2.2, Yu (by omega) (by omega) (by assumption)]) | (rw [hI.2.2, Yt (by omega) (by omega) (by omega)]; simp [Qp])
    ·try rw [h4]
     try simp only [qB, Qp] at h4
     refine Qx (Qf (kp2 Z Z) ?_)
     refine QH ?_ -- 2
     refine Qe fun K hK => Qh Z Z (QF Z Z Z (QbD Z Z (hK _ _ (Qa (kp3 Z Z Z) ?_))))
     refine QA Z (fun h5 => ?_) (fun h5 => ?_)
     ·try rw [h5]
      try simp only [qB, Qp] at h5
      refine Qe fun K hK => Qb Z (hK _ _ (Qa (kp1 Z) ?_))
      refine Qq (Qk (Qs Z ?_))
      first | (simp [QcP, h1, h2, h3, h4, h5]; done) | (exact (Qdh (by assumption) (by assumption) (by assumption)).symm) | (exact Qbd (by assumption) (by assumption) (by assumption)) | (exact (X2 (by assumption) (by assumption) (by assumption) (by assumption) (by assumption)).symm) | (exact (X3 (by assumption) (by assumption) (by assumption) (by assumption) (by assumption)).symm) | (rw [hI.2.2, Yu (by omega) (by omega) (by assumption)]) | (rw [hI.2.2, Yt (by omega) (by omega) (by omega)]; simp [Qp])
     ·try rw [h5]
      try simp only [qB, Qp] at h5
      refine Qx (Qf (kp2 Z Z) ?_)
      refine QH ?_ -- 3
      refine Qe fun K hK => Qh Z Z (QF Z Z Z (QbD Z Z (hK _ _ (Qa (kp3 Z Z Z) ?_))))
      refine QA Z (fun h6 => ?_) (fun h6 => ?_)
      ·try rw [h6]
       try simp only [qB, Qp] at h6
       refine Qe fun K hK => Qb Z (hK _ _ (Qa (kp1 Z) ?_))
       refine Qq (Qk (Qs Z ?_))
       first | (simp [QcP, h1, h2, h3, h4, h5, h6]; done) | (exact (Qdh (by assumption) (by assumption) (by assumption)).symm) | (exact Qbd (by assumption) (by assumption) (by assumption)) | (exact (X2 (by assumption) (by assumption) (by assumption) (by assumption) (by assumption)).symm) | (exact (X3 (by assumption) (by assumption) (by assumption) (by assumption) (by assumption)).symm) | (rw [hI.2.2, Yu (by omega) (by omega) (by assumption)]) | (rw [hI.2.2, Yt (by omega) (by omega) (by omega)]; simp [Qp])
      ·try rw [h6]
       try simp only [qB, Qp] at h6
       refine Qx (Qf (kp2 Z Z) (Qe fun K hK => Qh Z Z (ZC (ds0 := [5, 1]) Z Z Z Z Z (QU (ds0 := [1]) (X1 (by omega)) Z Z (.inl Z) Z Z (Qh Z Z (ZC (ds0 := [2, 0]) Z Z Z Z Z (QU (ds0 := [0]) (X1 (by omega)) Z Z (.inl Z) Z Z (Qb Z (Qb Z (hK _ _ (Qa (kp2 Z Z) ?_)))))))))))
       refine QH ?_ -- 4
       refine Qe fun K hK => Qb Z (hK _ _ (Qa (kp3 Z Z Z) ?_))
       refine QM ?_
       refine Z8 (ι := Nat) (fun i => ⟨[(6, .sl (YP (Q4 p 46))), (7, .sl (YP (Q4 p' 46))), (8, .int .i64 i)], []⟩) (fun i => i <= (Q4 p 46).length /\ i <= (Q4 p' 46).length /\ QcP a b c p q a' b' c' p' q' = QjO ((Q4 p 46).drop i) ((Q4 p' 46).drop i)) (fun i => (Q4 p 46).length - i) 0 ?_ ?_ ?_
       ·exact Zx (l := [6, 7, 8]) (kp3 rfl rfl rfl) QC rfl rfl rfl
       ·exact ⟨Nat.zero_le _, Nat.zero_le _, QnM (by assumption) (by assumption) (by assumption) (by assumption) (by assumption) (by assumption)⟩
       intro i hI
       have sl := QdF (s := p) (c := 46)
       try dsimp only
       refine QH ?_ -- 5
       refine Qe fun K hK => Qb Z (Qb Z (ZF Z Z (YH Z Z (Qb Z ?_))))
       refine Qv (g := 61) Z (fun h7 => ?_) (fun h7 => ?_)
       ·try rw [h7]
        try simp only [qB, Qp] at h7
        refine Qg Z (Qb Z (Qg Z (Qb Z (Qg Z (ZF Z Z (Qg Z (YH Z Z (Qi Z Z (hK _ _ (Qa (kp4 Z Z Z Z) ?_))))))))))
        refine QA Z (fun h8 => ?_) (fun h8 => ?_)
        ·try rw [h8]
         try simp only [qB, Qp] at h8
         refine Qx (Qf (kp3 Z Z Z) ?_)
         refine QH ?_ -- 6
         refine QM (Qe fun K hK => Qb Z (Qb Z (Q3 Z Z Z (by omega) (X4 (by omega)) Z (ZC (ds0 := [1, 0]) Z Z Z Z Z (Qb Z (Qb Z (Q3 Z Z Z (by omega) (X4 (by omega)) Z (ZC (ds0 := [1, 0]) Z Z Z Z Z (QU (ds0 := [0]) (QgA (X8 (by omega) hp) (X8 (by omega) hp')) Z Z (.inr Z) Z Z (Qb Z ?_))))))))))
         refine hK _ _ (Qa (kp4 Z Z Z Z) ?_)
         refine Qe fun K hK => Qb Z (Y4 Z Z (hK _ _ (Qa (kp5 Z Z Z Z Z) ?_)))
         refine QA Z (fun h9 => ?_) (fun h9 => ?_)
         ·try rw [h9]
          try simp only [qB, Qp] at h9
          refine Qe fun K hK => Qb Z (Qb Z (hK _ _ (Qa (kp1 Z) ?_)))
          refine Qq (Qw (Qk (Q8 (Qw (Qk (Qs Z ?_))))))
          first | (simp [QcP, h1, h2, h3, h4, h5, h6, h7, h8, h9]; done) | (exact (Qdh (by assumption) (by assumption) (by assumption)).symm) | (exact Qbd (by assumption) (by assumption) (by assumption)) | (exact (X2 (by assumption) (by assumption) (by assumption) (by assumption) (by assumption)).symm) | (exact (X3 (by assumption) (by assumption) (by assumption) (by assumption) (by assumption)).symm) | (rw [hI.2.2, Yu (by omega) (by omega) (by assumption)]) | (rw [hI.2.2, Yt (by omega) (by omega) (by omega)]; simp [Qp])
         ·try rw [h9]
          try simp only [qB, Qp] at h9
          refine Qx (Ql (Qf (kp3 Z Z Z) (Ze fun K hK => Qb Z (Zi Z Z (by first | exact Qu (by omega) (by omega) | exact QY (by omega) (by omega) | exact Zb (by omega) (by omega) | rfl) (Qb Z (hK _ ?_))))))
          refine Qo (i + 1) ?_ ?_ ?_
          ·exact Za (kp3 rfl rfl rfl)
          ·exact ⟨by omega, by omega, by rw [hI.2.2, Qh4 (by omega) (by omega) (by assumption)]⟩
          ·first | omega | (simp only; omega) | (dsimp only; omega)
        ·try rw [h8]
         try simp only [qB, Qp] at h8
         refine ZA (QR (QD (QK (Qf (kp2 Z Z) (Qe fun K hK => Qb Z (ZF Z Z (Qb Z (ZF Z Z (Qy (ZJ) Z Z (.inr Z) (Qb Z ?_))))))))))
         refine hK _ _ (Qa (kp1 Z) ?_)
         refine Qq (Qs Z ?_)
         first | (simp [QcP, h1, h2, h3, h4, h5, h6, h7, h8]; done) | (exact (Qdh (by assumption) (by assumption) (by assumption)).symm) | (exact Qbd (by assumption) (by assumption) (by assumption)) | (exact (X2 (by assumption) (by assumption) (by assumption) (by assumption) (by assumption)).symm) | (exact (X3 (by assumption) (by assumption) (by assumption) (by assumption) (by assumption)).symm) | (rw [hI.2.2, Yu (by omega) (by omega) (by assumption)]) | (rw [hI.2.2, Yt (by omega) (by omega) (by omega)]; simp [Qp])
       ·try rw [h7]
        try simp only [qB, Qp] at h7
        refine Qr Z (Qr Z (Qr Z (Qr Z (Qi Z Z (hK _ _ (Qa (kp4 Z Z Z Z) ?_))))))
        refine ZD Z (ZA (QR (QD (QK (Qf (kp2 Z Z) (Qe fun K hK => Qb Z (ZF Z Z (Qb Z (ZF Z Z (Qy (ZJ) Z Z (.inr Z) ?_))))))))))
        refine Qb Z (hK _ _ (Qa (kp1 Z) ?_))
        refine Qq (Qs Z ?_)
        first | (simp [QcP, h1, h2, h3, h4, h5, h6, h7]; done) | (exact (Qdh (by assumption) (by assumption) (by assumption)).symm) | (exact Qbd (by assumption) (by assumption) (by assumption)) | (exact (X2 (by assumption) (by assumption) (by assumption) (by assumption) (by assumption)).symm) | (exact (X3 (by assumption) (by assumption) (by assumption) (by assumption) (by assumption)).symm) | (rw [hI.2.2, Yu (by omega) (by omega) (by assumption)]) | (rw [hI.2.2, Yt (by omega) (by omega) (by omega)]; simp [Qp])
theorem QbH {e a b c : Int} {p q : List UInt8} {f : Bool} (hp : p.length <= 1000000) (hq : q.length <= 1000000) : Ok Tryd.prog 103 [.agg [.int .i64 e, .int .i64 a, .int .i64 b, .int .i64 c, .str p, .str q, .bool f]] (.bool (Y5 e a b c p q f)) := by
 refine Ok.ofT Z3 Tryd.func103 QpY (Nat.le_of_ble_eq_true Z) ?_
 show TW _ _ tf103.body _ _
 refine Qe fun K hK => ZI Z Z Z (Qb Z (hK _ _ (Qa (kp1 Z) ?_)))
 refine QH ?_ -- 0
 refine Qe fun K hK => Qh Z Z (QF Z Z Z (Yd Z Z (Qb Z ?_)))
 refine Qv (g := 6) Z (fun h1 => ?_) (fun h1 => ?_)
 ·try rw [h1]
  try simp only [qB] at h1
  refine Qr Z (Qr Z (Qr Z (Qi Z Z (hK _ _ (Qa (kp2 Z Z) ?_)))))
  refine Zj Z (Qe fun K hK => Qh Z Z (QE (cs := [_, _, _, _, _]) Z Z Z Z (QZ Z Z (Qhr Z Z Z (Qb Z ?_)))))
  refine Qv (g := 15) Z (fun h2 => ?_) (fun h2 => ?_)
  ·try rw [h2]
   try simp only [qB] at h2
   refine Qg Z (Qh Z Z (Qg Z (QF Z Z Z (Qg Z (ZM Z (Qi Z Z (Qb Z (hK _ _ (Qa (kp1 Z) ?_)))))))))
   refine Qq (Qk (Qm Z ?_))
   (repeat clear hK K); first | (simp_all [Y5]; done) | (simp_all [Y5]; omega)
  ·try rw [h2]
   try simp only [qB] at h2
   refine Qr Z (Qr Z (Qr Z (Qi Z Z (Qb Z (hK _ _ (Qa (kp1 Z) ?_))))))
   refine Qq (Qk (Qm Z ?_))
   (repeat clear hK K); first | (simp_all [Y5]; done) | (simp_all [Y5]; omega)
 ·try rw [h1]
  try simp only [qB] at h1
  refine Qg Z (Qh Z Z (Qg Z (QF Z Z Z (Qg Z (Yd Z Z (Qi Z Z (hK _ _ (Qa (kp2 Z Z) ?_))))))))
  refine QA Z (fun h3 => ?_) (fun h3 => ?_)
  ·try rw [h3]
   try simp only [qB] at h3
   refine Qe fun K hK => Qh Z Z (QE (cs := [_, _, _, _, _]) Z Z Z Z (QZ Z Z (Qhr Z Z Z (Qb Z ?_))))
   refine Qv (g := 15) Z (fun h4 => ?_) (fun h4 => ?_)
   ·try rw [h4]
    try simp only [qB] at h4
    refine Qg Z (Qh Z Z (Qg Z (QF Z Z Z (Qg Z (ZM Z (Qi Z Z (Qb Z (hK _ _ (Qa (kp1 Z) ?_)))))))))
    refine Qq (Qk (Qm Z ?_))
    (repeat clear hK K); first | (simp_all [Y5]; done) | (simp_all [Y5]; omega)
   ·try rw [h4]
    try simp only [qB] at h4
    refine Qr Z (Qr Z (Qr Z (Qi Z Z (Qb Z (hK _ _ (Qa (kp1 Z) ?_))))))
    refine Qq (Qk (Qm Z ?_))
    (repeat clear hK K); first | (simp_all [Y5]; done) | (simp_all [Y5]; omega)
  ·try rw [h3]
   try simp only [qB] at h3
   refine Qe fun K hK => Qh Z Z (QF Z Z Z (Y4 Z Z (hK _ _ (Qa (kp2 Z Z) ?_))))
   refine QA Z (fun h5 => ?_) (fun h5 => ?_)
   ·try rw [h5]
    try simp only [qB] at h5
    refine Qe fun K hK => Qb Z (hK _ _ (Qa (kp1 Z) ?_))
    refine Qq (Qk (Qm Z ?_))
    (repeat clear hK K); first | (simp_all [Y5]; done) | (simp_all [Y5]; omega)
   ·try rw [h5]
    try simp only [qB] at h5
    refine Qx (Qf (kp1 Z) (Qe fun K hK => Qh Z Z (QE (cs := [_, _, _, _, _]) Z Z Z Z (Qy (YO (by omega) (by omega)) Z Z (.inr Z) (Qb Z ?_)))))
    refine Qv (g := 26) Z (fun h6 => ?_) (fun h6 => ?_)
    ·try rw [h6]
     try simp only [qB] at h6
     refine Qg Z (Qh Z Z (Qg Z (Qh Z Z (Qg Z (QF Z Z Z (Qg Z (QbD Z Z (Qi Z Z (Qb Z (hK _ _ (Qa (kp1 Z) ?_)))))))))))
     refine Qq (Qm Z ?_)
     (repeat clear hK K); first | (simp_all [Y5]; done) | (simp_all [Y5]; omega)
    ·try rw [h6]
     try simp only [qB] at h6
     refine Qr Z (Qr Z (Qr Z (Qr Z (Qi Z Z (Qb Z (hK _ _ (Qa (kp1 Z) ?_)))))))
     refine Qq (Qm Z ?_)
     (repeat clear hK K); first | (simp_all [Y5]; done) | (simp_all [Y5]; omega)
theorem Qc7 {e a b c : Int} {p q : List UInt8} {f : Bool} (hp : p.length <= 1000000) (hq : q.length <= 1000000) {e' a' b' c' : Int} {p' q' : List UInt8} {f' : Bool} (hp' : p'.length <= 1000000) (hq' : q'.length <= 1000000) : Ok Tryd.prog 94 [.agg [.int .i64 e, .int .i64 a, .int .i64 b, .int .i64 c, .str p, .str q, .bool f], .agg [.int .i64 e', .int .i64 a', .int .i64 b', .int .i64 c', .str p', .str q', .bool f']] (.int .i64 (Yx e a b c p q f e' a' b' c' p' q' f')) := by
 refine Ok.ofT Z3 Tryd.func94 Qry (Nat.le_of_ble_eq_true Z) ?_
 show TW _ _ tf94.body _ _
 refine Qe fun K hK => ZI Z Z Z (ZI Z Z Z (Qb Z (hK _ _ (Qa (kp2 Z Z) ?_))))
 refine QH ?_ -- 0
 refine Qe fun K hK => QE (cs := [_, _, _, _, _, _, _]) Z Z Z Z (Qy (QbH (by omega) (by omega)) Z Z (.inr Z) (ZM Z (Qb Z ?_)))
 refine Qv (g := 9) Z (fun h1 => ?_) (fun h1 => ?_)
 ·try rw [h1]
  try simp only [qB] at h1
  refine Qr Z (Qr Z (Qr Z (Qi Z Z (hK _ _ (Qa (kp3 Z Z Z) ?_)))))
  refine Zj Z (Qe fun K hK => Qb Z (hK _ _ (Qa (kp1 Z) ?_)))
  refine Qq (Qk (Qs Z ?_))
  (repeat clear hK K); first | (simp [Yx, h1]; done) | exact (Qay (by assumption) (by assumption) (by first | (left; assumption) | (right; assumption))).symm | (simp_all [Yx]; done)
 ·try rw [h1]
  try simp only [qB] at h1
  refine Qg Z (QE (cs := [_, _, _, _, _, _, _]) Z Z Z Z (Qg Z (Qy (QbH (by omega) (by omega)) Z Z (.inr Z) (Qg Z (ZM Z (Qi Z Z (hK _ _ (Qa (kp3 Z Z Z) ?_))))))))
  refine QA Z (fun h2 => ?_) (fun h2 => ?_)
  ·try rw [h2]
   try simp only [qB] at h2
   refine Qe fun K hK => Qb Z (hK _ _ (Qa (kp1 Z) ?_))
   refine Qq (Qk (Qs Z ?_))
   (repeat clear hK K); first | (simp [Yx, h1, h2]; done) | exact (Qay (by assumption) (by assumption) (by first | (left; assumption) | (right; assumption))).symm | (simp_all [Yx]; done)
  ·try rw [h2]
   try simp only [qB] at h2
   refine Qe fun K hK => Qh Z Z (QF Z Z Z (Y4 Z Z (Qb Z ?_)))
   refine Qv (g := 17) Z (fun h3 => ?_) (fun h3 => ?_)
   ·try rw [h3]
    try simp only [qB] at h3
    refine Qr Z (Qr Z (Qr Z (Qi Z Z (hK _ _ (Qa (kp3 Z Z Z) ?_)))))
    refine Zj Z (Qe fun K hK => Qh Z Z (QF Z Z Z (Qh Z Z (QF Z Z Z (Qy (ZJ) Z Z (.inr Z) (Qb Z (hK _ _ (Qa (kp1 Z) ?_))))))))
    refine Qq (Qk (Qs Z ?_))
    (repeat clear hK K); first | (simp [Yx, h1, h2, h3]; done) | exact (Qay (by assumption) (by assumption) (by first | (left; assumption) | (right; assumption))).symm | (simp_all [Yx]; done)
   ·try rw [h3]
    try simp only [qB] at h3
    refine Qg Z (Qh Z Z (Qg Z (QF Z Z Z (Qg Z (Y4 Z Z (Qi Z Z (hK _ _ (Qa (kp3 Z Z Z) ?_))))))))
    refine QA Z (fun h4 => ?_) (fun h4 => ?_)
    ·try rw [h4]
     try simp only [qB] at h4
     refine Qe fun K hK => Qh Z Z (QF Z Z Z (Qh Z Z (QF Z Z Z (Qy (ZJ) Z Z (.inr Z) (Qb Z (hK _ _ (Qa (kp1 Z) ?_)))))))
     refine Qq (Qk (Qs Z ?_))
     (repeat clear hK K); first | (simp [Yx, h1, h2, h3, h4]; done) | exact (Qay (by assumption) (by assumption) (by first | (left; assumption) | (right; assumption))).symm | (simp_all [Yx]; done)
    ·try rw [h4]
     try simp only [qB] at h4
     refine Qe fun K hK => Qh Z Z (QE (cs := [_, _, _, _, _]) Z Z Z Z (Qh Z Z (QE (cs := [_, _, _, _, _]) Z Z Z Z (Qy (QaW (by omega) (by omega) (by omega) (by omega)) Z Z (.inr Z) (Qb Z (hK _ _ (Qa (kp3 Z Z Z) ?_)))))))
     refine Qe fun K hK => Qb Z (Y4 Z Z (hK _ _ (Qa (kp4 Z Z Z Z) ?_)))
     refine QA Z (fun h5 => ?_) (fun h5 => ?_)
     ·try rw [h5]
      try simp only [qB] at h5
      refine Qe fun K hK => Qb Z (Qb Z (hK _ _ (Qa (kp1 Z) ?_)))
      refine Qq (Qk (Qs Z ?_))
      (repeat clear hK K); first | (simp [Yx, h1, h2, h3, h4, h5]; done) | exact (Qay (by assumption) (by assumption) (by first | (left; assumption) | (right; assumption))).symm | (simp_all [Yx]; done)
     ·try rw [h5]
      try simp only [qB] at h5
      refine Qe fun K hK => Qh Z Z (QF Z Z Z (Qh Z Z (QF Z Z Z (QoA Z Z (hK _ _ (Qa (kp2 Z Z) ?_))))))
      refine QA Z (fun h6 => ?_) (fun h6 => ?_)
      ·try rw [h6]
       try simp only [qB] at h6
       refine Qe fun K hK => Qb Z (hK _ _ (Qa (kp1 Z) ?_))
       refine Qq (Qk (Qs Z ?_))
       (repeat clear hK K); first | (simp [Yx, h1, h2, h3, h4, h5, h6]; done) | exact (Qay (by assumption) (by assumption) (by first | (left; assumption) | (right; assumption))).symm | (simp_all [Yx]; done)
      ·try rw [h6]
       try simp only [qB] at h6
       refine Qe fun K hK => Qh Z Z (QF Z Z Z (hK _ _ (Qa (kp1 Z) ?_)))
       refine QA Z (fun h7 => ?_) (fun h7 => ?_)
       ·try rw [h7]
        try simp only [qB] at h7
        refine Qe fun K hK => Qb Z (hK _ _ (Qa (kp1 Z) ?_))
        refine Qq (Qk (Qs Z ?_))
        (repeat clear hK K); first | (simp [Yx, h1, h2, h3, h4, h5, h6, h7]; done) | exact (Qay (by assumption) (by assumption) (by first | (left; assumption) | (right; assumption))).symm | (simp_all [Yx]; done)
       ·try rw [h7]
        try simp only [qB] at h7
        refine Qx (Qf (QX) (Qe fun K hK => Qb Z (hK _ _ (Qa (kp1 Z) ?_))))
        refine Qq (Qs Z ?_)
        (repeat clear hK K); first | (simp [Yx, h1, h2, h3, h4, h5, h6, h7]; done) | exact (Qay (by assumption) (by assumption) (by first | (left; assumption) | (right; assumption))).symm | (simp_all [Yx]; done)
theorem QeS {e a b c : Int} {p q : List UInt8} {f : Bool} (hp : p.length <= 1000000) (hq : q.length <= 1000000) {a' b' c' : Int} {p' q' : List UInt8} (hp' : p'.length <= 1000000) (hq' : q'.length <= 1000000) : Ok Tryd.prog 98 [.agg [.int .i64 e, .int .i64 a, .int .i64 b, .int .i64 c, .str p, .str q, .bool f], .agg [.int .i64 a', .int .i64 b', .int .i64 c', .str p', .str q']] (.bool (Yh e a b c p q f a' b' c' p' q')) := by
 refine Ok.ofT Z3 Tryd.func98 QrC (Nat.le_of_ble_eq_true Z) ?_
 show TW _ _ tf98.body _ _
 refine Qe fun K hK => ZI Z Z Z (ZI Z Z Z (Qb Z (hK _ _ (Qa (kp2 Z Z) ?_))))
 refine QH ?_ -- 0
 refine Qe fun K hK => QE (cs := [_, _, _, _, _, _, _]) Z Z Z Z (Qy (QbH (by omega) (by omega)) Z Z (.inr Z) (ZM Z (Qb Z ?_)))
 refine Qv (g := 9) Z (fun h1 => ?_) (fun h1 => ?_)
 ·try rw [h1]
  try simp only [qB] at h1
  refine Qr Z (Qr Z (Qr Z (Qi Z Z (hK _ _ (Qa (kp3 Z Z Z) ?_)))))
  refine Zj Z (Qe fun K hK => Qb Z (hK _ _ (Qa (kp1 Z) ?_)))
  refine Qq (Qk (Qm Z ?_))
  (repeat clear hK K); first | (simp [Yh, h1]; done) | (simp_all [Yh]; done)
 ·try rw [h1]
  try simp only [qB] at h1
  refine Qg Z (QE (cs := [_, _, _, _, _]) Z Z Z Z (Qg Z (Qy (YO (by omega) (by omega)) Z Z (.inr Z) (Qg Z (ZM Z (Qi Z Z (hK _ _ (Qa (kp3 Z Z Z) ?_))))))))
  refine QA Z (fun h2 => ?_) (fun h2 => ?_)
  ·try rw [h2]
   try simp only [qB] at h2
   refine Qe fun K hK => Qb Z (hK _ _ (Qa (kp1 Z) ?_))
   refine Qq (Qk (Qm Z ?_))
   (repeat clear hK K); first | (simp [Yh, h1, h2]; done) | (simp_all [Yh]; done)
  ·try rw [h2]
   try simp only [qB] at h2
   refine Qe fun K hK => Qh Z Z (QF Z Z Z (Y4 Z Z (hK _ _ (Qa (kp3 Z Z Z) ?_))))
   refine QA Z (fun h3 => ?_) (fun h3 => ?_)
   ·try rw [h3]
    try simp only [qB] at h3
    refine Qe fun K hK => Qh Z Z (QF Z Z Z (YH Z Z (Qb Z (hK _ _ (Qa (kp1 Z) ?_)))))
    refine Qq (Qk (Qm Z ?_))
    (repeat clear hK K); first | (simp [Yh, h1, h2, h3]; done) | (simp_all [Yh]; done)
   ·try rw [h3]
    try simp only [qB] at h3
    refine Qx (Qf (kp2 Z Z) (Qe fun K hK => Qh Z Z (QE (cs := [_, _, _, _, _]) Z Z Z Z (QE (cs := [_, _, _, _, _]) Z Z Z Z (Qy (QaW (by omega) (by omega) (by omega) (by omega)) Z Z (.inr Z) (Qb Z (hK _ _ (Qa (kp2 Z Z) ?_))))))))
    refine Qe fun K hK => Qb Z (YH Z Z (Qb Z ?_))
    refine Qv (g := 26) Z (fun h4 => ?_) (fun h4 => ?_)
    ·try rw [h4]
     try simp only [qB] at h4
     refine Qr Z (Qr Z (Qr Z (QI Z (QI Z (QI Z (Qr Z (Qi Z Z (Qb Z (hK _ _ (Qa (kp1 Z) ?_))))))))))
     refine Qq (Qm Z ?_)
     (repeat clear hK K); first | (simp [Yh, h1, h2, h3, h4]; done) | (simp_all [Yh]; done)
    ·try rw [h4]
     try simp only [qB] at h4
     refine Qg Z (Qb Z (Qg Z (Yd Z Z (Qg Z (Qb Z ?_)))))
     refine Qv (g := 29) Z (fun h5 => ?_) (fun h5 => ?_)
     ·try rw [h5]
      try simp only [qB] at h5
      refine Qg Z (Qh Z Z (Qg Z (QF Z Z Z (Qg Z (ZM Z (Qg Z (Qi Z Z (Qi Z Z (Qb Z (hK _ _ (Qa (kp1 Z) ?_)))))))))))
      refine Qq (Qm Z ?_)
      (repeat clear hK K); first | (simp [Yh, h1, h2, h3, h4, h5]; done) | (simp_all [Yh]; done)
     ·try rw [h5]
      try simp only [qB] at h5
      refine Qr Z (Qr Z (Qr Z (Qg Z (Qi Z Z (Qi Z Z (Qb Z (hK _ _ (Qa (kp1 Z) ?_))))))))
      refine Qq (Qm Z ?_)
      (repeat clear hK K); first | (simp [Yh, h1, h2, h3, h4, h5]; done) | (simp_all [Yh]; done)
theorem Qc8 {e a b c : Int} {p q : List UInt8} {f : Bool} (hp : p.length <= 1000000) (hq : q.length <= 1000000) {e' a' b' c' : Int} {p' q' : List UInt8} {f' : Bool} (hp' : p'.length <= 1000000) (hq' : q'.length <= 1000000) : Ok Tryd.prog 93 [.agg [.int .i64 e, .int .i64 a, .int .i64 b, .int .i64 c, .str p, .str q, .bool f, .int .i64 e', .int .i64 a', .int .i64 b', .int .i64 c', .str p', .str q', .bool f']] (.bool (QbW e a b c p q f e' a' b' c' p' q' f')) := by
 refine Ok.ofT Z3 Tryd.func93 Qrx (Nat.le_of_ble_eq_true Z) ?_
 show TW _ _ tf93.body _ _
 refine Qe fun K hK => ZI Z Z Z (Qb Z (hK _ _ (Qa (kp1 Z) ?_)))
 refine Qe fun K hK => Qh Z Z (QE (cs := [_, _, _, _, _, _, _]) Z Z Z Z (Qy (QbH (by omega) (by omega)) Z Z (.inr Z) (Qb Z ?_)))
 refine Qv (g := 6) Z (fun h1 => ?_) (fun h1 => ?_)
 ·try rw [h1]
  try simp only [qB] at h1
  refine Qg Z (Qh Z Z (Qg Z (QE (cs := [_, _, _, _, _, _, _]) Z Z Z Z (Qg Z (Qy (QbH (by omega) (by omega)) Z Z (.inr Z) (Qi Z Z (Qb Z ?_)))))))
  refine Qv (g := 11) Z (fun h2 => ?_) (fun h2 => ?_)
  ·try rw [h2]
   try simp only [qB] at h2
   refine Qg Z (Qh Z Z (Qg Z (QE (cs := [_, _, _, _, _, _, _]) Z Z Z Z (Qg Z (Qh Z Z (Qg Z (QE (cs := [_, _, _, _, _, _, _]) Z Z Z Z (Qg Z (Qy (Qc7 (by omega) (by omega) (by omega) (by omega)) Z Z (.inr Z) (Qg Z (YH Z Z ?_)))))))))))
   refine Qi Z Z (Qb Z (hK _ _ (Qa (kp1 Z) ?_)))
   refine Qq (Qm Z ?_)
   (repeat clear hK K); first | (simp [QbW, h1, h2]; done) | (simp_all [QbW]; done)
  ·try rw [h2]
   try simp only [qB] at h2
   refine Qr Z (Qr Z (Qr Z (Qr Z (Qr Z (Qr Z (Qi Z Z (Qb Z (hK _ _ (Qa (kp1 Z) ?_)))))))))
   refine Qq (Qm Z ?_)
   (repeat clear hK K); first | (simp [QbW, h1, h2]; done) | (simp_all [QbW]; done)
 ·try rw [h1]
  try simp only [qB] at h1
  refine Qr Z (Qr Z (Qr Z (Qi Z Z (Qb Z (Qr Z (Qr Z (Qr Z (Qr Z (Qr Z (Qr Z (Qi Z Z ?_)))))))))))
  refine Qb Z (hK _ _ (Qa (kp1 Z) ?_))
  refine Qq (Qm Z ?_)
  (repeat clear hK K); first | (simp [QbW, h1]; done) | (simp_all [QbW]; done)
theorem QiC {e a b c : Int} {p q : List UInt8} {f : Bool} (hp : p.length <= 1000000) (hq : q.length <= 1000000) {e' a' b' c' : Int} {p' q' : List UInt8} {f' : Bool} (hp' : p'.length <= 1000000) (hq' : q'.length <= 1000000) {x y z : Int} {r s : List UInt8} (hr : r.length <= 1000000) (hs : s.length <= 1000000) : Ok Tryd.prog 82 [.agg [.int .i64 e, .int .i64 a, .int .i64 b, .int .i64 c, .str p, .str q, .bool f, .int .i64 e', .int .i64 a', .int .i64 b', .int .i64 c', .str p', .str q', .bool f'], .agg [.int .i64 x, .int .i64 y, .int .i64 z, .str r, .str s]] (.bool (Xq e a b c p q f e' a' b' c' p' q' f' x y z r s)) := by
 refine Ok.ofT Z3 Tryd.func82 Qrm (Nat.le_of_ble_eq_true Z) ?_
 show TW _ _ tf82.body _ _
 refine Qe fun K hK => ZI Z Z Z (ZI Z Z Z (Qb Z (hK _ _ (Qa (kp2 Z Z) ?_))))
 refine Qe fun K hK => QE (cs := [_, _, _, _, _, _, _, _, _, _, _, _, _, _]) Z Z Z Z (Qy (Qc8 (by omega) (by omega) (by omega) (by omega)) Z Z (.inr Z) (Qb Z ?_))
 refine Qv (g := 7) Z (fun h1 => ?_) (fun h1 => ?_)
 ·try rw [h1]
  try simp only [qB] at h1
  refine Qg Z (QE (cs := [_, _, _, _, _]) Z Z Z Z (Qg Z (Qy (YO (by omega) (by omega)) Z Z (.inr Z) (Qi Z Z (Qb Z ?_)))))
  refine Qv (g := 11) Z (fun h2 => ?_) (fun h2 => ?_)
  ·try rw [h2]
   try simp only [qB] at h2
   refine Qg Z (Qh Z Z (Qg Z (QE (cs := [_, _, _, _, _, _, _]) Z Z Z Z (Qg Z (QE (cs := [_, _, _, _, _]) Z Z Z Z (Qg Z (Qy (QeS (by omega) (by omega) (by omega) (by omega)) Z Z (.inr Z) (Qi Z Z (Qb Z ?_)))))))))
   refine Qv (g := 17) Z (fun h3 => ?_) (fun h3 => ?_)
   ·try rw [h3]
    try simp only [qB] at h3
    refine Qg Z (Qh Z Z (Qg Z (QE (cs := [_, _, _, _, _, _, _]) Z Z Z Z (Qg Z (QE (cs := [_, _, _, _, _]) Z Z Z Z (Qg Z (Qy (QeS (by omega) (by omega) (by omega) (by omega)) Z Z (.inr Z) (Qg Z (ZM Z (Qi Z Z (Qb Z ?_)))))))))))
    refine hK _ _ (Qa (kp1 Z) ?_)
    refine Qq (Qm Z ?_)
    (repeat clear hK K); first | (simp [Xq, h1, h2, h3]; done) | (simp_all [Xq]; done)
   ·try rw [h3]
    try simp only [qB] at h3
    refine Qr Z (Qr Z (Qr Z (Qr Z (Qr Z (Qi Z Z (Qb Z (hK _ _ (Qa (kp1 Z) ?_))))))))
    refine Qq (Qm Z ?_)
    (repeat clear hK K); first | (simp [Xq, h1, h2, h3]; done) | (simp_all [Xq]; done)
  ·try rw [h2]
   try simp only [qB] at h2
   refine Qr Z (Qr Z (Qr Z (Qr Z (Qi Z Z (Qb Z (Qr Z (Qr Z (Qr Z (Qr Z (Qr Z (Qi Z Z ?_)))))))))))
   refine Qb Z (hK _ _ (Qa (kp1 Z) ?_))
   refine Qq (Qm Z ?_)
   (repeat clear hK K); first | (simp [Xq, h1, h2]; done) | (simp_all [Xq]; done)
 ·try rw [h1]
  try simp only [qB] at h1
  refine Qr Z (Qr Z (Qi Z Z (Qb Z (Qr Z (Qr Z (Qr Z (Qr Z (Qi Z Z (Qb Z (Qr Z (Qr Z ?_)))))))))))
  refine Qr Z (Qr Z (Qr Z (Qi Z Z (Qb Z (hK _ _ (Qa (kp1 Z) ?_))))))
  refine Qq (Qm Z ?_)
  (repeat clear hK K); first | (simp [Xq, h1]; done) | (simp_all [Xq]; done)
end Go.Proofs
namespace M3
open Go Go.Abs
end M3
namespace M3
open Go Go.Abs
end M3
namespace M3
open Go Go.Abs
end M3
namespace M25
open Go Go.Abs M3
def Qd8 (a b c : Int) : Bool := decide (a = 0) && decide (b = 0) && decide (c = 0)
def X5 (a b c : Int) (p q : List UInt8) (part : Int) : Option (Int × Int × Int) :=
 if Qbp a b c p q = false \/ part < 0 \/ 2 < part then none
 else
  let o := if part = 0 then (a + 1, 0, 0) else if part = 1 then (a, b + 1, 0) else (a, b, c + 1)
  if Qbp o.1 o.2.1 o.2.2 [] [] = true then some o else none
def dOV (o : Option (Int × Int × Int)) : D := .tup [.agg [.int .i64 (o.getD (0, 0, 0)).1, .int .i64 (o.getD (0, 0, 0)).2.1, .int .i64 (o.getD (0, 0, 0)).2.2, .str [], .str []], .bool o.isSome]
def XI (a b c : Int) (p q : List UInt8) : Nat -> Option (Int × Int × Int)
 | 0 => none
 | n + 1 => if (X5 a b c p q n).isSome = true then X5 a b c p q n else XI a b c p q n
def Qh1 (a b c : Int) (p q : List UInt8) : Option (Int × Int × Int) :=
 if Qbp a b c p q = false then none else if p ≠ [] then some (a, b, c) else XI a b c p q 3
theorem Qch {a b c : Int} {p q : List UInt8} (h : Qbp a b c p q = true) : (0 <= a /\ a <= 9999) /\ (0 <= b /\ b <= 9999) /\ (0 <= c /\ c <= 9999) := by
 simp only [Qbp, QfM, Bool.and_eq_true, decide_eq_true_eq] at h
 omega
theorem QiB {a b c : Int} {p q : List UInt8} {m : Nat} (hm : 0 < m) (h : (X5 a b c p q ((m : Int) - 1)).isSome = false) : XI a b c p q m = XI a b c p q (m - 1) := by
 obtain ⟨n, rfl⟩ : ∃ n, m = n + 1 := ⟨m - 1, by omega⟩
 rw [show ((n + 1 : Nat) : Int) - 1 = (n : Int) by omega] at h
 rw [XI, if_neg (by rw [h]; simp)]; rfl
theorem Qhz {a b c : Int} {p q : List UInt8} {m : Nat} (hm : 0 < m) (h : (X5 a b c p q ((m : Int) - 1)).isSome = true) : XI a b c p q m = X5 a b c p q ((m : Int) - 1) := by
 obtain ⟨n, rfl⟩ : ∃ n, m = n + 1 := ⟨m - 1, by omega⟩
 rw [show ((n + 1 : Nat) : Int) - 1 = (n : Int) by omega] at h ⊢
 rw [XI, if_pos h]
def dCu (x : Cu) : List D := [.int .i64 x.e, .int .i64 x.a, .int .i64 x.b, .int .i64 x.c, .str x.p, .str x.q, .bool x.f]
def Qef (s : Cu × Cu) : List D := dCu s.1 ++ dCu s.2
def Q5 (l : List (Cu × Cu)) : D := .sl (l.map Qef)
def Qdi (s : List (Cu × Cu) × List (Cu × Cu)) : D := .agg [Q5 s.1, Q5 s.2]
def QcB : Cu := ⟨-1, 0, 0, 0, [], [], false⟩
def QfL : Cu := ⟨1, 0, 0, 0, [], [], false⟩
def Qfj (a b c : Int) : Cu := if Qd8 a b c = true then QcB else ⟨0, a, b, c, [], [], false⟩
def Qdt (a b c : Int) : Cu := match Qh1 a b c [] [] with
 | none => QfL
 | some o => ⟨0, o.1, o.2.1, o.2.2, [], [], false⟩
def YL (a b c : Int) (p q : List UInt8) : List (Cu × Cu) × List (Cu × Cu) :=
 if Qbp a b c p q = false then ([], []) else if p ≠ [] then ([], [(⟨0, a, b, c, p, [], false⟩, ⟨0, a, b, c, p, [], true⟩)]) else ([(Qfj a b c, Qdt a b c)], [])
def Qd9 (e a b c : Int) (p q : List UInt8) (f : Bool) : Bool := !decide (e = 0) || (!f && decide (p = []) && !Qd8 a b c)
def Cu.sm (x : Cu) : Prop := x.p.length <= 1000000 /\ x.q.length <= 1000000
def Sm (l : List (Cu × Cu)) : Prop := l.length <= 1000000 /\ ∀ s ∈ l, Cu.sm s.1 /\ Cu.sm s.2
theorem Sm.at {l : List (Cu × Cu)} (h : Sm l) {i : Nat} (hi : i < l.length) : (l[i].1.p.length <= 1000000 /\ l[i].1.q.length <= 1000000) /\ (l[i].2.p.length <= 1000000 /\ l[i].2.q.length <= 1000000) := h.2 _ (List.getElem_mem hi)
def QcG (s : Cu × Cu) : Bool := QbW s.1.e s.1.a s.1.b s.1.c s.1.p s.1.q s.1.f s.2.e s.2.a s.2.b s.2.c s.2.p s.2.q s.2.f
def Qbo (x y : Cu) : Int := Yx x.e x.a x.b x.c x.p x.q x.f y.e y.a y.b y.c y.p y.q y.f
def Qn2 (l : List (Cu × Cu)) (i : Nat) : Bool := match l[i]? with
 | none => true
 | some s => QcG s && (decide (i = 0) || match l[i - 1]? with | none => true | some r => decide (Qbo r.2 s.1 < 0))
theorem QiU {l : List (Cu × Cu)} {i : Nat} (h : i < l.length) : Qn2 l i = (QcG l[i] && (decide (i = 0) || decide (Qbo (l[i - 1]'(by omega)).2 l[i].1 < 0))) := by
 unfold Qn2
 rw [List.getElem?_eq_getElem h, List.getElem?_eq_getElem (show i - 1 < l.length by omega)]
theorem QjS {l : List (Cu × Cu)} {i : Nat} (h : i < l.length) (h1 : QcG l[i] = true) (h2 : i = 0 \/ Qbo (l[i - 1]'(by omega)).2 l[i].1 < 0) : Qn2 l i = true := by
 rw [QiU h, h1]; simpa using h2
theorem Qby {l : List (Cu × Cu)} {i : Nat} (h : i < l.length) (h1 : QcG l[i] = false \/ (i ≠ 0 /\ 0 <= Qbo (l[i - 1]'(by omega)).2 l[i].1)) : Qn2 l i = false := by
 rw [QiU h]
 rcases h1 with h1 | ⟨h1, h2⟩
 ·rw [h1]; rfl
 ·simp only [Bool.and_eq_false_iff, Bool.or_eq_false_iff, decide_eq_false_iff_not]
  exact .inr ⟨h1, by omega⟩
def QbA (l : List (Cu × Cu)) : Bool := (List.range l.length).all (Qn2 l)
theorem Xa {n i : Nat} {p : Nat -> Bool} (h : i < n) (hp : p i = false) : (List.range n).all p = false := by
 rw [Bool.eq_false_iff]; intro ha
 rw [List.all_eq_true] at ha
 rw [ha i (List.mem_range.2 h)] at hp; cases hp
theorem QeD {i : Nat} {p : Nat -> Bool} (h : (List.range i).all p = true) (hp : p i = true) : (List.range (i + 1)).all p = true := by
 rw [List.range_succ, List.all_append, h]; simp [hp]
theorem Qcj {i : Nat} {p : Nat -> Bool} {n : Nat} (h : (List.range i).all p = true) (hn : n <= i) : (List.range n).all p = true := by
 rw [List.all_eq_true] at h ⊢
 exact fun x hx => h x (List.mem_range.2 (Nat.lt_of_lt_of_le (List.mem_range.1 hx) hn))
def Qfl (s : Cu × Cu) (a b c : Int) (p q : List UInt8) : Bool := Xq s.1.e s.1.a s.1.b s.1.c s.1.p s.1.q s.1.f s.2.e s.2.a s.2.b s.2.c s.2.p s.2.q s.2.f a b c p q
def QfN (l : List (Cu × Cu)) (a b c : Int) (p q : List UInt8) : Bool := QbA l && l.any fun s => Qfl s a b c p q
theorem Qcc {l : List (Cu × Cu)} {a b c : Int} {p q : List UInt8} {i : Nat} (hi : l.length <= i) (h : (l.take i).any (fun s => Qfl s a b c p q) = false) : QfN l a b c p q = false := by
 rw [List.take_of_length_le hi] at h; rw [QfN, h, Bool.and_false]
theorem Qcd {l : List (Cu × Cu)} {a b c : Int} {p q : List UInt8} (h : QbA l = false) : QfN l a b c p q = false := by rw [QfN, h]; rfl
theorem Qce {l : List (Cu × Cu)} {a b c : Int} {p q : List UInt8} {i : Nat} (h : QbA l = true) (hi : i < l.length) (hp : Qfl l[i] a b c p q = true) : QfN l a b c p q = true := by
 rw [QfN, h, Bool.true_and]; exact List.any_eq_true.2 ⟨_, List.getElem_mem hi, hp⟩
def inC (x y : Cu) (s : Cu × Cu) : Bool := decide (Qbo s.1 x <= 0) && decide (Qbo y s.2 <= 0)
theorem QoY {x y : Cu} {s : Cu × Cu} (h1 : Qbo s.1 x <= 0) (h2 : Qbo y s.2 <= 0) : inC x y s = true := by simp [inC, h1, h2]
theorem QoX {x y : Cu} {s : Cu × Cu} (h : ¬ Qbo s.1 x <= 0 \/ ¬ Qbo y s.2 <= 0) : inC x y s = false := by
 simp only [inC, Bool.and_eq_false_iff, decide_eq_false_iff_not]; exact h
def mIn (l : List (Cu × Cu)) (x y : Cu) : Bool := l.any (inC x y)
theorem QkE {α : Type} {s : List α} {p : α -> Bool} {i : Nat} (h : i < s.length) (hp : p s[i] = true) : s.any p = true := List.any_eq_true.2 ⟨_, List.getElem_mem h, hp⟩
theorem QmU {α : Type} {s : List α} {p : α -> Bool} {i : Nat} (hi : s.length <= i) (h : (s.take i).any p = false) : s.any p = false := by rwa [List.take_of_length_le hi] at h
theorem Qjl {α : Type} {s : List α} {p : α -> Bool} {i : Nat} (h : i < s.length) (ha : (s.take i).any p = false) (hp : p s[i] = false) : (s.take (i + 1)).any p = false := by
 rw [List.take_succ_eq_append_getElem h, List.any_append, ha]; simp [hp]
def Xi (x : Cu) : Bool := Qd9 x.e x.a x.b x.c x.p x.q x.f
def QcQ (s : List (Cu × Cu) × List (Cu × Cu)) : Bool := QbA s.1 && QbA s.2 && s.1.all fun x => Xi x.1 && Xi x.2
def Qfk (s : List (Cu × Cu) × List (Cu × Cu)) (a b c : Int) (p q : List UInt8) : Bool :=
 QcQ s && Qbp a b c p q && (if p = [] then QfN s.1 a b c p q else QfN s.2 a b c p q)
theorem QaO {s : List (Cu × Cu) × List (Cu × Cu)} (h : QbA s.1 = false \/ QbA s.2 = false) : QcQ s = false := by
 rw [QcQ]; rcases h with h | h <;> simp [h]
theorem Qal {s : List (Cu × Cu) × List (Cu × Cu)} {i : Nat} (hi : i < s.1.length) (h : Xi s.1[i].1 = false \/ Xi s.1[i].2 = false) : QcQ s = false := by
 have : (s.1.all fun x => Xi x.1 && Xi x.2) = false := Yl hi (by rcases h with h | h <;> simp [h])
 rw [QcQ, this, Bool.and_false]
theorem Qdx {s : List (Cu × Cu) × List (Cu × Cu)} {i : Nat} (h1 : QbA s.1 = true) (h2 : QbA s.2 = true) (hi : s.1.length <= i) (h : (s.1.take i).all (fun x => Xi x.1 && Xi x.2) = true) : QcQ s = true := by
 rw [List.take_of_length_le hi] at h
 rw [QcQ, h1, h2, h]; rfl
def QgB (l : List Cu) : D := .sl (l.map dCu)
theorem Qie {l : List Cu} : ∀ r ∈ l.map dCu, r.length = 7 := fun r hr => by obtain ⟨x, _, rfl⟩ := List.mem_map.1 hr; rfl
theorem QmI {l : List Cu} {a b : Nat} : ∀ r ∈ ((l.map dCu).take a).drop b, r.length = 7 := fun r hr => Qie r (List.mem_of_mem_take (List.mem_of_mem_drop hr))
def QbV : List Cu -> Cu -> List Cu
 | [], c => [c]
 | x :: r, c => if Qbo x c < 0 then x :: QbV r c else if Qbo x c = 0 then x :: r else c :: x :: r
theorem Qlp {l : List Cu} {c : Cu} {k : Nat} (hk : k < l.length) (h : Qbo l[k] c < 0) (hi : QbV l c = l.take k ++ QbV (l.drop k) c) : QbV l c = l.take (k + 1) ++ QbV (l.drop (k + 1)) c := by
 rw [hi, List.drop_eq_getElem_cons hk, QbV, if_pos h, List.take_succ_eq_append_getElem hk, List.append_assoc]; rfl
theorem Qlo {l : List Cu} {c : Cu} {k : Nat} (hk : k < l.length) (h : Qbo l[k] c = 0) (hi : QbV l c = l.take k ++ QbV (l.drop k) c) : QbV l c = l := by
 rw [hi, List.drop_eq_getElem_cons hk, QbV, if_neg (by omega), if_pos h, <- List.drop_eq_getElem_cons hk, List.take_append_drop]
theorem QjN {l : List Cu} {c : Cu} {k : Nat} (h : l.length <= k \/ ∃ hk : k < l.length, ¬ Qbo l[k] c < 0 /\ Qbo l[k] c ≠ 0) (hi : QbV l c = l.take k ++ QbV (l.drop k) c) : QbV l c = l.take k ++ c :: l.drop k := by
 rw [hi]
 rcases h with h | ⟨hk, h1, h2⟩
 ·rw [List.drop_eq_nil_of_le h, QbV]
 ·rw [List.drop_eq_getElem_cons hk, QbV, if_neg h1, if_neg h2]
theorem Qew : ∀ (l : List Cu) (c : Cu), (QbV l c).length <= l.length + 1
 | [], c => by simp [QbV]
 | x :: r, c => by
  have := Qew r c
  simp only [QbV]
  (repeat' split) <;> simp <;> omega
theorem QgW : ∀ {l : List Cu} {c : Cu}, (∀ x ∈ l, Cu.sm x) -> Cu.sm c -> ∀ x ∈ QbV l c, Cu.sm x
 | [], c, _, hc, x, hx => by simp [QbV] at hx; exact hx ▸ hc
 | y :: r, c, hl, hc, x, hx => by
  simp only [QbV] at hx
  split at hx
  ·rcases List.mem_cons.1 hx with rfl | hx
   ·exact hl _ (by simp)
   ·exact QgW (fun z hz => hl z (by simp [hz])) hc x hx
  ·split at hx
   ·exact hl x hx
   ·rcases List.mem_cons.1 hx with rfl | hx
    ·exact hc
    ·exact hl x hx
def YU (l : List (Cu × Cu)) : List Cu := l.foldl (fun out s => QbV (QbV out s.1) s.2) [QcB, QfL]
theorem Qmu {l : List (Cu × Cu)} {i : Nat} (h : i < l.length) : YU (l.take (i + 1)) = QbV (QbV (YU (l.take i)) l[i].1) l[i].2 := by
 rw [List.take_succ_eq_append_getElem h, YU, List.foldl_append]; rfl
theorem Qgf : ∀ (l : List (Cu × Cu)) (out : List Cu), (l.foldl (fun out s => QbV (QbV out s.1) s.2) out).length <= out.length + 2 * l.length
 | [], out => by simp
 | s :: l, out => by
  have h1 := Qew out s.1
  have h2 := Qew (QbV out s.1) s.2
  have := Qgf l (QbV (QbV out s.1) s.2)
  simp only [List.foldl_cons, List.length_cons]; omega
theorem QbS (l : List (Cu × Cu)) : (YU l).length <= 2 + 2 * l.length := Qgf l _
theorem QhY : ∀ {l : List (Cu × Cu)} {out : List Cu}, (∀ s ∈ l, Cu.sm s.1 /\ Cu.sm s.2) -> (∀ x ∈ out, Cu.sm x) -> ∀ x ∈ l.foldl (fun out s => QbV (QbV out s.1) s.2) out, Cu.sm x
 | [], _, _, h => h
 | s :: l, out, hl, h => by
  rw [List.foldl_cons]
  exact QhY (fun t ht => hl t (by simp [ht])) (QgW (QgW h (hl s (by simp)).1) (hl s (by simp)).2)
theorem QjL {l : List (Cu × Cu)} (hl : ∀ s ∈ l, Cu.sm s.1 /\ Cu.sm s.2) : ∀ x ∈ YU l, Cu.sm x := QhY hl (by
 intro x hx
 simp only [List.mem_cons, List.not_mem_nil, or_false] at hx
 rcases hx with rfl | rfl <;> exact ⟨Nat.zero_le _, Nat.zero_le _⟩)
theorem Qet {l : List (Cu × Cu)} (hl : Sm l) (i : Nat) : (YU (l.take i)).length <= 2000002 /\ ∀ x ∈ YU (l.take i), Cu.sm x := by
 refine ⟨?_, QjL fun s hs => hl.2 s (List.mem_of_mem_take hs)⟩
 have := QbS (l.take i)
 have h2 : (l.take i).length <= l.length := List.length_take_le' ..
 have := hl.1
 omega
def QbU (l : List (Cu × Cu)) (x y : Cu) : List (Cu × Cu) := match l.getLast? with
 | some s => if Qbo s.2 x = 0 then l.dropLast ++ [(s.1, y)] else l ++ [(x, y)]
 | none => l ++ [(x, y)]
theorem QhZ {l : List (Cu × Cu)} {x y : Cu} {i : Nat} (hi : i + 1 = l.length) (h : Qbo (l[i]'(by omega)).2 x = 0) : QbU l x y = l.set i ((l[i]'(by omega)).1, y) := by
 have hg : l.getLast? = some (l[i]'(by omega)) := by
  rw [List.getLast?_eq_getElem?, show l.length - 1 = i by omega, List.getElem?_eq_getElem]
 rw [QbU, hg]
 simp only [h, if_true]
 rw [List.dropLast_eq_take, show l.length - 1 = i by omega, List.set_eq_take_append_cons_drop, if_pos (by omega), List.drop_eq_nil_of_le (by omega)]
theorem Qdv {l : List (Cu × Cu)} {x y : Cu} (h : l = [] \/ ∃ i, ∃ hi : i + 1 = l.length, Qbo (l[i]'(by omega)).2 x ≠ 0) : QbU l x y = l ++ [(x, y)] := by
 rcases h with rfl | ⟨i, hi, h⟩
 ·rfl
 ·have hg : l.getLast? = some (l[i]'(by omega)) := by
   rw [List.getLast?_eq_getElem?, show l.length - 1 = i by omega, List.getElem?_eq_getElem]
  rw [QbU, hg]
  simp only [if_neg h]
theorem Qh0 (l : List (Cu × Cu)) (x y : Cu) : (QbU l x y).length <= l.length + 1 := by
 unfold QbU
 split
 ·split
  ·simp
  ·simp
 ·simp
theorem QjM {l : List (Cu × Cu)} {x y : Cu} (hl : ∀ s ∈ l, Cu.sm s.1 /\ Cu.sm s.2) (hx : Cu.sm x) (hy : Cu.sm y) : ∀ s ∈ QbU l x y, Cu.sm s.1 /\ Cu.sm s.2 := by
 intro s hs
 unfold QbU at hs
 split at hs
 ·rename_i t ht
  have ht' := List.mem_of_getLast? ht
  split at hs
  ·rcases List.mem_append.1 hs with hs | hs
   ·exact hl s (List.dropLast_subset _ hs)
   ·simp at hs; subst hs; exact ⟨(hl t ht').1, hy⟩
  ·rcases List.mem_append.1 hs with hs | hs
   ·exact hl s hs
   ·simp at hs; subst hs; exact ⟨hx, hy⟩
 ·rcases List.mem_append.1 hs with hs | hs
  ·exact hl s hs
  ·simp at hs; subst hs; exact ⟨hx, hy⟩
theorem QjE {α β : Type} {l : List α} {f : α -> β} {i : Nat} (h : i + 1 < l.length) : (l.map f)[((i : Int) + 1).toNat]? = some (f l[i + 1]) := by
 rw [show ((i : Int) + 1).toNat = i + 1 by omega, List.getElem?_map, List.getElem?_eq_getElem h]; rfl
def QbT (f : Cu -> Cu -> Bool) : List Cu -> List (Cu × Cu) -> List (Cu × Cu)
 | x :: y :: r, out => QbT f (y :: r) (if f x y = true then QbU out x y else out)
 | _, out => out
def QiS (l : List (Cu × Cu)) : List (Cu × Cu) := if l.all QcG = true then QbT (mIn l) (YU l) [] else []
theorem Qgg {f : Cu -> Cu -> Bool} {c : List Cu} {out : List (Cu × Cu)} {i : Nat} (h : i + 1 < c.length) : QbT f (c.drop i) out = QbT f (c.drop (i + 1)) (if f c[i] c[i + 1] = true then QbU out c[i] c[i + 1] else out) := by
 rw [List.drop_eq_getElem_cons (show i < c.length by omega), List.drop_eq_getElem_cons h, QbT]
theorem Qln {f : Cu -> Cu -> Bool} {c : List Cu} {out : List (Cu × Cu)} {i : Nat} (h : c.length <= i + 1) : QbT f (c.drop i) out = out := by
 have : (c.drop i).length <= 1 := by simp; omega
 match hd : c.drop i with
 | [] => rfl
 | [x] => rfl
 | x :: y :: r => rw [hd] at this; simp at this
def FillI (f : Cu -> Cu -> Bool) (c : List Cu) (i : Nat) (out : List (Cu × Cu)) : Prop :=
 out.length <= i /\ (∀ s ∈ out, Cu.sm s.1 /\ Cu.sm s.2) /\ QbT f c [] = QbT f (c.drop i) out
theorem FillI.zero {f : Cu -> Cu -> Bool} {c : List Cu} : FillI f c 0 [] := ⟨Nat.zero_le _, by simp, by simp⟩
theorem FillI.take {f : Cu -> Cu -> Bool} {c : List Cu} {i : Nat} {out : List (Cu × Cu)} (h : FillI f c i out) (hc : ∀ x ∈ c, Cu.sm x) (hi : i + 1 < c.length) (ht : f c[i] c[i + 1] = true) : FillI f c (i + 1) (QbU out c[i] c[i + 1]) := by
 obtain ⟨h1, h2, h3⟩ := h
 refine ⟨Nat.le_trans (Qh0 ..) (by omega), QjM h2 (hc _ (List.getElem_mem _)) (hc _ (List.getElem_mem _)), ?_⟩
 rw [h3, Qgg hi, if_pos ht]
theorem FillI.skip {f : Cu -> Cu -> Bool} {c : List Cu} {i : Nat} {out : List (Cu × Cu)} (h : FillI f c i out) (hi : i + 1 < c.length) (ht : f c[i] c[i + 1] = false) : FillI f c (i + 1) out := by
 obtain ⟨h1, h2, h3⟩ := h
 exact ⟨by omega, h2, by rw [h3, Qgg hi, if_neg (by rw [ht]; simp)]⟩
theorem FillI.done {f : Cu -> Cu -> Bool} {c : List Cu} {i : Nat} {out : List (Cu × Cu)} (h : FillI f c i out) (hi : c.length <= i + 1) : QbT f c [] = out := by rw [h.2.2, Qln hi]
theorem Qni {i : Nat} : ((i : Int) + 1).toNat = i + 1 := by omega
theorem Yy {l : List (Cu × Cu)} (hl : Sm l) : ∀ x ∈ YU l, Cu.sm x := QjL hl.2
def Qm6 (a b : List (Cu × Cu)) : List (Cu × Cu) := if QbA a = true /\ QbA b = true then QiS (a ++ b) else []
def QiT (a : List (Cu × Cu)) : List (Cu × Cu) := if QbA a = true then QbT (fun x y => !mIn a x y) (YU a) [] else []
theorem Qna {l : List (Cu × Cu)} : ∀ r ∈ l.map Qef, r.length = 14 := fun r hr => by obtain ⟨x, _, rfl⟩ := List.mem_map.1 hr; rfl
theorem Sm.app {a b : List (Cu × Cu)} (ha : Sm a) (hb : Sm b) (h : a.length + b.length <= 1000000) : Sm (a ++ b) := by
 refine ⟨by simp; omega, fun s hs => ?_⟩
 rcases List.mem_append.1 hs with hs | hs
 ·exact ha.2 s hs
 ·exact hb.2 s hs
abbrev QdI := List (Cu × Cu) × List (Cu × Cu)
def Qmx (a b : QdI) : QdI := if QcQ a = true /\ QcQ b = true then (Qm6 a.1 b.1, Qm6 a.2 b.2) else ([], [])
def QdU (a : QdI) : QdI := if QcQ a = true then (QiT a.1, QiT a.2) else ([], [])
def mPl (v n : Int) : Int := if n < 1 then 0 else Qfm v n
theorem Qh3 {v n : Int} : 0 <= mPl v n := by
 unfold mPl; split
 ·omega
 ·exact QmE (by omega)
theorem Qh2 {v n : Int} (h : 1 <= n) : mPl v n < n := by
 rw [mPl, if_neg (by omega)]; exact QmD (by omega)
def Qkt (l : List Int) (i : Int) : Int := if i < 0 \/ (l.length : Int) <= i then i.tmod 3 else l.getD i.toNat 0
theorem Qlm {l : List Int} {i : Int} (h0 : 0 <= i) (h : i < l.length) : Qkt l i = l[i.toNat]'(by omega) := by
 rw [Qkt, if_neg (by omega), List.getD_eq_getElem?_getD, List.getElem?_eq_getElem (by omega)]; rfl
def I64 (x : Int) : Prop := -9223372036854775808 <= x /\ x <= 9223372036854775807
theorem Qmt {l : List Int} {i : Int} (hl : ∀ x ∈ l, I64 x) (hi : I64 i) : I64 (Qkt l i) := by
 by_cases h : i < 0 \/ (l.length : Int) <= i
 ·rw [Qkt, if_pos h]
  have h1 := Int.tmod_lt_of_pos i (show (0 : Int) < 3 by omega)
  have h2 := Int.lt_tmod_of_pos i (show (0 : Int) < 3 by omega)
  exact ⟨by omega, by omega⟩
 ·rw [Qlm (by omega) (by omega)]
  exact hl _ (List.getElem_mem _)
theorem QfD (x : Int) : I64 (IntKind.i64.wrap x) := by
 unfold IntKind.wrap I64
 simp only [IntKind.bits, IntKind.signed, Bool.true_and]
 split
 ·rename_i h
  have := of_decide_eq_true h
  omega
 ·rename_i h
  have : ¬ (x % 2 ^ 64 >= 2 ^ (64 - 1)) := fun hh => h (decide_eq_true hh)
  omega
theorem QdT {α : Type} {k : Nat} {v : α} {l : List (Nat × α)} : lk ((k, v) :: l) k = some v := by rw [Qn, if_pos rfl]
theorem Qes {α : Type} {k : Nat} {v : α} {l : List (Nat × α)} : (lk ((k, v) :: l) k).isSome = true := by rw [QdT]; rfl
def gB (L : List Int) (I : Int) (et : Nat) : Box := ⟨[[ZL L, .int .i64 I]], 2, et, true⟩
def nxI (I : Int) : Int := IntKind.i64.wrap (I + 1)
def nx (L : List Int) (I n : Int) : Int := mPl (Qkt L (IntKind.i64.wrap (nxI I - 1))) n
def Qh5 (h m : Int) : Int := if Qbj .and .i64 h m = h then 2 else if Qbj .and .i64 h m = 0 then 0 else 1
def QgX (h m : Int) : Int := if Qbj .andNot .i64 h m = 0 then 2 else if Qbj .and .i64 h m = 0 then 0 else 1
theorem QiX {i : Nat} (h : i <= 62) : 1 <= (2 : Int) ^ i /\ (2 : Int) ^ i <= 4611686018427387904 := by
 have h1 : (2 : Nat) ^ i <= 2 ^ 62 := Nat.pow_le_pow_right (by omega) h
 have h2 : 1 <= (2 : Nat) ^ i := Nat.one_le_two_pow
 have h3 : ((2 ^ i : Nat) : Int) = (2 : Int) ^ i := by simp
 rw [<- h3]
 have h4 : (2 : Nat) ^ 62 = 4611686018427387904 := by decide
 omega
structure Vr where
 a : Int
 b : Int
 c : Int
 p : List UInt8
 q : List UInt8
def dVr (v : Vr) : List D := [.int .i64 v.a, .int .i64 v.b, .int .i64 v.c, .str v.p, .str v.q]
def Vr.sm (v : Vr) : Prop := v.p.length <= 100 /\ v.q.length <= 100
def versions : List Vr := [⟨1, 0, 0, [], []⟩, ⟨1, 2, 0, [], []⟩, ⟨2, 0, 0, [97, 46, 49], []⟩, ⟨2, 0, 0, [], []⟩]
theorem Qja : ∀ v ∈ versions, v.sm := by
 intro v hv
 simp only [versions, List.mem_cons, List.not_mem_nil, or_false] at hv
 rcases hv with rfl | rfl | rfl | rfl <;> exact ⟨by decide, by decide⟩
theorem XK {i : Nat} : ((i : Int) - 1).toNat = i - 1 := by omega
end M25
namespace Go.Proofs
open Go Go.Abs M3 M25
set_option linter.unusedVariables false
set_option linter.unusedSimpArgs false
theorem Qac {a b c : Int} {p q : List UInt8} : Ok Tryd.prog 71 [.agg [.int .i64 a, .int .i64 b, .int .i64 c, .str p, .str q]] (.agg [.int .i64 a, .int .i64 b, .int .i64 c, .str p, .str []]) := by
 refine Ok.ofT Z3 Tryd.func71 Qrb (Nat.le_of_ble_eq_true Z) ?_
 show TW _ _ tf71.body _ _
 refine Qe fun K hK => ZI Z Z Z (Zt Z (hK _ _ (Qa (kp2 Z Z) ?_)))
 refine Qe fun K hK => Qh Z Z (QW Z Z Z Z Z Z Z Z (hK _ _ (Qa (kp2 Z Z) ?_)))
 refine Qe fun K hK => QE (cs := [_, _, _, _, _]) Z Z Z Z (QW Z Z Z Z Z Z Z Z (hK _ _ (Qa (kp1 Z) ?_)))
 refine Qq (Zw (cs := [_, _, _, _, _]) Z Z Z Z ?_)
 exact rfl
theorem Y2  : Ok Tryd.prog 73 [] (.agg [.int .i64 (-1), .int .i64 0, .int .i64 0, .int .i64 0, .str [], .str [], .bool false]) := by
 refine Ok.ofT Z3 Tryd.func73 Qrd (Nat.le_of_ble_eq_true Z) ?_
 show TW _ _ tf73.body _ _
 refine Qe fun K hK => Zt Z (hK _ _ (Qa (kp1 Z) ?_))
 refine Qe fun K hK => QZ Z Z (QW Z Z Z Z Z Z Z Z (hK _ _ (Qa (kp1 Z) ?_)))
 refine Qq (Zw (cs := [_, _, _, _, _, _, _]) Z Z Z Z ?_)
 exact rfl
theorem Xd  : Ok Tryd.prog 75 [] (.agg [.int .i64 1, .int .i64 0, .int .i64 0, .int .i64 0, .str [], .str [], .bool false]) := by
 refine Ok.ofT Z3 Tryd.func75 Qrf (Nat.le_of_ble_eq_true Z) ?_
 show TW _ _ tf75.body _ _
 refine Qe fun K hK => Zt Z (hK _ _ (Qa (kp1 Z) ?_))
 refine Qe fun K hK => QZ Z Z (QW Z Z Z Z Z Z Z Z (hK _ _ (Qa (kp1 Z) ?_)))
 refine Qq (Zw (cs := [_, _, _, _, _, _, _]) Z Z Z Z ?_)
 exact rfl
theorem YJ {a b c : Int} {p q : List UInt8} : Ok Tryd.prog 53 [.agg [.int .i64 a, .int .i64 b, .int .i64 c, .str p, .str q]] (.agg [.int .i64 0, .int .i64 a, .int .i64 b, .int .i64 c, .str p, .str [], .bool false]) := by
 refine Ok.ofT Z3 Tryd.func53 QqU (Nat.le_of_ble_eq_true Z) ?_
 show TW _ _ tf53.body _ _
 refine Qe fun K hK => ZI Z Z Z (Zt Z (hK _ _ (Qa (kp2 Z Z) ?_)))
 refine Qe fun K hK => QE (cs := [_, _, _, _, _]) Z Z Z Z (Qy (Qac) Z Z (.inl Z) (QZ Z Z (QW Z Z Z Z Z Z Z Z (hK _ _ (Qa (kp1 Z) ?_)))))
 refine Qq (Zw (cs := [_, _, _, _, _, _, _]) Z Z Z Z ?_)
 exact rfl
theorem QbJ {a b c : Int} {p q : List UInt8} : Ok Tryd.prog 54 [.agg [.int .i64 a, .int .i64 b, .int .i64 c, .str p, .str q]] (.agg [.int .i64 0, .int .i64 a, .int .i64 b, .int .i64 c, .str p, .str [], .bool true]) := by
 refine Ok.ofT Z3 Tryd.func54 QqV (Nat.le_of_ble_eq_true Z) ?_
 show TW _ _ tf54.body _ _
 refine Qe fun K hK => ZI Z Z Z (Zt Z (hK _ _ (Qa (kp2 Z Z) ?_)))
 refine Qe fun K hK => QE (cs := [_, _, _, _, _]) Z Z Z Z (Qy (Qac) Z Z (.inl Z) (QZ Z Z (QW Z Z Z Z Z Z Z Z (hK _ _ (Qa (kp1 Z) ?_)))))
 refine Qq (Zw (cs := [_, _, _, _, _, _, _]) Z Z Z Z ?_)
 exact rfl
theorem XW {a b c : Int} {p q : List UInt8} : Ok Tryd.prog 72 [.agg [.int .i64 a, .int .i64 b, .int .i64 c, .str p, .str q]] (.bool (Qd8 a b c)) := by
 refine Ok.ofT Z3 Tryd.func72 Qrc (Nat.le_of_ble_eq_true Z) ?_
 show TW _ _ tf72.body _ _
 refine Qe fun K hK => ZI Z Z Z (Qb Z (hK _ _ (Qa (kp1 Z) ?_)))
 refine Qe fun K hK => Qh Z Z (QF Z Z Z (Yd Z Z (Qb Z ?_)))
 refine Qv (g := 6) Z (fun h1 => ?_) (fun h1 => ?_)
 ·try rw [h1]
  try simp only [qB] at h1
  refine Qg Z (Qh Z Z (Qg Z (QF Z Z Z (Qg Z (Yd Z Z (Qi Z Z (Qb Z ?_)))))))
  refine Qv (g := 11) Z (fun h2 => ?_) (fun h2 => ?_)
  ·try rw [h2]
   try simp only [qB] at h2
   refine Qg Z (Qh Z Z (Qg Z (QF Z Z Z (Qg Z (Yd Z Z (Qi Z Z (Qb Z (hK _ _ (Qa (kp1 Z) ?_)))))))))
   refine Qq (Qm Z ?_)
   (repeat clear hK K); simp_all [Qd8]
  ·try rw [h2]
   try simp only [qB] at h2
   refine Qr Z (Qr Z (Qr Z (Qi Z Z (Qb Z (hK _ _ (Qa (kp1 Z) ?_))))))
   refine Qq (Qm Z ?_)
   (repeat clear hK K); simp_all [Qd8]
 ·try rw [h1]
  try simp only [qB] at h1
  refine Qr Z (Qr Z (Qr Z (Qi Z Z (Qb Z (Qr Z (Qr Z (Qr Z (Qi Z Z (Qb Z (hK _ _ (Qa (kp1 Z) ?_)))))))))))
  refine Qq (Qm Z ?_)
  (repeat clear hK K); simp_all [Qd8]
end Go.Proofs
namespace Go.Proofs
open Go Go.Abs M3 M25
set_option linter.unusedVariables false
set_option linter.unusedSimpArgs false
theorem QcJ {a b c : Int} {p q : List UInt8} (hp : p.length <= 1000000) (hq : q.length <= 1000000) {part : Int} : Ok Tryd.prog 91 [.agg [.int .i64 a, .int .i64 b, .int .i64 c, .str p, .str q], .int .i64 part] (dOV (X5 a b c p q part)) := by
 refine Ok.ofT Z3 Tryd.func91 Qrv (Nat.le_of_ble_eq_true Z) ?_
 show TW _ _ tf91.body _ _
 refine Qe fun K hK => ZI Z Z Z (Zt Z (Qb Z (hK _ _ (Qa (kp3 Z Z Z) ?_))))
 refine QH ?_ -- 0
 refine Qe fun K hK => QE (cs := [_, _, _, _, _]) Z Z Z Z (Qy (Q9 (by omega) (by omega)) Z Z (.inr Z) (ZM Z (Qb Z ?_)))
 refine Qv (g := 10) Z (fun h1 => ?_) (fun h1 => ?_)
 ·try rw [h1]
  try simp only [qB] at h1
  refine Qr Z (Qr Z (Qi Z Z (Qb Z (Qr Z (Qr Z (Qi Z Z (hK _ _ (Qa (kp4 Z Z Z Z) ?_))))))))
  refine Zj Z (Qe fun K hK => QZ Z Z (QW Z Z Z Z Z Z Z Z (Qb Z (hK _ _ (Qa (kp2 Z Z) ?_)))))
  refine Qq (Qk (Post.eq (XD (ds := [.int .i64 _, .int .i64 _, .int .i64 _, .str _, .str _]) (d' := .bool _) (cs := [_, _, _, _, _]) Z Z Z Z Z ⟨rfl, rfl⟩) ?_))
  (repeat clear hK K); first | (simp [X5, dOV, h1]; done) | (simp_all [X5, dOV]; done)
 ·try rw [h1]
  try simp only [qB] at h1
  refine Qg Z (Qb Z (Qg Z (YH Z Z (Qi Z Z (Qb Z ?_)))))
  refine Qv (g := 14) Z (fun h2 => ?_) (fun h2 => ?_)
  ·try rw [h2]
   try simp only [qB] at h2
   refine Qr Z (Qr Z (Qi Z Z (hK _ _ (Qa (kp4 Z Z Z Z) ?_))))
   refine Zj Z (Qe fun K hK => QZ Z Z (QW Z Z Z Z Z Z Z Z (Qb Z (hK _ _ (Qa (kp2 Z Z) ?_)))))
   refine Qq (Qk (Post.eq (XD (ds := [.int .i64 _, .int .i64 _, .int .i64 _, .str _, .str _]) (d' := .bool _) (cs := [_, _, _, _, _]) Z Z Z Z Z ⟨rfl, rfl⟩) ?_))
   (repeat clear hK K); first | (simp [X5, dOV, h1, h2]; done) | (simp_all [X5, dOV]; done)
  ·try rw [h2]
   try simp only [qB] at h2
   refine Qg Z (Qb Z (Qg Z (QdH Z Z (Qi Z Z (hK _ _ (Qa (kp4 Z Z Z Z) ?_))))))
   refine QA Z (fun h3 => ?_) (fun h3 => ?_)
   ·try rw [h3]
    try simp only [qB] at h3
    refine Qe fun K hK => QZ Z Z (QW Z Z Z Z Z Z Z Z (Qb Z (hK _ _ (Qa (kp2 Z Z) ?_))))
    refine Qq (Qk (Post.eq (XD (ds := [.int .i64 _, .int .i64 _, .int .i64 _, .str _, .str _]) (d' := .bool _) (cs := [_, _, _, _, _]) Z Z Z Z Z ⟨rfl, rfl⟩) ?_))
    (repeat clear hK K); first | (simp [X5, dOV, h1, h2, h3]; done) | (simp_all [X5, dOV]; done)
   ·try rw [h3]
    try simp only [qB] at h3
    refine Qx (Qf (kp3 Z Z Z) (Qe fun K hK => Zt Z (hK _ _ (Qa (kp4 Z Z Z Z) ?_))))
    refine QH ?_ -- 1
    refine Qe fun K hK => Qb Z (hK _ _ (Qa (kp4 Z Z Z Z) ?_))
    refine QM (Qe fun K hK => Yd Z Z (Qb Z (hK _ _ (Qa (kp5 Z Z Z Z Z) ?_))))
    refine QA Z (fun h4 => ?_) (fun h4 => ?_)
    ·try rw [h4]
     try simp only [qB] at h4
     refine Ze fun K hK => Qh Z Z (QF Z Z Z (Zi Z Z (Qu (by have := Qch (by simpa using h1); omega) (by have := Qch (by simpa using h1); omega)) (QZ Z Z (QW Z Z Z Z Z Z Z Z (hK _ ?_)))))
     refine Ql (Qf (kp2 Z Z) ?_)
     refine QH ?_ -- 2
     refine Qe fun K hK => QE (cs := [_, _, _, _, _]) Z Z Z Z (Qy (Q9 (by simp) (by simp)) Z Z (.inr Z) (ZM Z (hK _ _ (Qa (kp3 Z Z Z) ?_))))
     refine QA Z (fun h5 => ?_) (fun h5 => ?_)
     ·try rw [h5]
      try simp only [qB] at h5
      refine Qe fun K hK => QZ Z Z (QW Z Z Z Z Z Z Z Z (Qb Z (hK _ _ (Qa (kp2 Z Z) ?_))))
      refine Qq (Qk (Post.eq (XD (ds := [.int .i64 _, .int .i64 _, .int .i64 _, .str _, .str _]) (d' := .bool _) (cs := [_, _, _, _, _]) Z Z Z Z Z ⟨rfl, rfl⟩) ?_))
      (repeat clear hK K); first | (simp [X5, dOV, h1, h2, h3, h4, h5]; done) | (simp_all [X5, dOV]; done)
     ·try rw [h5]
      try simp only [qB] at h5
      refine Qx (Qf (kp2 Z Z) (Qe fun K hK => QE (cs := [_, _, _, _, _]) Z Z Z Z (QW Z Z Z Z Z Z Z Z (Qb Z (hK _ _ (Qa (kp2 Z Z) ?_))))))
      refine Qq (Post.eq (XD (ds := [.int .i64 _, .int .i64 _, .int .i64 _, .str _, .str _]) (d' := .bool _) (cs := [_, _, _, _, _]) Z Z Z Z Z ⟨rfl, rfl⟩) ?_)
      (repeat clear hK K); first | (simp [X5, dOV, h1, h2, h3, h4, h5]; done) | (simp_all [X5, dOV]; done)
    ·try rw [h4]
     try simp only [qB] at h4
     refine Qe fun K hK => Yd Z Z (Qb Z (hK _ _ (Qa (kp4 Z Z Z Z) ?_)))
     refine QA Z (fun h6 => ?_) (fun h6 => ?_)
     ·try rw [h6]
      try simp only [qB] at h6
      refine Ze fun K hK => Qh Z Z (QF Z Z Z (Qh Z Z (QF Z Z Z (Zi Z Z (Qu (by have := Qch (by simpa using h1); omega) (by have := Qch (by simpa using h1); omega)) (QZ Z Z (QW Z Z Z Z Z Z Z Z (hK _ ?_)))))))
      refine Ql (Qf (kp2 Z Z) ?_)
      refine QH ?_ -- 2
      refine Qe fun K hK => QE (cs := [_, _, _, _, _]) Z Z Z Z (Qy (Q9 (by simp) (by simp)) Z Z (.inr Z) (ZM Z (hK _ _ (Qa (kp3 Z Z Z) ?_))))
      refine QA Z (fun h7 => ?_) (fun h7 => ?_)
      ·try rw [h7]
       try simp only [qB] at h7
       refine Qe fun K hK => QZ Z Z (QW Z Z Z Z Z Z Z Z (Qb Z (hK _ _ (Qa (kp2 Z Z) ?_))))
       refine Qq (Qk (Post.eq (XD (ds := [.int .i64 _, .int .i64 _, .int .i64 _, .str _, .str _]) (d' := .bool _) (cs := [_, _, _, _, _]) Z Z Z Z Z ⟨rfl, rfl⟩) ?_))
       (repeat clear hK K); first | (simp [X5, dOV, h1, h2, h3, h4, h6, h7]; done) | (simp_all [X5, dOV]; done)
      ·try rw [h7]
       try simp only [qB] at h7
       refine Qx (Qf (kp2 Z Z) (Qe fun K hK => QE (cs := [_, _, _, _, _]) Z Z Z Z (QW Z Z Z Z Z Z Z Z (Qb Z (hK _ _ (Qa (kp2 Z Z) ?_))))))
       refine Qq (Post.eq (XD (ds := [.int .i64 _, .int .i64 _, .int .i64 _, .str _, .str _]) (d' := .bool _) (cs := [_, _, _, _, _]) Z Z Z Z Z ⟨rfl, rfl⟩) ?_)
       (repeat clear hK K); first | (simp [X5, dOV, h1, h2, h3, h4, h6, h7]; done) | (simp_all [X5, dOV]; done)
     ·try rw [h6]
      try simp only [qB] at h6
      refine Ze fun K hK => Qh Z Z (QF Z Z Z (Qh Z Z (QF Z Z Z (Qh Z Z (QF Z Z Z (Zi Z Z (Qu (by have := Qch (by simpa using h1); omega) (by have := Qch (by simpa using h1); omega)) (QZ Z Z (QW Z Z Z Z Z Z Z Z (hK _ ?_)))))))))
      refine Ql (Qf (kp2 Z Z) ?_)
      refine QH ?_ -- 2
      refine Qe fun K hK => QE (cs := [_, _, _, _, _]) Z Z Z Z (Qy (Q9 (by simp) (by simp)) Z Z (.inr Z) (ZM Z (hK _ _ (Qa (kp3 Z Z Z) ?_))))
      refine QA Z (fun h8 => ?_) (fun h8 => ?_)
      ·try rw [h8]
       try simp only [qB] at h8
       refine Qe fun K hK => QZ Z Z (QW Z Z Z Z Z Z Z Z (Qb Z (hK _ _ (Qa (kp2 Z Z) ?_))))
       refine Qq (Qk (Post.eq (XD (ds := [.int .i64 _, .int .i64 _, .int .i64 _, .str _, .str _]) (d' := .bool _) (cs := [_, _, _, _, _]) Z Z Z Z Z ⟨rfl, rfl⟩) ?_))
       (repeat clear hK K); first | (simp [X5, dOV, h1, h2, h3, h4, h6, h8]; done) | (simp_all [X5, dOV]; done)
      ·try rw [h8]
       try simp only [qB] at h8
       refine Qx (Qf (kp2 Z Z) (Qe fun K hK => QE (cs := [_, _, _, _, _]) Z Z Z Z (QW Z Z Z Z Z Z Z Z (Qb Z (hK _ _ (Qa (kp2 Z Z) ?_))))))
       refine Qq (Post.eq (XD (ds := [.int .i64 _, .int .i64 _, .int .i64 _, .str _, .str _]) (d' := .bool _) (cs := [_, _, _, _, _]) Z Z Z Z Z ⟨rfl, rfl⟩) ?_)
       (repeat clear hK K); first | (simp [X5, dOV, h1, h2, h3, h4, h6, h8]; done) | (simp_all [X5, dOV]; done)
theorem QcK {a b c : Int} {p q : List UInt8} (hp : p.length <= 1000000) (hq : q.length <= 1000000) : Ok Tryd.prog 74 [.agg [.int .i64 a, .int .i64 b, .int .i64 c, .str p, .str q]] (dOV (Qh1 a b c p q)) := by
 refine Ok.ofT Z3 Tryd.func74 Qre (Nat.le_of_ble_eq_true Z) ?_
 show TW _ _ tf74.body _ _
 refine Qe fun K hK => ZI Z Z Z (Zt Z (Qb Z (hK _ _ (Qa (kp2 Z Z) ?_))))
 refine QH ?_ -- 0
 refine Qe fun K hK => QE (cs := [_, _, _, _, _]) Z Z Z Z (Qy (Q9 (by omega) (by omega)) Z Z (.inr Z) (ZM Z (hK _ _ (Qa (kp3 Z Z Z) ?_))))
 refine QA Z (fun h1 => ?_) (fun h1 => ?_)
 ·try rw [h1]
  try simp only [qB] at h1
  refine Qe fun K hK => QZ Z Z (QW Z Z Z Z Z Z Z Z (Qb Z (hK _ _ (Qa (kp2 Z Z) ?_))))
  refine Qq (Qk (Post.eq (XD (ds := [.int .i64 _, .int .i64 _, .int .i64 _, .str _, .str _]) (d' := .bool _) (cs := [_, _, _, _, _]) Z Z Z Z Z ⟨rfl, rfl⟩) ?_))
  simp [Qh1, dOV, h1]
 ·try rw [h1]
  try simp only [qB] at h1
  refine Qx (Qf (kp2 Z Z) ?_)
  refine QH ?_ -- 1
  refine Qe fun K hK => Qh Z Z (QF Z Z Z (Qkc Z Z (hK _ _ (Qa (kp3 Z Z Z) ?_))))
  refine QA Z (fun h2 => ?_) (fun h2 => ?_)
  ·try rw [h2]
   try simp only [qB] at h2
   refine Qe fun K hK => Qh Z Z (QF Z Z Z (Qh Z Z (QF Z Z Z (Qh Z Z (QF Z Z Z (QZ Z Z (QW Z Z Z Z Z Z Z Z (Qb Z (hK _ _ (Qa (kp2 Z Z) ?_))))))))))
   refine Qq (Qk (Post.eq (XD (ds := [.int .i64 _, .int .i64 _, .int .i64 _, .str _, .str _]) (d' := .bool _) (cs := [_, _, _, _, _]) Z Z Z Z Z ⟨rfl, rfl⟩) ?_))
   simp [Qh1, dOV, h1, h2]
  ·try rw [h2]
   try simp only [qB] at h2
   refine Qx (Qf (kp2 Z Z) ?_)
   refine QH ?_ -- 2
   refine Qe fun K hK => Qb Z (hK _ _ (Qa (kp3 Z Z Z) ?_))
   refine QM ?_
   refine Z8 (ι := Nat) (fun m => ⟨[(1, .ref 1 0 0), (2, .ref 2 0 0), (4, .int .i64 ((m : Int) - 1))], [(1, ⟨[[.int .i64 a, .int .i64 b, .int .i64 c, .str p, .str q]], 5, 49, true⟩), (2, ⟨[[.int .i64 0, .int .i64 0, .int .i64 0, .str [], .str []]], 5, 49, true⟩)]⟩) (fun m => m <= 3 /\ XI a b c p q 3 = XI a b c p q m) (fun m => m) 3 ?_ ?_ ?_
   ·exact Zx (l := [1, 2, 4]) (lH := [1, 2]) (kp3 rfl rfl rfl) (Qz rfl (Qz rfl QC)) rfl rfl rfl
   ·exact ⟨by omega, rfl⟩
   intro m hI
   obtain ⟨hI1, hI2⟩ := hI
   try dsimp only
   refine QH ?_ -- 3
   refine Qe fun K hK => Qb Z (Qiy Z Z (hK _ _ (Qa (kp4 Z Z Z Z) ?_)))
   refine QA Z (fun h3 => ?_) (fun h3 => ?_)
   ·try rw [h3]
    try simp only [qB] at h3
    rcases Nat.eq_zero_or_pos m with hm | hm <;> first | omega | skip
    refine Qx (Qf (kp3 Z Z Z) ?_)
    refine QH ?_ -- 4
    refine QM (Qe fun K hK => QE (cs := [_, _, _, _, _]) Z Z Z Z (Qb Z (Qy (QcJ (by omega) (by omega)) Z Z (.inl Z) (Qb Z (Zh Z Z (Zh Z Z (Zt Z (QW Z Z Z Z Z Z Z Z (Qb Z (hK _ _ (Qa (kp5 Z Z Z Z Z) ?_)))))))))))
    refine Qe fun K hK => Qb Z (hK _ _ (Qa (kp5 Z Z Z Z Z) ?_))
    refine QA Z (fun h4 => ?_) (fun h4 => ?_)
    ·try rw [h4]
     try simp only [qB] at h4
     refine Qe fun K hK => QE (cs := [_, _, _, _, _]) Z Z Z Z (QW Z Z Z Z Z Z Z Z (Qb Z (hK _ _ (Qa (kp2 Z Z) ?_))))
     refine Qq (Qw (Qk (Q8 (Qw (Qk (Post.eq (XD (ds := [.int .i64 _, .int .i64 _, .int .i64 _, .str _, .str _]) (d' := .bool _) (cs := [_, _, _, _, _]) Z Z Z Z Z ⟨rfl, rfl⟩) ?_))))))
     subst h2
     simp [Qh1, dOV, h1, hI2, Qhz hm h4, h4]
    ·try rw [h4]
     try simp only [qB] at h4
     refine Qx (Ql (Qf (kp3 Z Z Z) (Ze fun K hK => Qb Z (Qc1 Z Z (by first | exact Qu (by omega) (by omega) | rfl) (Qb Z (hK _ ?_))))))
     refine Qo (m - 1) ?_ ?_ ?_
     ·refine Zx (l := [1, 2, 4]) (lH := [1, 2]) (kp3 Z Z Z) (Qz Z (Qz Z QC)) ?_ Z rfl; simp only [List.cons.injEq, Prod.mk.injEq, D.int.injEq, and_true, true_and]; omega
     ·exact ⟨by omega, by rw [hI2]; exact QiB hm h4⟩
     ·show m - 1 < m; omega
   ·try rw [h3]
    try simp only [qB] at h3
    rcases Nat.eq_zero_or_pos m with hm | hm <;> first | omega | skip
    refine ZA (QR (QD (QK (Qf (kp1 Z) (Qe fun K hK => QZ Z Z (QW Z Z Z Z Z Z Z Z (Qb Z (hK _ _ (Qa (kp2 Z Z) ?_)))))))))
    refine Qq (Post.eq (XD (ds := [.int .i64 _, .int .i64 _, .int .i64 _, .str _, .str _]) (d' := .bool _) (cs := [_, _, _, _, _]) Z Z Z Z Z ⟨rfl, rfl⟩) ?_)
    subst h2
    subst hm
    have hb : XI a b c [] q 3 = none := hI2
    simp [Qh1, dOV, h1, hb]
end Go.Proofs
namespace Go.Proofs
open Go Go.Abs M3 M25
set_option linter.unusedVariables false
set_option linter.unusedSimpArgs false
theorem XX {e a b c : Int} {p q : List UInt8} {f : Bool} : Ok Tryd.prog 63 [.agg [.int .i64 e, .int .i64 a, .int .i64 b, .int .i64 c, .str p, .str q, .bool f]] (.bool (Qd9 e a b c p q f)) := by
 refine Ok.ofT Z3 Tryd.func63 Qq3 (Nat.le_of_ble_eq_true Z) ?_
 show TW _ _ tf63.body _ _
 refine Qe fun K hK => ZI Z Z Z (Qb Z (hK _ _ (Qa (kp1 Z) ?_)))
 refine Qe fun K hK => Qh Z Z (QF Z Z Z (Y4 Z Z (Qb Z ?_)))
 refine Qv (g := 6) Z (fun h1 => ?_) (fun h1 => ?_)
 ·try rw [h1]
  try simp only [qB] at h1
  refine Qr Z (Qr Z (Qr Z (Qr Z (QI Z (QI Z (QI Z (QI Z (Qr Z (Qr Z (QI Z (QI Z ?_)))))))))))
  refine QI Z (QI Z (Qr Z (Qi Z Z (Qb Z (hK _ _ (Qa (kp1 Z) ?_))))))
  refine Qq (Qm Z ?_)
  (repeat clear hK K); simp_all [Qd9]
 ·try rw [h1]
  try simp only [qB] at h1
  refine Qg Z (Qh Z Z (Qg Z (QF Z Z Z (Qg Z (ZM Z (Qg Z (Qb Z ?_)))))))
  refine Qv (g := 10) Z (fun h2 => ?_) (fun h2 => ?_)
  ·try rw [h2]
   try simp only [qB] at h2
   refine Qg Z (Qh Z Z (Qg Z (Qh Z Z (Qg Z (QF Z Z Z (Qg Z (QbD Z Z (Qg Z (Qi Z Z (Qg Z (Qb Z ?_)))))))))))
   refine Qv (g := 16) Z (fun h3 => ?_) (fun h3 => ?_)
   ·try rw [h3]
    try simp only [qB] at h3
    refine Qg Z (Qh Z Z (Qg Z (QE (cs := [_, _, _, _, _]) Z Z Z Z (Qg Z (Qy (XW) Z Z (.inr Z) (Qg Z (ZM Z (Qg Z (Qi Z Z (Qi Z Z (Qb Z ?_)))))))))))
    refine hK _ _ (Qa (kp1 Z) ?_)
    refine Qq (Qm Z ?_)
    (repeat clear hK K); simp_all [Qd9]
   ·try rw [h3]
    try simp only [qB] at h3
    refine Qr Z (Qr Z (Qr Z (Qr Z (Qg Z (Qi Z Z (Qi Z Z (Qb Z (hK _ _ (Qa (kp1 Z) ?_)))))))))
    refine Qq (Qm Z ?_)
    (repeat clear hK K); simp_all [Qd9]
  ·try rw [h2]
   try simp only [qB] at h2
   refine Qr Z (Qr Z (Qr Z (Qr Z (Qg Z (Qi Z Z (Qg Z (Qb Z (Qr Z (Qr Z (Qr Z (Qr Z ?_)))))))))))
   refine Qg Z (Qi Z Z (Qi Z Z (Qb Z (hK _ _ (Qa (kp1 Z) ?_)))))
   refine Qq (Qm Z ?_)
   (repeat clear hK K); simp_all [Qd9]
theorem Qct {a b c : Int} {p q : List UInt8} : Ok Tryd.prog 55 [.agg [.int .i64 a, .int .i64 b, .int .i64 c, .str p, .str q]] (.agg (dCu (Qfj a b c))) := by
 refine Ok.ofT Z3 Tryd.func55 QqW (Nat.le_of_ble_eq_true Z) ?_
 show TW _ _ tf55.body _ _
 refine Qe fun K hK => ZI Z Z Z (Zt Z (hK _ _ (Qa (kp2 Z Z) ?_)))
 refine QH ?_ -- 0
 refine Qe fun K hK => QE (cs := [_, _, _, _, _]) Z Z Z Z (Qy (XW) Z Z (.inr Z) (hK _ _ (Qa (kp3 Z Z Z) ?_)))
 refine QA Z (fun h1 => ?_) (fun h1 => ?_)
 ·try rw [h1]
  try simp only [qB] at h1
  refine Qe fun K hK => Qy (Y2) Z Z (.inl Z) (QW Z Z Z Z Z Z Z Z (hK _ _ (Qa (kp1 Z) ?_)))
  refine Qq (Qk (Post.eq (Zw (ds := [.int .i64 _, .int .i64 _, .int .i64 _, .int .i64 _, .str _, .str _, .bool _]) (cs := [_, _, _, _, _, _, _]) Z Z Z Z Z) ?_))
  simp [Qfj, dCu, QcB, h1]
 ·try rw [h1]
  try simp only [qB] at h1
  refine Qx (Qf (kp2 Z Z) (Qe fun K hK => Qh Z Z (QF Z Z Z (Qh Z Z (QF Z Z Z (Qh Z Z (QF Z Z Z (QZ Z Z (Qy (YJ) Z Z (.inl Z) (QW Z Z Z Z Z Z Z Z ?_))))))))))
  refine hK _ _ (Qa (kp1 Z) ?_)
  refine Qq (Post.eq (Zw (ds := [.int .i64 _, .int .i64 _, .int .i64 _, .int .i64 _, .str _, .str _, .bool _]) (cs := [_, _, _, _, _, _, _]) Z Z Z Z Z) ?_)
  simp [Qfj, dCu, QcB, h1]
theorem QbK {a b c : Int} {p q : List UInt8} : Ok Tryd.prog 56 [.agg [.int .i64 a, .int .i64 b, .int .i64 c, .str p, .str q]] (.agg (dCu (Qdt a b c))) := by
 refine Ok.ofT Z3 Tryd.func56 QqX (Nat.le_of_ble_eq_true Z) ?_
 show TW _ _ tf56.body _ _
 refine Qe fun K hK => ZI Z Z Z (Zt Z (hK _ _ (Qa (kp2 Z Z) ?_)))
 refine Qe fun K hK => Qh Z Z (QF Z Z Z (Qh Z Z (QF Z Z Z (Qh Z Z (QF Z Z Z (QZ Z Z (Qy (QcK (by simp) (by simp)) Z Z (.inl Z) (Qb Z (Zh Z Z (Zh Z Z ?_))))))))))
 refine Zt Z (QW Z Z Z Z Z Z Z Z (Qb Z (hK _ _ (Qa (kp3 Z Z Z) ?_))))
 refine QH ?_ -- 0
 refine Qe fun K hK => Qb Z (ZM Z (hK _ _ (Qa (kp3 Z Z Z) ?_)))
 refine QA Z (fun h1 => ?_) (fun h1 => ?_)
 ·try rw [h1]
  try simp only [qB] at h1
  refine Qe fun K hK => Qy (Xd) Z Z (.inl Z) (QW Z Z Z Z Z Z Z Z (hK _ _ (Qa (kp1 Z) ?_)))
  refine Qq (Qk (Post.eq (Zw (ds := [.int .i64 _, .int .i64 _, .int .i64 _, .int .i64 _, .str _, .str _, .bool _]) (cs := [_, _, _, _, _, _, _]) Z Z Z Z Z) ?_))
  cases hn : Qh1 a b c [] [] <;> simp [Qdt, dCu, QfL, hn] at *
 ·try rw [h1]
  try simp only [qB] at h1
  refine Qx (Qf (kp2 Z Z) (Qe fun K hK => QE (cs := [_, _, _, _, _]) Z Z Z Z (Qy (YJ) Z Z (.inl Z) (QW Z Z Z Z Z Z Z Z (hK _ _ (Qa (kp1 Z) ?_))))))
  refine Qq (Post.eq (Zw (ds := [.int .i64 _, .int .i64 _, .int .i64 _, .int .i64 _, .str _, .str _, .bool _]) (cs := [_, _, _, _, _, _, _]) Z Z Z Z Z) ?_)
  cases hn : Qh1 a b c [] [] <;> simp [Qdt, dCu, QfL, hn] at *
theorem XY  : Ok Tryd.prog 92 [] (Q5 [(QcB, QfL)]) := by
 refine Ok.ofT Z3 Tryd.func92 Qrw (Nat.le_of_ble_eq_true Z) ?_
 show TW _ _ tf92.body _ _
 refine Qe fun K hK => Qb Z (hK _ _ (Qa (QX) ?_))
 refine Qe fun K hK => Qy (Y2) Z Z (.inl Z) (Qy (Xd) Z Z (.inl Z) (QZ Z Z (QP Z Z (Qb Z (hK _ _ (Qa (kp1 Z) ?_))))))
 refine Qq (Yf Z ?_)
 rfl
theorem ZS  : Ok Tryd.prog 48 [] (Qdi ([], [])) := by
 refine Ok.ofT Z3 Tryd.func48 QqQ (Nat.le_of_ble_eq_true Z) ?_
 show TW _ _ tf48.body _ _
 refine Qe fun K hK => Zt Z (hK _ _ (Qa (kp1 Z) ?_))
 refine Qe fun K hK => QZ Z Z (QW Z Z Z Z Z Z Z Z (hK _ _ (Qa (kp1 Z) ?_)))
 refine Qq (Post.eq (Zw (ds := [.sl _, .sl _]) (cs := [_, _]) Z Z Z Z Z) ?_)
 rfl
theorem Qaw  : Ok Tryd.prog 76 [] (Qdi ([(QcB, QfL)], [(QcB, QfL)])) := by
 refine Ok.ofT Z3 Tryd.func76 Qrg (Nat.le_of_ble_eq_true Z) ?_
 show TW _ _ tf76.body _ _
 refine Qe fun K hK => Zt Z (hK _ _ (Qa (kp1 Z) ?_))
 refine Qe fun K hK => Qy (XY) Z Z (.inl Z) (Qy (XY) Z Z (.inl Z) (QZ Z Z (QW Z Z Z Z Z Z Z Z (hK _ _ (Qa (kp1 Z) ?_)))))
 refine Qq (Post.eq (Zw (ds := [.sl _, .sl _]) (cs := [_, _]) Z Z Z Z Z) ?_)
 rfl
theorem Yi {a b c : Int} {p q : List UInt8} (hp : p.length <= 1000000) (hq : q.length <= 1000000) : Ok Tryd.prog 36 [.agg [.int .i64 a, .int .i64 b, .int .i64 c, .str p, .str q]] (Qdi (YL a b c p q)) := by
 refine Ok.ofT Z3 Tryd.func36 QqF (Nat.le_of_ble_eq_true Z) ?_
 show TW _ _ tf36.body _ _
 refine Qe fun K hK => ZI Z Z Z (Zt Z (hK _ _ (Qa (kp2 Z Z) ?_)))
 refine QH ?_ -- 0
 refine Qe fun K hK => QE (cs := [_, _, _, _, _]) Z Z Z Z (Qy (Q9 (by omega) (by omega)) Z Z (.inr Z) (ZM Z (hK _ _ (Qa (kp3 Z Z Z) ?_))))
 refine QA Z (fun h1 => ?_) (fun h1 => ?_)
 ·try rw [h1]
  try simp only [qB] at h1
  refine Qe fun K hK => Qy (ZS) Z Z (.inl Z) (QW Z Z Z Z Z Z Z Z (hK _ _ (Qa (kp1 Z) ?_)))
  refine Qq (Qk (Post.eq (Zw (ds := [.sl _, .sl _]) (cs := [_, _]) Z Z Z Z Z) ?_))
  simp [YL, Qdi, Q5, Qef, dCu, h1]
 ·try rw [h1]
  try simp only [qB] at h1
  refine Qx (Qf (kp2 Z Z) ?_)
  refine QH ?_ -- 1
  refine Qe fun K hK => Qh Z Z (QF Z Z Z (Qkc Z Z (hK _ _ (Qa (kp3 Z Z Z) ?_))))
  refine QA Z (fun h2 => ?_) (fun h2 => ?_)
  ·try rw [h2]
   try simp only [qB] at h2
   refine Qe fun K hK => QG (ds0 := [6, 3, 2, 1, 0]) (cs := [_, _, _, _, _]) Z Z Z Z Z Z (QU (ds0 := [3, 2, 1, 0]) (YJ) Z Z (.inl Z) Z Z (QG (ds0 := [4, 3, 2, 1, 0]) (cs := [_, _, _, _, _]) Z Z Z Z Z Z (QU (ds0 := [3, 2, 1, 0]) (QbJ) Z Z (.inl Z) Z Z (QZ Z Z (QP Z Z (QZ Z Z (Xk (ds0 := []) Z Z Z Z Z Z Z Z Z Z (hK _ _ (Qa (kp1 Z) ?_)))))))))
   refine Qq (Qk (Post.eq (Zw (ds := [.sl _, .sl _]) (cs := [_, _]) Z Z Z Z Z) ?_))
   simp [YL, Qdi, Q5, Qef, dCu, h1, h2]
  ·try rw [h2]
   try simp only [qB] at h2
   refine Qx (Qf (kp2 Z Z) (Qe fun K hK => QG (ds0 := [6, 3, 2, 1, 0]) (cs := [_, _, _, _, _]) Z Z Z Z Z Z (QU (ds0 := [3, 2, 1, 0]) (Qct) Z Z (.inl Z) Z Z (QG (ds0 := [4, 3, 2, 1, 0]) (cs := [_, _, _, _, _]) Z Z Z Z Z Z (QU (ds0 := [3, 2, 1, 0]) (QbK) Z Z (.inl Z) Z Z (QZ Z Z (QP Z Z (QZ Z Z (Xk (ds0 := []) Z Z Z Z Z Z Z Z Z Z (hK _ _ (Qa (kp1 Z) ?_)))))))))))
   refine Qq (Post.eq (Zw (ds := [.sl _, .sl _]) (cs := [_, _]) Z Z Z Z Z) ?_)
   subst h2
   simp [YL, Qdi, Q5, Qef, dCu, h1]
end Go.Proofs
namespace Go.Proofs
open Go Go.Abs M3 M25
set_option linter.unusedVariables false
set_option linter.unusedSimpArgs false
theorem ZX {l : List (Cu × Cu)} (hl : Sm l) : Ok Tryd.prog 62 [Q5 l] (.bool (QbA l)) := by
 refine Ok.ofT Z3 Tryd.func62 Qq2 (Nat.le_of_ble_eq_true Z) ?_
 show TW _ _ tf62.body _ _
 have hn := hl.1
 refine Qe fun K hK => Qb Z (hK _ _ (Qa (kp1 Z) ?_))
 refine QH ?_ -- 0
 refine Qe fun K hK => Qb Z (hK _ _ (Qa (kp2 Z Z) ?_))
 refine QM ?_
 refine Z8 (ι := Nat) (fun i => ⟨[(0, Q5 l), (3, .int .i64 i)], []⟩) (fun i => i <= l.length /\ (List.range i).all (Qn2 l) = true) (fun i => l.length - i) 0 ?_ ?_ ?_
 ·exact Za (kp2 rfl rfl)
 ·exact ⟨Nat.zero_le _, rfl⟩
 intro i hI
 try dsimp only
 refine QH ?_ -- 1
 refine Qe fun K hK => Qb Z (Qb Z (ZF Z Z (YH Z Z (hK _ _ (Qa (kp3 Z Z Z) ?_)))))
 refine QA Z (fun h1 => ?_) (fun h1 => ?_)
 ·try rw [h1]
  try simp only [qA] at h1
  refine Qx (Qf (kp2 Z Z) ?_)
  refine QH ?_ -- 2
  refine QM (Qe fun K hK => Qb Z (Qb Z (Q3 Z Z Z (by omega) (ZT (by omega)) Z (QG (ds0 := [20, 19, 18, 17, 16, 15, 14, 13, 12, 11, 10, 9, 8, 7, 6, 5, 4, 3, 2, 1, 0]) (cs := [_, _, _, _, _, _, _, _, _, _, _, _, _, _]) Z Z Z Z Z Z (QU (ds0 := [19, 18, 17, 16, 15, 14, 13, 12, 11, 10, 9, 8, 7, 6, 5, 4, 3, 2, 1, 0]) (YB (hl.at (i := i) (by omega)).1.1 (hl.at (i := i) (by omega)).1.2 (hl.at (i := i) (by omega)).2.1 (hl.at (i := i) (by omega)).2.2) Z Z (.inr Z) Z Z (ZM Z (Qb Z ?_)))))))
  refine Qv (g := 16) Z (fun h2 => ?_) (fun h2 => ?_)
  ·try rw [h2]
   try simp only [qA] at h2
   refine Qr Z (Qr Z (Qr Z (QI Z (QI Z (QI Z (QI Z (QI Z (QI Z (QI Z (QI Z (QI Z ?_)))))))))))
   refine QI Z (QI Z (QI Z (QI Z (Qr Z (Qi Z Z (hK _ _ (Qa (kp3 Z Z Z) ?_)))))))
   refine Zj Z (Qe fun K hK => Qb Z (hK _ _ (Qa (kp1 Z) ?_)))
   refine Qq (Qw (Qk (Q8 (Qw (Qk (Qm Z ?_))))))
   first
    | exact (Qcj hI.2 (by omega)).symm
    | exact (Xa (i := i) (by omega) (Qby (by omega) (.inl h2))).symm
    | (simp only [XK] at *; exact (Xa (i := i) (by omega) (Qby (by omega) (.inr ⟨by omega, h4⟩))).symm)
  ·try rw [h2]
   try simp only [qA] at h2
   refine Qg Z (Qb Z (Qg Z (QdH Z Z (Qg Z (Qb Z ?_)))))
   refine Qv (g := 19) Z (fun h3 => ?_) (fun h3 => ?_)
   ·try rw [h3]
    try simp only [qA] at h3
    refine Qg Z (Qb Z (Qg Z (Qb Z (Qg Z (Qc1 Z Z (by first | exact Qu (by omega) (by omega) | rfl) (Qg Z (Q3 Z Z Z (by omega) (Yj (by omega) (by omega)) Z (Qg Z (ZW Z Z (Qg Z (QG (ds0 := [3, 2, 1, 0]) (cs := [_, _, _, _, _, _, _]) Z Z Z Z Z Z ?_)))))))))))
    refine Qg Z (Qb Z (Qg Z (Qb Z (Qg Z (Q3 Z Z Z (by omega) (ZT (by omega)) Z (Qg Z (ZW Z Z (Qg Z (QG (ds0 := [3, 2, 1, 0]) (cs := [_, _, _, _, _, _, _]) Z Z Z Z Z Z (Qg Z (QU (ds0 := [2, 1, 0]) (Zu (hl.at (i := ((i : Int) - 1).toNat) (by omega)).2.1 (hl.at (i := ((i : Int) - 1).toNat) (by omega)).2.2 (hl.at (i := i) (by omega)).1.1 (hl.at (i := i) (by omega)).1.2) Z Z (.inr Z) Z Z ?_)))))))))))
    refine Qg Z (Qiy Z Z (Qg Z (Qi Z Z (Qi Z Z (hK _ _ (Qa (kp3 Z Z Z) ?_))))))
    refine QA Z (fun h4 => ?_) (fun h4 => ?_)
    ·try rw [h4]
     try simp only [qA] at h4
     refine Qe fun K hK => Qb Z (hK _ _ (Qa (kp1 Z) ?_))
     refine Qq (Qw (Qk (Q8 (Qw (Qk (Qm Z ?_))))))
     first
      | exact (Qcj hI.2 (by omega)).symm
      | exact (Xa (i := i) (by omega) (Qby (by omega) (.inl h2))).symm
      | (simp only [XK] at *; exact (Xa (i := i) (by omega) (Qby (by omega) (.inr ⟨by omega, h4⟩))).symm)
    ·try rw [h4]
     try simp only [qA] at h4
     refine Qx (Ql (Qf (kp2 Z Z) (Ze fun K hK => Qb Z (Zi Z Z (by first | exact Qu (by omega) (by omega) | rfl) (Qb Z (hK _ ?_))))))
     refine Qo (i + 1) ?_ ?_ ?_
     ·exact Za (kp2 rfl rfl)
     ·exact ⟨by omega, QeD hI.2 (QjS (by omega) h2 (by first | exact .inl (by omega) | (simp only [XK] at *; exact .inr (Int.not_le.1 h4))))⟩
     ·first | omega | (simp only; omega) | (dsimp only; omega)
   ·try rw [h3]
    try simp only [qA] at h3
    refine Qr Z (Qr Z (Qr Z (Qr Z (Qr Z (Qr Z (Qr Z (Qr Z (Qr Z (Qr Z (Qr Z (Qr Z ?_)))))))))))
    refine Qr Z (Qg Z (Qi Z Z (Qi Z Z (hK _ _ (Qa (kp3 Z Z Z) ?_)))))
    refine ZD Z (Qx (Ql (Qf (kp2 Z Z) (Ze fun K hK => Qb Z (Zi Z Z (by first | exact Qu (by omega) (by omega) | rfl) (Qb Z (hK _ ?_)))))))
    refine Qo (i + 1) ?_ ?_ ?_
    ·exact Za (kp2 rfl rfl)
    ·exact ⟨by omega, QeD hI.2 (QjS (by omega) h2 (by first | exact .inl (by omega) | (simp only [XK] at *; exact .inr (Int.not_le.1 h4))))⟩
    ·first | omega | (simp only; omega) | (dsimp only; omega)
 ·try rw [h1]
  try simp only [qA] at h1
  refine ZA (QR (QD (QK (Qf (QX) (Qe fun K hK => Qb Z (hK _ _ (Qa (kp1 Z) ?_)))))))
  refine Qq (Qm Z ?_)
  first
   | exact (Qcj hI.2 (by omega)).symm
   | exact (Xa (i := i) (by omega) (Qby (by omega) (.inl h2))).symm
   | (simp only [XK] at *; exact (Xa (i := i) (by omega) (Qby (by omega) (.inr ⟨by omega, h4⟩))).symm)
theorem QaU {l : List (Cu × Cu)} (hl : Sm l) {x y : Cu} (hx : Cu.sm x) (hy : Cu.sm y) : Ok Tryd.prog 69 [Q5 l, .agg (dCu x), .agg (dCu y)] (.bool (mIn l x y)) := by
 refine Ok.ofT Z3 Tryd.func69 Qq9 (Nat.le_of_ble_eq_true Z) ?_
 show TW _ _ tf69.body _ _
 have hn := hl.1
 refine Qe fun K hK => ZI Z Z Z (ZI Z Z Z (Qb Z (hK _ _ (Qa (kp3 Z Z Z) ?_))))
 refine QH ?_ -- 0
 refine Qe fun K hK => Qb Z (hK _ _ (Qa (kp4 Z Z Z Z) ?_))
 refine QM ?_
 refine Z8 (ι := Nat) (fun i => ⟨[(0, Q5 l), (4, .ref 4 0 0), (5, .ref 5 0 0), (7, .int .i64 i)], [(4, ⟨[dCu x], 7, 90, true⟩), (5, ⟨[dCu y], 7, 90, true⟩)]⟩) (fun i => i <= l.length /\ (l.take i).any (inC x y) = false) (fun i => l.length - i) 0 ?_ ?_ ?_
 ·exact Zx (l := [0, 4, 5, 7]) (lH := [4, 5]) (kp4 rfl rfl rfl rfl) (Qz rfl (Qz rfl QC)) rfl rfl rfl
 ·exact ⟨Nat.zero_le _, by simp⟩
 intro i hI
 try dsimp only
 refine QH ?_ -- 1
 refine Qe fun K hK => Qb Z (Qb Z (ZF Z Z (YH Z Z (hK _ _ (Qa (kp5 Z Z Z Z Z) ?_)))))
 refine QA Z (fun h1 => ?_) (fun h1 => ?_)
 ·try rw [h1]
  try simp only [qA] at h1
  refine Qx (Qf (kp4 Z Z Z Z) ?_)
  refine QH ?_ -- 2
  refine QM (Qe fun K hK => Qb Z (Qb Z (Q3 Z Z Z (by omega) (ZT (by omega)) Z (ZW Z Z (QG (ds0 := [11, 10, 9, 8, 7, 6, 5, 4, 3, 2, 1, 0]) (cs := [_, _, _, _, _, _, _]) Z Z Z Z Z Z (QG (ds0 := [11, 10, 9, 8, 7, 6, 5, 4, 3, 2, 1, 0]) (cs := [_, _, _, _, _, _, _]) Z Z Z Z Z Z (QU (ds0 := [10, 9, 8, 7, 6, 5, 4, 3, 2, 1, 0]) (Zu (hl.at (i := i) (by omega)).1.1 (hl.at (i := i) (by omega)).1.2 hx.1 hx.2) Z Z (.inr Z) Z Z (QlY Z Z (Qb Z ?_)))))))))
  refine Qv (g := 22) Z (fun h2 => ?_) (fun h2 => ?_)
  ·try rw [h2]
   try simp only [qA] at h2
   refine Qg Z (QG (ds0 := [2, 1, 0]) (cs := [_, _, _, _, _, _, _]) Z Z Z Z Z Z (Qg Z (Qb Z (Qg Z (Qb Z (Qg Z (Q3 Z Z Z (by omega) (ZT (by omega)) Z (Qg Z (ZW Z Z (Qg Z (QG (ds0 := [2, 1, 0]) (cs := [_, _, _, _, _, _, _]) Z Z Z Z Z Z ?_)))))))))))
   refine Qg Z (QU (ds0 := [1, 0]) (Zu hy.1 hy.2 (hl.at (i := i) (by omega)).2.1 (hl.at (i := i) (by omega)).2.2) Z Z (.inr Z) Z Z (Qg Z (QlY Z Z (Qi Z Z (hK _ _ (Qa (kp5 Z Z Z Z Z) ?_))))))
   refine QA Z (fun h3 => ?_) (fun h3 => ?_)
   ·try rw [h3]
    try simp only [qA] at h3
    refine Qe fun K hK => Qb Z (hK _ _ (Qa (kp1 Z) ?_))
    refine Qq (Qw (Qk (Q8 (Qw (Qk (Qm Z ?_))))))
    first
     | exact (QmU (i := i) (by omega) hI.2).symm
     | exact (QkE (i := i) (by omega) (QoY h2 h3)).symm
   ·try rw [h3]
    try simp only [qA] at h3
    refine Qx (Ql (Qf (kp4 Z Z Z Z) (Ze fun K hK => Qb Z (Zi Z Z (by first | exact Qu (by omega) (by omega) | rfl) (Qb Z (hK _ ?_))))))
    refine Qo (i + 1) ?_ ?_ ?_
    ·exact Zx (l := [0, 4, 5, 7]) (lH := [4, 5]) (kp4 rfl rfl rfl rfl) (Qz rfl (Qz rfl QC)) rfl rfl rfl
    ·exact ⟨by omega, Qjl (by omega) hI.2 (QoX (by first | exact .inl h2 | exact .inr h3))⟩
    ·first | omega | (simp only; omega) | (dsimp only; omega)
  ·try rw [h2]
   try simp only [qA] at h2
   refine Qr Z (Qr Z (Qr Z (Qr Z (Qr Z (Qr Z (Qr Z (Qr Z (Qi Z Z (hK _ _ (Qa (kp5 Z Z Z Z Z) ?_))))))))))
   refine ZD Z (Qx (Ql (Qf (kp4 Z Z Z Z) (Ze fun K hK => Qb Z (Zi Z Z (by first | exact Qu (by omega) (by omega) | rfl) (Qb Z (hK _ ?_)))))))
   refine Qo (i + 1) ?_ ?_ ?_
   ·exact Zx (l := [0, 4, 5, 7]) (lH := [4, 5]) (kp4 rfl rfl rfl rfl) (Qz rfl (Qz rfl QC)) rfl rfl rfl
   ·exact ⟨by omega, Qjl (by omega) hI.2 (QoX (by first | exact .inl h2 | exact .inr h3))⟩
   ·first | omega | (simp only; omega) | (dsimp only; omega)
 ·try rw [h1]
  try simp only [qA] at h1
  refine ZA (QR (QD (QK (Qf (QX) (Qe fun K hK => Qb Z (hK _ _ (Qa (kp1 Z) ?_)))))))
  refine Qq (Qm Z ?_)
  first
   | exact (QmU (i := i) (by omega) hI.2).symm
   | exact (QkE (i := i) (by omega) (QoY h2 h3)).symm
end Go.Proofs
namespace Go.Proofs
open Go Go.Abs M3 M25
set_option linter.unusedVariables false
set_option linter.unusedSimpArgs false
theorem Qat {l : List (Cu × Cu)} (hl : Sm l) {a b c : Int} {p q : List UInt8} (hp : p.length <= 1000000) (hq : q.length <= 1000000) : Ok Tryd.prog 47 [Q5 l, .agg [.int .i64 a, .int .i64 b, .int .i64 c, .str p, .str q]] (.bool (QfN l a b c p q)) := by
 refine Ok.ofT Z3 Tryd.func47 QqP (Nat.le_of_ble_eq_true Z) ?_
 show TW _ _ tf47.body _ _
 have hn := hl.1
 refine Qe fun K hK => ZI Z Z Z (Qb Z (hK _ _ (Qa (kp2 Z Z) ?_)))
 refine QH ?_ -- 0
 refine Qe fun K hK => Qb Z (hK _ _ (Qa (kp3 Z Z Z) ?_))
 refine QM ?_
 refine Z8 (ι := Nat) (fun i => ⟨[(0, Q5 l), (3, .ref 3 0 0), (5, .int .i64 i)], [(3, ⟨[[.int .i64 a, .int .i64 b, .int .i64 c, .str p, .str q]], 5, 49, true⟩)]⟩) (fun i => i <= l.length /\ (l.take i).any (fun s => Qfl s a b c p q) = false) (fun i => l.length - i) 0 ?_ ?_ ?_
 ·exact Zx (l := [0, 3, 5]) (lH := [3]) (kp3 rfl rfl rfl) (Qz rfl QC) rfl rfl rfl
 ·exact ⟨Nat.zero_le _, by simp⟩
 intro i hI
 try dsimp only
 refine QH ?_ -- 1
 refine Qe fun K hK => Qb Z (Qb Z (ZF Z Z (YH Z Z (Qb Z ?_))))
 refine Qv (g := 10) Z (fun h1 => ?_) (fun h1 => ?_)
 ·try rw [h1]
  try simp only [qA] at h1
  refine Qg Z (Qb Z (Qg Z (Qy (ZX hl) Z Z (.inr Z) (Qi Z Z (hK _ _ (Qa (kp4 Z Z Z Z) ?_))))))
  refine QA Z (fun h2 => ?_) (fun h2 => ?_)
  ·try rw [h2]
   try simp only [qA] at h2
   refine Qx (Qf (kp3 Z Z Z) ?_)
   refine QH ?_ -- 2
   refine QM (Qe fun K hK => Qb Z (Qb Z (Q3 Z Z Z (by omega) (ZT (by omega)) Z (QG (ds0 := [0]) (cs := [_, _, _, _, _, _, _, _, _, _, _, _, _, _]) Z Z Z Z Z Z (QG (ds0 := [0]) (cs := [_, _, _, _, _]) Z Z Z Z Z Z (QU (ds0 := []) (Qcs (hl.at (i := i) (by omega)).1.1 (hl.at (i := i) (by omega)).1.2 (hl.at (i := i) (by omega)).2.1 (hl.at (i := i) (by omega)).2.2 hp hq) Z Z (.inr Z) Z Z (hK _ _ (Qa (kp4 Z Z Z Z) ?_))))))))
   refine QA Z (fun h3 => ?_) (fun h3 => ?_)
   ·try rw [h3]
    try simp only [qA] at h3
    refine Qe fun K hK => Qb Z (hK _ _ (Qa (kp1 Z) ?_))
    refine Qq (Qw (Qk (Q8 (Qw (Qk (Qm Z ?_))))))
    first
     | exact (Qcc (i := i) (by omega) hI.2).symm
     | exact (Qcd h2).symm
     | exact (Qce h2 (i := i) (by omega) h3).symm
   ·try rw [h3]
    try simp only [qA] at h3
    refine Qx (Ql (Qf (kp3 Z Z Z) (Ze fun K hK => Qb Z (Zi Z Z (by first | exact Qu (by omega) (by omega) | rfl) (Qb Z (hK _ ?_))))))
    refine Qo (i + 1) ?_ ?_ ?_
    ·exact Zx (l := [0, 3, 5]) (lH := [3]) (kp3 rfl rfl rfl) (Qz rfl QC) rfl rfl rfl
    ·exact ⟨by omega, Qjl (by omega) hI.2 h3⟩
    ·first | omega | (simp only; omega) | (dsimp only; omega)
  ·try rw [h2]
   try simp only [qA] at h2
   refine ZA (QR (QD (QK (Qf (QX) (Qe fun K hK => Qb Z (hK _ _ (Qa (kp1 Z) ?_)))))))
   refine Qq (Qm Z ?_)
   first
    | exact (Qcc (i := i) (by omega) hI.2).symm
    | exact (Qcd h2).symm
    | exact (Qce h2 (i := i) (by omega) h3).symm
 ·try rw [h1]
  try simp only [qA] at h1
  refine Qr Z (Qr Z (Qi Z Z (hK _ _ (Qa (kp4 Z Z Z Z) ?_))))
  refine ZD Z (ZA (QR (QD (QK (Qf (QX) (Qe fun K hK => Qb Z (hK _ _ (Qa (kp1 Z) ?_))))))))
  refine Qq (Qm Z ?_)
  first
   | exact (Qcc (i := i) (by omega) hI.2).symm
   | exact (Qcd h2).symm
   | exact (Qce h2 (i := i) (by omega) h3).symm
theorem YC {s : List (Cu × Cu) × List (Cu × Cu)} (h1s : Sm s.1) (h2s : Sm s.2) : Ok Tryd.prog 45 [Qdi s] (.bool (QcQ s)) := by
 refine Ok.ofT Z3 Tryd.func45 QqN (Nat.le_of_ble_eq_true Z) ?_
 show TW _ _ tf45.body _ _
 have hn := h1s.1
 refine Qe fun K hK => ZI Z Z Z (Qb Z (hK _ _ (Qa (kp1 Z) ?_)))
 refine QH ?_ -- 0
 refine Qe fun K hK => Qh Z Z (QF Z Z Z (Qy (ZX h1s) Z Z (.inr Z) (ZM Z (Qb Z ?_))))
 refine Qv (g := 8) Z (fun h1 => ?_) (fun h1 => ?_)
 ·try rw [h1]
  try simp only [qA] at h1
  refine Qr Z (Qr Z (Qr Z (Qr Z (Qi Z Z (hK _ _ (Qa (kp2 Z Z) ?_))))))
  refine Zj Z (Qe fun K hK => Qb Z (hK _ _ (Qa (kp1 Z) ?_)))
  refine Qq (Qk (Qm Z ?_))
  first
   | exact (Qdx (i := i) h1 h2 (by omega) hI.2).symm
   | exact (Qal (i := i) (by omega) (.inl h4)).symm
   | exact (Qal (i := i) (by omega) (.inr h5)).symm
   | exact (QaO (.inl h1)).symm
   | exact (QaO (.inr h2)).symm
 ·try rw [h1]
  try simp only [qA] at h1
  refine Qg Z (Qh Z Z (Qg Z (QF Z Z Z (Qg Z (Qy (ZX h2s) Z Z (.inr Z) (Qg Z (ZM Z (Qi Z Z (hK _ _ (Qa (kp2 Z Z) ?_))))))))))
  refine QA Z (fun h2 => ?_) (fun h2 => ?_)
  ·try rw [h2]
   try simp only [qA] at h2
   refine Qe fun K hK => Qb Z (hK _ _ (Qa (kp1 Z) ?_))
   refine Qq (Qk (Qm Z ?_))
   first
    | exact (Qdx (i := i) h1 h2 (by omega) hI.2).symm
    | exact (Qal (i := i) (by omega) (.inl h4)).symm
    | exact (Qal (i := i) (by omega) (.inr h5)).symm
    | exact (QaO (.inl h1)).symm
    | exact (QaO (.inr h2)).symm
  ·try rw [h2]
   try simp only [qA] at h2
   refine Qx (Qf (kp1 Z) ?_)
   refine QH ?_ -- 1
   refine Qe fun K hK => Qb Z (hK _ _ (Qa (kp2 Z Z) ?_))
   refine QM ?_
   refine Z8 (ι := Nat) (fun i => ⟨[(1, .ref 1 0 0), (3, .int .i64 i)], [(1, ⟨[[Q5 s.1, Q5 s.2]], 2, 30, true⟩)]⟩) (fun i => i <= s.1.length /\ (s.1.take i).all (fun x => Xi x.1 && Xi x.2) = true) (fun i => s.1.length - i) 0 ?_ ?_ ?_
   ·exact Zx (l := [1, 3]) (lH := [1]) (kp2 rfl rfl) (Qz rfl QC) rfl rfl rfl
   ·exact ⟨Nat.zero_le _, by simp⟩
   intro i hI
   try dsimp only
   refine QH ?_ -- 2
   refine Qe fun K hK => Qb Z (Qh Z Z (QF Z Z Z (ZF Z Z (YH Z Z (hK _ _ (Qa (kp3 Z Z Z) ?_))))))
   refine QA Z (fun h3 => ?_) (fun h3 => ?_)
   ·try rw [h3]
    try simp only [qA] at h3
    refine Qx (Qf (kp2 Z Z) ?_)
    refine QH ?_ -- 3
    refine QM (Qe fun K hK => Qh Z Z (QF Z Z Z (Qb Z (Q3 Z Z Z (by omega) (ZT (by omega)) Z (ZW Z Z (QE (cs := [_, _, _, _, _, _, _]) Z Z Z Z (Qy (XX) Z Z (.inr Z) (ZM Z (Qb Z ?_)))))))))
    refine Qv (g := 29) Z (fun h4 => ?_) (fun h4 => ?_)
    ·try rw [h4]
     try simp only [qA] at h4
     refine Qr Z (Qr Z (Qr Z (Qr Z (Qr Z (Qr Z (Qr Z (Qr Z (Qi Z Z (hK _ _ (Qa (kp3 Z Z Z) ?_))))))))))
     refine Zj Z (Qe fun K hK => Qb Z (hK _ _ (Qa (kp1 Z) ?_)))
     refine Qq (Qw (Qk (Q8 (Qw (Qk (Qm Z ?_))))))
     first
      | exact (Qdx (i := i) h1 h2 (by omega) hI.2).symm
      | exact (Qal (i := i) (by omega) (.inl h4)).symm
      | exact (Qal (i := i) (by omega) (.inr h5)).symm
      | exact (QaO (.inl h1)).symm
      | exact (QaO (.inr h2)).symm
    ·try rw [h4]
     try simp only [qA] at h4
     refine Qg Z (Qh Z Z (Qg Z (QF Z Z Z (Qg Z (Qb Z (Qg Z (Q3 Z Z Z (by omega) (ZT (by omega)) Z (Qg Z (ZW Z Z (Qg Z (QE (cs := [_, _, _, _, _, _, _]) Z Z Z Z ?_)))))))))))
     refine Qg Z (Qy (XX) Z Z (.inr Z) (Qg Z (ZM Z (Qi Z Z (hK _ _ (Qa (kp3 Z Z Z) ?_))))))
     refine QA Z (fun h5 => ?_) (fun h5 => ?_)
     ·try rw [h5]
      try simp only [qA] at h5
      refine Qe fun K hK => Qb Z (hK _ _ (Qa (kp1 Z) ?_))
      refine Qq (Qw (Qk (Q8 (Qw (Qk (Qm Z ?_))))))
      first
       | exact (Qdx (i := i) h1 h2 (by omega) hI.2).symm
       | exact (Qal (i := i) (by omega) (.inl h4)).symm
       | exact (Qal (i := i) (by omega) (.inr h5)).symm
       | exact (QaO (.inl h1)).symm
       | exact (QaO (.inr h2)).symm
     ·try rw [h5]
      try simp only [qA] at h5
      refine Qx (Ql (Qf (kp2 Z Z) (Ze fun K hK => Qb Z (Zi Z Z (by first | exact Qu (by omega) (by omega) | rfl) (Qb Z (hK _ ?_))))))
      refine Qo (i + 1) ?_ ?_ ?_
      ·exact Zx (l := [1, 3]) (lH := [1]) (kp2 rfl rfl) (Qz rfl QC) rfl rfl rfl
      ·exact ⟨by omega, Zg (by omega) hI.2 (by rw [show Xi s.1[i].1 = true from h4, show Xi s.1[i].2 = true from h5]; rfl)⟩
      ·first | omega | (simp only; omega) | (dsimp only; omega)
   ·try rw [h3]
    try simp only [qA] at h3
    refine ZA (QR (QD (QK (Qf (QX) (Qe fun K hK => Qb Z (hK _ _ (Qa (kp1 Z) ?_)))))))
    refine Qq (Qm Z ?_)
    first
     | exact (Qdx (i := i) h1 h2 (by omega) hI.2).symm
     | exact (Qal (i := i) (by omega) (.inl h4)).symm
     | exact (Qal (i := i) (by omega) (.inr h5)).symm
     | exact (QaO (.inl h1)).symm
     | exact (QaO (.inr h2)).symm
theorem Qdc {s : List (Cu × Cu) × List (Cu × Cu)} (h1s : Sm s.1) (h2s : Sm s.2) {a b c : Int} {p q : List UInt8} (hp : p.length <= 1000000) (hq : q.length <= 1000000) : Ok Tryd.prog 25 [Qdi s, .agg [.int .i64 a, .int .i64 b, .int .i64 c, .str p, .str q]] (.bool (Qfk s a b c p q)) := by
 refine Ok.ofT Z3 Tryd.func25 Qqz (Nat.le_of_ble_eq_true Z) ?_
 show TW _ _ tf25.body _ _
 refine Qe fun K hK => ZI Z Z Z (ZI Z Z Z (Qb Z (hK _ _ (Qa (kp2 Z Z) ?_))))
 refine QH ?_ -- 0
 refine Qe fun K hK => QE (cs := [_, _]) Z Z Z Z (Qy (YC h1s h2s) Z Z (.inr Z) (ZM Z (Qb Z ?_)))
 refine Qv (g := 8) Z (fun h1 => ?_) (fun h1 => ?_)
 ·try rw [h1]
  try simp only [qB] at h1
  refine Qr Z (Qr Z (Qr Z (Qi Z Z (hK _ _ (Qa (kp3 Z Z Z) ?_)))))
  refine Zj Z (Qe fun K hK => Qb Z (hK _ _ (Qa (kp1 Z) ?_)))
  refine Qq (Qk (Qm Z ?_))
  (repeat clear hK K); simp_all [Qfk]
 ·try rw [h1]
  try simp only [qB] at h1
  refine Qg Z (QE (cs := [_, _, _, _, _]) Z Z Z Z (Qg Z (Qy (Q9 hp hq) Z Z (.inr Z) (Qg Z (ZM Z (Qi Z Z (hK _ _ (Qa (kp3 Z Z Z) ?_))))))))
  refine QA Z (fun h2 => ?_) (fun h2 => ?_)
  ·try rw [h2]
   try simp only [qB] at h2
   refine Qe fun K hK => Qb Z (hK _ _ (Qa (kp1 Z) ?_))
   refine Qq (Qk (Qm Z ?_))
   (repeat clear hK K); simp_all [Qfk]
  ·try rw [h2]
   try simp only [qB] at h2
   refine Qx (Qf (kp2 Z Z) ?_)
   refine QH ?_ -- 1
   refine Qe fun K hK => Qh Z Z (QF Z Z Z (QbD Z Z (hK _ _ (Qa (kp3 Z Z Z) ?_))))
   refine QA Z (fun h3 => ?_) (fun h3 => ?_)
   ·try rw [h3]
    try simp only [qB] at h3
    refine Qe fun K hK => Qh Z Z (QF Z Z Z (QE (cs := [_, _, _, _, _]) Z Z Z Z (Qy (Qat h1s hp hq) Z Z (.inr Z) (Qb Z (hK _ _ (Qa (kp1 Z) ?_))))))
    refine Qq (Qk (Qm Z ?_))
    (repeat clear hK K); simp_all [Qfk]
   ·try rw [h3]
    try simp only [qB] at h3
    refine Qx (Qf (kp2 Z Z) (Qe fun K hK => Qh Z Z (QF Z Z Z (QE (cs := [_, _, _, _, _]) Z Z Z Z (Qy (Qat h2s hp hq) Z Z (.inr Z) (Qb Z (hK _ _ (Qa (kp1 Z) ?_))))))))
    refine Qq (Qm Z ?_)
    (repeat clear hK K); simp_all [Qfk]
end Go.Proofs
namespace Go.Proofs
open Go Go.Abs M3 M25
set_option linter.unusedVariables false
set_option linter.unusedSimpArgs false
theorem Qav {l : List Cu} {c : Cu} (hl : l.length <= 3000000) (hs : ∀ x ∈ l, Cu.sm x) (hc : Cu.sm c) : Ok Tryd.prog 90 [QgB l, .agg (dCu c)] (QgB (QbV l c)) := by
 refine Ok.ofT Z3 Tryd.func90 Qru (Nat.le_of_ble_eq_true Z) ?_
 show TW _ _ tf90.body _ _
 refine Qe fun K hK => ZI Z Z Z (Qb Z (hK _ _ (Qa (kp2 Z Z) ?_)))
 refine Qe fun K hK => Qb Z (hK _ _ (Qa (kp3 Z Z Z) ?_))
 refine QH ?_ -- 0
 refine QM ?_
 refine Z8 (ι := Nat) (fun k => ⟨[(0, QgB l), (3, .ref 3 0 0), (5, .int .i64 k)], [(3, ⟨[dCu c], 7, 90, true⟩)]⟩) (fun k => k <= l.length /\ QbV l c = l.take k ++ QbV (l.drop k) c) (fun k => l.length - k) 0 ?_ ?_ ?_
 ·exact Zx (l := [0, 3, 5]) (lH := [3]) (kp3 rfl rfl rfl) (Qz rfl QC) rfl rfl rfl
 ·exact ⟨Nat.zero_le _, by simp⟩
 intro k hI
 try dsimp only
 refine QH ?_ -- 1
 refine Qe fun K hK => Qb Z (Qb Z (ZF Z Z (YH Z Z (Qb Z ?_))))
 refine Qv (g := 10) Z (fun h1 => ?_) (fun h1 => ?_)
 ·try rw [h1]
  try simp only [qA] at h1
  refine Qg Z (Qb Z (Qg Z (Qb Z (Qg Z (Q3 Z Z Z (by omega) (ZT (by omega)) Z (Qg Z (QG (ds0 := [2, 1, 0]) (cs := [_, _, _, _, _, _, _]) Z Z Z Z Z Z (Qg Z (QG (ds0 := [2, 1, 0]) (cs := [_, _, _, _, _, _, _]) Z Z Z Z Z Z (Qg Z (QU (ds0 := [1, 0]) (Zu (hs _ (List.getElem_mem (by omega))).1 (hs _ (List.getElem_mem (by omega))).2 hc.1 hc.2) Z Z (.inr Z) Z Z ?_)))))))))))
  refine Qg Z (YH Z Z (Qi Z Z (hK _ _ (Qa (kp4 Z Z Z Z) ?_))))
  refine QA Z (fun h2 => ?_) (fun h2 => ?_)
  ·try rw [h2]
   try simp only [qA] at h2
   refine Qx (Qf (kp3 Z Z Z) (QM (Ze fun K hK => Qb Z (Zi Z Z (by first | exact Qu (by omega) (by omega) | rfl) (Qb Z (hK _ ?_))))))
   refine Ql ?_
   refine Qo (k + 1) ?_ ?_ ?_
   ·exact Zx (l := [0, 3, 5]) (lH := [3]) (kp3 rfl rfl rfl) (Qz rfl QC) rfl rfl rfl
   ·exact ⟨by omega, Qlp (by omega) h2 hI.2⟩
   ·first | omega | (simp only; omega) | (dsimp only; omega)
  ·try rw [h2]
   try simp only [qA] at h2
   refine ZA (QR (QD (QK (Qf (kp3 Z Z Z) ?_))))
   refine QH ?_ -- 2
   refine Qe fun K hK => Qb Z (Qb Z (ZF Z Z (YH Z Z (Qb Z ?_))))
   refine Qv (g := 25) Z (fun h3 => ?_) (fun h3 => ?_)
   ·try rw [h3]
    try simp only [qA] at h3
    refine Qg Z (Qb Z (Qg Z (Qb Z (Qg Z (Q3 Z Z Z (by omega) (ZT (by omega)) Z (Qg Z (QG (ds0 := [2, 1, 0]) (cs := [_, _, _, _, _, _, _]) Z Z Z Z Z Z (Qg Z (QG (ds0 := [2, 1, 0]) (cs := [_, _, _, _, _, _, _]) Z Z Z Z Z Z (Qg Z (QU (ds0 := [1, 0]) (Zu (hs _ (List.getElem_mem (by omega))).1 (hs _ (List.getElem_mem (by omega))).2 hc.1 hc.2) Z Z (.inr Z) Z Z ?_)))))))))))
    refine Qg Z (Yd Z Z (Qi Z Z (hK _ _ (Qa (kp4 Z Z Z Z) ?_))))
    refine QA Z (fun h4 => ?_) (fun h4 => ?_)
    ·try rw [h4]
     try simp only [qA] at h4
     refine Qe fun K hK => Qb Z (Qb Z (hK _ _ (Qa (kp1 Z) ?_)))
     refine Qq (Qk (Yf Z ?_))
     rw [Qlo (k := k) (by omega) (by assumption) hI.2]; rfl
    ·try rw [h4]
     try simp only [qA] at h4
     refine Qx (Qf (kp3 Z Z Z) (Qe fun K hK => Qb Z (Qb Z (Qgs Z Z Z Z (by omega) (by omega) (by simp; omega) Qie Z (Qiv (ds0 := [5, 1, 0]) Z Z (fun _ h => ⟨QmI, h⟩) Z (.inl Z) (by simp) (by simp; omega) (by simp; omega) Z Z (QG (ds0 := [6, 5, 1, 0]) (cs := [_, _, _, _, _, _, _]) Z Z Z Z Z Z (QP Z Z (QeM (ds0 := [1, 0]) Z Z (by simp [D.ids, D.sid]) ⟨_, rfl, rfl, rfl, rfl, rfl⟩ Z Z (by simp) Z Z (by simp; omega) (by simp; omega) Z Z (Qb Z (Qb Z ?_))))))))))
     refine Qgs Z Z Z Z (by omega) (by simp; omega) (by simp) Qie Z (QeM (ds0 := [0]) Z Z (by simp [D.ids, D.sid]) ⟨rfl, QmI, rfl⟩ Z Z (by simp) Z Z (by simp; omega) (by simp; omega) Z Z (Qb Z (hK _ _ (Qa (kp1 Z) ?_))))
     refine Qq (Yf Z ?_)
     rw [QjN (k := k) (by first | exact .inl (by omega) | exact .inr ⟨by omega, by assumption, by assumption⟩) hI.2]; simp [QaF, D.fz, D.fzS, QdK, lk, D.can, D.canS, QgB, D.sid, (show ∀ a b : Nat, a + 1 + b = a + (b + 1) from fun a b => by omega), List.take_of_length_le (show (l.map dCu).length <= l.length by simp)] <;> rfl
   ·try rw [h3]
    try simp only [qA] at h3
    exact absurd h1 h3
 ·try rw [h1]
  try simp only [qA] at h1
  refine Qr Z (Qr Z (Qr Z (Qr Z (Qr Z (Qr Z (Qr Z (Qi Z Z (hK _ _ (Qa (kp4 Z Z Z Z) ?_)))))))))
  refine ZD Z (ZA (QR (QD (QK (Qf (kp3 Z Z Z) ?_)))))
  refine QH ?_ -- 2
  refine Qe fun K hK => Qb Z (Qb Z (ZF Z Z (YH Z Z (Qb Z ?_))))
  refine Qv (g := 25) Z (fun h5 => ?_) (fun h5 => ?_)
  ·try rw [h5]
   try simp only [qA] at h5
   exact absurd h5 h1
  ·try rw [h5]
   try simp only [qA] at h5
   refine Qr Z (Qr Z (Qr Z (Qr Z (Qr Z (Qr Z (Qr Z (Qi Z Z (hK _ _ (Qa (kp4 Z Z Z Z) ?_)))))))))
   refine ZD Z (Qx (Qf (kp3 Z Z Z) (Qe fun K hK => Qb Z (Qb Z (Qgs Z Z Z Z (by omega) (by omega) (by simp; omega) Qie Z (Qiv (ds0 := [5, 1, 0]) Z Z (fun _ h => ⟨QmI, h⟩) Z (.inl Z) (by simp) (by simp; omega) (by simp; omega) Z Z (QG (ds0 := [6, 5, 1, 0]) (cs := [_, _, _, _, _, _, _]) Z Z Z Z Z Z (QP Z Z (QeM (ds0 := [1, 0]) Z Z (by simp [D.ids, D.sid]) ⟨_, rfl, rfl, rfl, rfl, rfl⟩ Z Z (by simp) Z Z (by simp; omega) (by simp; omega) Z Z (Qb Z ?_))))))))))
   refine Qb Z (Qgs Z Z Z Z (by omega) (by simp; omega) (by simp) Qie Z (QeM (ds0 := [0]) Z Z (by simp [D.ids, D.sid]) ⟨rfl, QmI, rfl⟩ Z Z (by simp) Z Z (by simp; omega) (by simp; omega) Z Z (Qb Z (hK _ _ (Qa (kp1 Z) ?_)))))
   refine Qq (Yf Z ?_)
   rw [QjN (k := k) (by first | exact .inl (by omega) | exact .inr ⟨by omega, by assumption, by assumption⟩) hI.2]; simp [QaF, D.fz, D.fzS, QdK, lk, D.can, D.canS, QgB, D.sid, (show ∀ a b : Nat, a + 1 + b = a + (b + 1) from fun a b => by omega), List.take_of_length_le (show (l.map dCu).length <= l.length by simp)] <;> rfl
theorem Qae {l : List (Cu × Cu)} (hl : Sm l) : Ok Tryd.prog 68 [Q5 l] (QgB (YU l)) := by
 refine Ok.ofT Z3 Tryd.func68 Qq8 (Nat.le_of_ble_eq_true Z) ?_
 show TW _ _ tf68.body _ _
 have hn := hl.1
 refine Qe fun K hK => Qb Z (hK _ _ (Qa (kp1 Z) ?_))
 refine Qe fun K hK => Qy (Y2) Z Z (.inl Z) (Qy (Xd) Z Z (.inl Z) (QP Z Z (Qb Z (hK _ _ (Qa (kp2 Z Z) ?_)))))
 refine QH ?_ -- 0
 refine Qe fun K hK => Qb Z (hK _ _ (Qa (kp3 Z Z Z) ?_))
 refine QM ?_
 refine Z8 (ι := Nat) (fun i => ⟨[(0, Q5 l), (3, QgB (YU (l.take i))), (4, .int .i64 i)], []⟩) (fun i => i <= l.length) (fun i => l.length - i) 0 ?_ ?_ ?_
 ·exact le_trans (Qlj 7 _ (by decide)) (Zx (l := [0, 3, 4]) (lH := []) (kp3 rfl rfl rfl) QC rfl rfl rfl)
 ·exact Nat.zero_le _
 intro i hI
 try dsimp only
 refine QH ?_ -- 1
 refine Qe fun K hK => Qb Z (Qb Z (ZF Z Z (YH Z Z (hK _ _ (Qa (kp4 Z Z Z Z) ?_)))))
 refine QA Z (fun h1 => ?_) (fun h1 => ?_)
 ·try rw [h1]
  try simp only [qA] at h1
  refine Qx (Qf (kp3 Z Z Z) ?_)
  refine QH ?_ -- 2
  refine QM (Ze fun K hK => Qb Z (Qb Z (Qb Z (Q3 Z Z Z (by omega) (ZT (by omega)) Z (ZW Z Z (QG (ds0 := [7, 1, 0]) (cs := [_, _, _, _, _, _, _]) Z Z Z Z Z Z (QU (ds0 := [1, 0]) (Qav (Nat.le_trans (Qet hl i).1 (by omega)) (Qet hl i).2 (hl.2 _ (List.getElem_mem (by omega))).1) Z Z (.inl Z) Z Z (Qb Z (Qb Z (Q3 Z Z Z (by omega) (ZT (by omega)) Z ?_))))))))))
  refine ZW Z Z (QG (ds0 := [1, 0]) (cs := [_, _, _, _, _, _, _]) Z Z Z Z Z Z (QU (ds0 := [0]) (Qav (Nat.le_trans (Qew _ _) (by have := (Qet hl i).1; omega)) (QgW (Qet hl i).2 (hl.2 _ (List.getElem_mem (by omega))).1) (hl.2 _ (List.getElem_mem (by omega))).2) Z Z (.inl Z) Z Z (Qb Z (hK _ ?_))))
  refine Ql (Qf (kp3 Z Z Z) (Ze fun K hK => Qb Z (Zi Z Z (by first | exact Qu (by omega) (by omega) | rfl) (Qb Z (hK _ ?_)))))
  refine Qo (i + 1) ?_ ?_ ?_
  ·exact Zx (l := [0, 3, 4]) (lH := []) (kp3 rfl rfl rfl) QC (by rw [Qmu (by omega)]; rfl) rfl rfl
  ·omega
  ·first | omega | (simp only; omega) | (dsimp only; omega)
 ·try rw [h1]
  try simp only [qA] at h1
  refine ZA (QR (QD (QK (Qf (kp1 Z) (Qe fun K hK => Qb Z (Qb Z (hK _ _ (Qa (kp1 Z) ?_))))))))
  refine Qq (Yf Z ?_)
  rw [List.take_of_length_le (show l.length <= i by omega)]; rfl
end Go.Proofs
namespace Go.Proofs
open Go Go.Abs M3 M25
set_option linter.unusedVariables false
set_option linter.unusedSimpArgs false
theorem Qaf {l : List (Cu × Cu)} {x y : Cu} (hn : l.length <= 3000000) (hl : ∀ s ∈ l, Cu.sm s.1 /\ Cu.sm s.2) (hx : Cu.sm x) (hy : Cu.sm y) : OkH Tryd.prog 70 [.osl 500000 l.length, .agg (dCu x), .agg (dCu y)] [(500000, ⟨l.map Qef, 14, 93, true⟩)] (.osl 500000 (QbU l x y).length) [(500000, ⟨(QbU l x y).map Qef, 14, 93, true⟩)] := by
 refine OkH.mv Z3 Tryd.func70 Qra (Nat.le_of_ble_eq_true Z) Z ?_
 show TW _ _ tf70.body _ _
 refine Qe fun K hK => ZI Z Z Z (ZI Z Z Z (Qb Z (hK _ _ (Qa (kp3 Z Z Z) ?_))))
 refine QH ?_ -- 0
 refine Qe fun K hK => Qb Z (ZF Z Z (Qc1 Z Z (by first | exact Qu (by omega) (by omega) | rfl) (Qb Z (hK _ _ (Qa (kp4 Z Z Z Z) ?_)))))
 refine Qe fun K hK => Qb Z (Qiy Z Z (Qb Z ?_))
 refine Qv (g := 13) Z (fun h1 => ?_) (fun h1 => ?_)
 ·try rw [h1]
  try simp only [qA] at h1
  refine Qg Z (Qb Z (Qg Z (Qb Z (Qg Z (Qc0 (ds0 := [5, 4, 2, 1, 0]) Z Z Z (by simp) (by omega) (by omega) Z Z Z (Qg Z (Qh Z Z (Qg Z (QG (ds0 := [2, 1, 0]) (cs := [_, _, _, _, _, _, _]) Z (ZV Z (Yj (by omega) (by omega))) Z Z Z Z (Qg Z (QG (ds0 := [2, 1, 0]) (cs := [_, _, _, _, _, _, _]) Z Z Z Z Z Z ?_)))))))))))
  refine Qg Z (QU (ds0 := [1, 0]) (Zu (hl _ (List.getElem_mem (by omega))).2.1 (hl _ (List.getElem_mem (by omega))).2.2 hx.1 hx.2) Z Z (.inr Z) Z Z (Qg Z (Yd Z Z (Qi Z Z (hK _ _ (Qa (kp5 Z Z Z Z Z) ?_))))))
  refine QA Z (fun h2 => ?_) (fun h2 => ?_)
  ·try rw [h2]
   try simp only [qA] at h2
   refine Qe fun K hK => Qb Z (Qb Z (QE (cs := [_, _, _, _, _, _, _]) Z Z Z Z (Qa9 Z Z Z (by simp) (by omega) (by omega) Z (Qh Z Z (QW Z Z (Yj (by omega) (by omega)) Z Z Z Z Z (hK _ _ (Qa (kp1 Z) ?_)))))))
   refine Qe fun K hK => Qb Z (Qb Z (hK _ _ (Qa (kp1 Z) ?_)))
   refine Qq (Qk ?_)
   refine Qam Z ?_ (Qi5 ?_)
   ·rw [QhZ (i := ((l.length : Int) - 1).toNat) (by omega) h2]; simp [QlS, D.fz, D.fzS, QfS, D.can, D.canS]
   ·rw [QhZ (i := ((l.length : Int) - 1).toNat) (by omega) h2]; simp [lk, List.map_set, Qef, dCu, setRow, D.sid]
  ·try rw [h2]
   try simp only [qA] at h2
   refine Qx (Qf (kp3 Z Z Z) (Qe fun K hK => Qb Z (QE (cs := [_, _, _, _, _, _, _]) Z Z Z Z (QE (cs := [_, _, _, _, _, _, _]) Z Z Z Z (QZ Z Z (QP Z Z (Qcz Z Z (fun _ h => Qb6 Z Z Z h) Z (by simp) Z Z Z (by simp; omega) (by simp; omega) (Qb Z (hK _ _ (Qa (kp1 Z) ?_))))))))))
   refine Qq ?_
   refine Qam Z ?_ (Qi5 ?_)
   ·rw [Qdv (.inr ⟨((l.length : Int) - 1).toNat, by omega, h2⟩)]; simp [QlS, D.fz, D.fzS, QfS, D.can, D.canS]
   ·rw [Qdv (.inr ⟨((l.length : Int) - 1).toNat, by omega, h2⟩)]; simp [lk, Qef, dCu, D.sid]
 ·try rw [h1]
  try simp only [qA] at h1
  refine Qr Z (Qr Z (Qr Z (Qr Z (Qr Z (Qr Z (Qr Z (Qr Z (Qi Z Z (hK _ _ (Qa (kp5 Z Z Z Z Z) ?_))))))))))
  refine ZD Z (Qx (Qf (kp3 Z Z Z) (Qe fun K hK => Qb Z (QE (cs := [_, _, _, _, _, _, _]) Z Z Z Z (QE (cs := [_, _, _, _, _, _, _]) Z Z Z Z (QZ Z Z (QP Z Z (Qcz Z Z (fun _ h => Qb6 Z Z Z h) Z (by simp) Z Z Z (by simp; omega) (by simp; omega) (Qb Z (hK _ _ (Qa (kp1 Z) ?_)))))))))))
  refine Qq ?_
  have h0 : l = [] := List.eq_nil_of_length_eq_zero (by omega)
  refine Qam Z ?_ (Qi5 ?_)
  ·rw [Qdv (.inl h0)]; simp [QlS, D.fz, D.fzS, QfS, D.can, D.canS]
  ·rw [Qdv (.inl h0)]; simp [lk, Qef, dCu, D.sid]
end Go.Proofs
namespace Go.Proofs
open Go Go.Abs M3 M25
set_option linter.unusedVariables false
set_option linter.unusedSimpArgs false
theorem QcM {l : List (Cu × Cu)} (hl : Sm l) : Ok Tryd.prog 67 [Q5 l] (.tup [Q5 (QiS l), .bool (l.all QcG)]) := by
  refine Ok.ofT Z3 Tryd.func67 Qq7 (Nat.le_of_ble_eq_true Z) ?_
  show TW _ _ tf67.body _ _
  have hn := hl.1
  have hc1 := QbS l
  refine Qe fun K hK => Qb Z (Qb Z (hK _ _ (Qa (kp1 Z) ?_)))
  refine QH ?_ -- 0
  refine Qe fun K hK => Qb Z (hK _ _ (Qa (kp2 Z Z) ?_))
  refine QM ?_
  refine Z8 (ι := Nat) (fun i => ⟨[(0, Q5 l), (4, .int .i64 i)], []⟩) (fun i => i <= l.length /\ (l.take i).all QcG = true) (fun i => l.length - i) 0 ?_ ?_ ?_
  · exact Za (kp2 rfl rfl)
  · exact ⟨Nat.zero_le _, by simp⟩
  intro i hI
  try dsimp only
  refine QH ?_ -- 1
  refine Qe fun K hK => Qb Z (Qb Z (ZF Z Z (YH Z Z (hK _ _ (Qa (kp3 Z Z Z) ?_)))))
  refine QA Z (fun h1 => ?_) (fun h1 => ?_)
  · try rw [h1]
    try simp only [qA] at h1
    refine Qx (Qf (kp2 Z Z) ?_)
    refine QH ?_ -- 2
    refine QM (Qe fun K hK => Qb Z (Qb Z (Q3 Z Z Z (by omega) (ZT (by omega)) Z (QE (cs := [_, _, _, _, _, _, _, _, _, _, _, _, _, _]) Z Z Z Z (Qy (YB (hl.at (i := i) (by omega)).1.1 (hl.at (i := i) (by omega)).1.2 (hl.at (i := i) (by omega)).2.1 (hl.at (i := i) (by omega)).2.2) Z Z (.inr Z) (ZM Z (hK _ _ (Qa (kp3 Z Z Z) ?_))))))))
    refine QA Z (fun h2 => ?_) (fun h2 => ?_)
    · try rw [h2]
      try simp only [qA] at h2
      refine Qe fun K hK => Qb Z (Qb Z (hK _ _ (Qa (kp2 Z Z) ?_)))
      refine Qq (Qw (Qk (Q8 (Qw (Qk ?_)))))
      first
        | exact ZQ rfl rfl ⟨by rw [QiS, if_neg (by rw [Yl (i := i) (by omega) (by assumption)]; simp)]; rfl, by rw [Yl (i := i) (by omega) (by assumption)]; rfl⟩
        | (have ha : l.all QcG = true := Xc (by omega) hI.2
           exact ZQ rfl rfl ⟨by rw [QiS, if_pos ha, hI2.done (by omega)]; simp [QaF, D.fz, D.fzS, QdK, lk, D.can, D.canS, Q5], by rw [ha]; rfl⟩)
    · try rw [h2]
      try simp only [qA] at h2
      refine Qx (Ql (Qf (kp2 Z Z) (Ze fun K hK => Qb Z (Zi Z Z (by first | exact Qu (by omega) (by omega) | rfl) (Qb Z (hK _ ?_))))))
      refine Qo (i + 1) ?_ ?_ ?_
      · exact Za (kp2 rfl rfl)
      · exact ⟨by omega, Zg (by omega) hI.2 (by assumption)⟩
      · first | omega | (simp only; omega) | (dsimp only; omega)
  · try rw [h1]
    try simp only [qA] at h1
    refine ZA (QR (QD (QK (Qf (kp1 Z) (Qe fun K hK => Qb Z (hK _ _ (Qa (kp2 Z Z) ?_)))))))
    refine Qe fun K hK => Qb Z (Qy (Qae hl) Z Z (.inl Z) (Qb Z (hK _ _ (Qa (kp3 Z Z Z) ?_))))
    refine QH ?_ -- 3
    refine Qe fun K hK => Qb Z (hK _ _ (Qa (kp4 Z Z Z Z) ?_))
    refine QM ?_
    refine Z8 (ι := Nat × List (Cu × Cu)) (fun ⟨i, out⟩ => ⟨[(0, Q5 l), (5, .osl 5 out.length), (6, QgB (YU l)), (7, .int .i64 i)], [(5, ⟨out.map Qef, 14, 93, true⟩)]⟩) (fun ⟨i, out⟩ => i <= (YU l).length /\ FillI (mIn l) (YU l) i out) (fun ⟨i, out⟩ => (YU l).length - i) (0, []) ?_ ?_ ?_
    · exact le_trans (Qak 5 5 14 93 rfl rfl) (Zx (l := [0, 5, 6, 7]) (lH := [5]) (kp4 rfl rfl rfl rfl) (Qz rfl QC) rfl rfl rfl)
    · exact ⟨Nat.zero_le _, FillI.zero⟩
    intro ⟨i, out⟩ hI
    obtain ⟨hI1, hI2⟩ := hI
    have hI3 := hI2.1
    try dsimp only
    refine QH ?_ -- 4
    refine Qe fun K hK => Qb Z (Zi Z Z (by first | exact Qu (by omega) (by omega) | rfl) (Qb Z (ZF Z Z (YH Z Z (hK _ _ (Qa (kp5 Z Z Z Z Z) ?_))))))
    refine QA Z (fun h3 => ?_) (fun h3 => ?_)
    · try rw [h3]
      try simp only [qA] at h3
      refine Qx (Qf (kp4 Z Z Z Z) ?_)
      refine QH ?_ -- 5
      refine QM (Qe fun K hK => Qb Z (Qb Z (Qb Z (Q3 Z Z Z (by omega) (ZT (by omega)) Z (QG (ds0 := [0]) (cs := [_, _, _, _, _, _, _]) Z Z Z Z Z Z (Qb Z (Qb Z (Zi Z Z (by first | exact Qu (by omega) (by omega) | rfl) (Q3 Z Z Z (by omega) (QjE (by omega)) Z (QG (ds0 := [0]) (cs := [_, _, _, _, _, _, _]) Z Z Z Z Z Z ?_))))))))))
      refine QU (ds0 := []) (QaU hl (Yy hl _ (List.getElem_mem (by omega))) (Yy hl _ (List.getElem_mem (by omega)))) Z Z (.inr Z) Z Z (hK _ _ (Qa (kp5 Z Z Z Z Z) ?_))
      refine QA Z (fun h4 => ?_) (fun h4 => ?_)
      · try rw [h4]
        try simp only [qA] at h4
        refine Ze fun K hK => Qb rfl (Qb rfl (Qb rfl (Q3 rfl rfl rfl (by omega) (ZT (by omega)) rfl (QG (ds0 := [1, 0]) (cs := [_, _, _, _, _, _, _]) rfl rfl rfl rfl rfl rfl (Qb rfl (Qb rfl (Zi rfl rfl (by first | exact Qu (by omega) (by omega) | rfl) (Q3 rfl rfl rfl (by omega) (QjE (by omega)) rfl (QG (ds0 := [1, 0]) (cs := [_, _, _, _, _, _, _]) rfl rfl rfl rfl rfl rfl (Qjh (ds0 := [0]) (QmX (k := 5) rfl rfl rfl (by decide) rfl (by decide) (by simp [D.ids, D.sid, dCu]) ⟨.osl 5 out.length, by simp, by simp [D.ids, D.sid]⟩ rfl rfl (Qaf (by omega) hI2.2.1 (Yy hl _ (List.getElem_mem (by omega))) (Yy hl _ (List.getElem_mem (by omega))))) (fun _ h => by cases h) rfl rfl ?_))))))))))
        refine Qb Z (hK _ ?_)
        refine Ql (Qf (kp4 Z Z Z Z) (Ze fun K hK => Qb Z (Zi Z Z (by first | exact Qu (by omega) (by omega) | rfl) (Qb Z (hK _ ?_)))))
        refine Qo (i + 1, QbU out (YU l)[i] (YU l)[i + 1]) ?_ ?_ ?_
        · exact le_trans (Qlh (l := [0, 6, 7]) (t := 50) (u := 5) 5 (kp3 rfl rfl rfl) rfl rfl rfl rfl) (Zx (l := [0, 5, 6, 7]) (lH := [5]) (kp4 rfl rfl rfl rfl) (Qz rfl QC) rfl rfl rfl)
        · exact ⟨by omega, hI2.take (Yy hl) (by omega) (by assumption)⟩
        · show (YU l).length - (i + 1) < (YU l).length - i; omega
      · try rw [h4]
        try simp only [qA] at h4
        refine Qx (Ql (Qf (kp4 Z Z Z Z) (Ze fun K hK => Qb Z (Zi Z Z (by first | exact Qu (by omega) (by omega) | rfl) (Qb Z (hK _ ?_))))))
        refine Qo (i + 1, out) ?_ ?_ ?_
        · exact Zx (l := [0, 5, 6, 7]) (lH := [5]) (kp4 rfl rfl rfl rfl) (Qz rfl QC) rfl rfl rfl
        · exact ⟨by omega, hI2.skip (by omega) (by assumption)⟩
        · show (YU l).length - (i + 1) < (YU l).length - i; omega
    · try rw [h3]
      try simp only [qA] at h3
      refine ZA (QR (QD (QK (Qf (kp1 Z) (Qe fun K hK => Qb Z (Qb Z (Qb Z (hK _ _ (Qa (kp2 Z Z) ?_)))))))))
      refine Qq ?_
      first
        | exact ZQ rfl rfl ⟨by rw [QiS, if_neg (by rw [Yl (i := i) (by omega) (by assumption)]; simp)]; rfl, by rw [Yl (i := i) (by omega) (by assumption)]; rfl⟩
        | (have ha : l.all QcG = true := Xc (by omega) hI.2
           exact ZQ rfl rfl ⟨by rw [QiS, if_pos ha, hI2.done (by omega)]; simp [QaF, D.fz, D.fzS, QdK, lk, D.can, D.canS, Q5], by rw [ha]; rfl⟩)
end Go.Proofs
namespace Go.Proofs
open Go Go.Abs M3 M25
set_option linter.unusedVariables false
set_option linter.unusedSimpArgs false
theorem QaT {a b : List (Cu × Cu)} (ha : Sm a) (hb : Sm b) (hab : a.length + b.length <= 1000000) : Ok Tryd.prog 49 [Q5 a, Q5 b] (Q5 (Qm6 a b)) := by
 refine Ok.ofT Z3 Tryd.func49 QqR (Nat.le_of_ble_eq_true Z) ?_
 show TW _ _ tf49.body _ _
 refine Qe fun K hK => Qb Z (hK _ _ (Qa (kp2 Z Z) ?_))
 refine QH ?_ -- 0
 refine Qe fun K hK => Qb Z (Qy (ZX ha) Z Z (.inr Z) (ZM Z (Qb Z ?_)))
 refine Qv (g := 10) Z (fun h1 => ?_) (fun h1 => ?_)
 ·try rw [h1]
  try simp only [qB] at h1
  refine Qr Z (Qr Z (Qr Z (Qi Z Z (hK _ _ (Qa (kp3 Z Z Z) ?_)))))
  refine Zj Z (Qe fun K hK => Qb Z (hK _ _ (Qa (kp1 Z) ?_)))
  refine Qq (Qk (Yf Z ?_))
  rw [Qm6, if_neg (by simp [h1])]; rfl
 ·try rw [h1]
  try simp only [qB] at h1
  refine Qg Z (Qb Z (Qg Z (Qy (ZX hb) Z Z (.inr Z) (Qg Z (ZM Z (Qi Z Z (hK _ _ (Qa (kp3 Z Z Z) ?_))))))))
  refine QA Z (fun h2 => ?_) (fun h2 => ?_)
  ·try rw [h2]
   try simp only [qB] at h2
   refine Qe fun K hK => Qb Z (hK _ _ (Qa (kp1 Z) ?_))
   refine Qq (Qk (Yf Z ?_))
   rw [Qm6, if_neg (by simp [h1, h2])]; rfl
  ·try rw [h2]
   try simp only [qB] at h2
   refine Qx (Qf (kp2 Z Z) (Qe fun K hK => Qb Z (Qoz Z Z (fun _ h => Qng Qna h) Z (.inl Z) (by simp) (by simp; omega) (by simp; omega) (Qb Z (Qcz Z Z (fun _ h => Qng Qna h) Z (by simp) Z Z Z (by simp; omega) (by simp; omega) ?_)))))
   apply Qnr [17] (by simp)
   ·simp [St.freezeL, St.freeze, rem, D.fz, D.fzS, Box.fz, lk, D.scrub]; exact ⟨rfl, rfl⟩
   ·exact QcM (ha.app hb hab)
   ·rfl
   ·simp [QaF, D.fz, D.fzS, QdK, D.can, D.canS, Q5]
   ·exact .inl rfl
   refine Qb Z (Zh Z Z (Zh Z Z (Qb Z (Qb Z (hK _ _ (Qa (kp1 Z) ?_))))))
   refine Qe fun K hK => Qb Z (Qb Z (hK _ _ (Qa (kp1 Z) ?_)))
   refine Qq (Yf Z ?_)
   rw [Qm6, if_pos ⟨h1, h2⟩]; rfl
theorem Qau {a : List (Cu × Cu)} (ha : Sm a) : Ok Tryd.prog 51 [Q5 a] (Q5 (QiT a)) := by
 refine Ok.ofT Z3 Tryd.func51 QqS (Nat.le_of_ble_eq_true Z) ?_
 show TW _ _ tf51.body _ _
 have hn := ha.1
 have hc1 := QbS a
 refine Qe fun K hK => Qb Z (hK _ _ (Qa (kp1 Z) ?_))
 refine QH ?_ -- 0
 refine Qe fun K hK => Qb Z (Qy (ZX ha) Z Z (.inr Z) (ZM Z (hK _ _ (Qa (kp2 Z Z) ?_))))
 refine QA Z (fun h1 => ?_) (fun h1 => ?_)
 ·try rw [h1]
  try simp only [qA] at h1
  refine Qe fun K hK => Qb Z (hK _ _ (Qa (kp1 Z) ?_))
  refine Qq (Qk (Yf Z ?_))
  rw [QiT, if_neg (by simp [h1])]; rfl
 ·try rw [h1]
  try simp only [qA] at h1
  refine Qx (Qf (kp1 Z) (Qe fun K hK => Qb Z (hK _ _ (Qa (kp2 Z Z) ?_))))
  refine Qe fun K hK => Qb Z (Qy (Qae ha) Z Z (.inl Z) (Qb Z (hK _ _ (Qa (kp3 Z Z Z) ?_))))
  refine QH ?_ -- 1
  refine Qe fun K hK => Qb Z (hK _ _ (Qa (kp4 Z Z Z Z) ?_))
  refine QM ?_
  refine Z8 (ι := Nat × List (Cu × Cu)) (fun ⟨i, out⟩ => ⟨[(0, Q5 a), (3, .osl 3 out.length), (4, QgB (YU a)), (5, .int .i64 i)], [(3, ⟨out.map Qef, 14, 93, true⟩)]⟩) (fun ⟨i, out⟩ => i <= (YU a).length /\ FillI (fun x y => !mIn a x y) (YU a) i out) (fun ⟨i, out⟩ => (YU a).length - i) (0, []) ?_ ?_ ?_
  ·exact le_trans (Qak 3 3 14 93 rfl rfl) (Zx (l := [0, 3, 4, 5]) (lH := [3]) (kp4 rfl rfl rfl rfl) (Qz rfl QC) rfl rfl rfl)
  ·exact ⟨Nat.zero_le _, FillI.zero⟩
  intro ⟨i, out⟩ hI
  obtain ⟨hI1, hI2⟩ := hI
  have hI3 := hI2.1
  try dsimp only
  refine QH ?_ -- 2
  refine Qe fun K hK => Qb Z (Zi Z Z (by first | exact Qu (by omega) (by omega) | rfl) (Qb Z (ZF Z Z (YH Z Z (hK _ _ (Qa (kp5 Z Z Z Z Z) ?_))))))
  refine QA Z (fun h2 => ?_) (fun h2 => ?_)
  ·try rw [h2]
   try simp only [qA] at h2
   refine Qx (Qf (kp4 Z Z Z Z) ?_)
   refine QH ?_ -- 3
   refine QM (Qe fun K hK => Qb Z (Qb Z (Qb Z (Q3 Z Z Z (by omega) (ZT (by omega)) Z (QG (ds0 := [1, 0]) (cs := [_, _, _, _, _, _, _]) Z Z Z Z Z Z (Qb Z (Qb Z (Zi Z Z (by first | exact Qu (by omega) (by omega) | rfl) (Q3 Z Z Z (by omega) (QjE (by omega)) Z (QG (ds0 := [1, 0]) (cs := [_, _, _, _, _, _, _]) Z Z Z Z Z Z ?_))))))))))
   refine QU (ds0 := [0]) (QaU ha (Yy ha _ (List.getElem_mem (by omega))) (Yy ha _ (List.getElem_mem (by omega)))) Z Z (.inr Z) Z Z (ZM Z (hK _ _ (Qa (kp5 Z Z Z Z Z) ?_)))
   refine QA Z (fun h3 => ?_) (fun h3 => ?_)
   ·try rw [h3]
    try simp only [qA] at h3
    refine Ze fun K hK => Qb rfl (Qb rfl (Qb rfl (Q3 rfl rfl rfl (by omega) (ZT (by omega)) rfl (QG (ds0 := [1, 0]) (cs := [_, _, _, _, _, _, _]) rfl rfl rfl rfl rfl rfl (Qb rfl (Qb rfl (Zi rfl rfl (by first | exact Qu (by omega) (by omega) | rfl) (Q3 rfl rfl rfl (by omega) (QjE (by omega)) rfl (QG (ds0 := [1, 0]) (cs := [_, _, _, _, _, _, _]) rfl rfl rfl rfl rfl rfl (Qjh (ds0 := [0]) (QmX (k := 3) rfl rfl rfl (by decide) rfl (by decide) (by simp [D.ids, D.sid, dCu]) ⟨.osl 3 out.length, by simp, by simp [D.ids, D.sid]⟩ rfl rfl (Qaf (by omega) hI2.2.1 (Yy ha _ (List.getElem_mem (by omega))) (Yy ha _ (List.getElem_mem (by omega))))) (fun _ h => by cases h) rfl rfl ?_))))))))))
    refine Qb Z (hK _ ?_)
    refine Ql (Qf (kp4 Z Z Z Z) (Ze fun K hK => Qb Z (Zi Z Z (by first | exact Qu (by omega) (by omega) | rfl) (Qb Z (hK _ ?_)))))
    refine Qo (i + 1, QbU out (YU a)[i] (YU a)[i + 1]) ?_ ?_ ?_
    ·exact le_trans (Qlh (l := [0, 4, 5]) (t := 40) (u := 3) 3 (kp3 rfl rfl rfl) rfl rfl rfl rfl) (Zx (l := [0, 3, 4, 5]) (lH := [3]) (kp4 rfl rfl rfl rfl) (Qz rfl QC) rfl rfl rfl)
    ·exact ⟨by omega, hI2.take (Yy ha) (by omega) (by simp; assumption)⟩
    ·show (YU a).length - (i + 1) < (YU a).length - i; omega
   ·try rw [h3]
    try simp only [qA] at h3
    refine Qx (Ql (Qf (kp4 Z Z Z Z) (Ze fun K hK => Qb Z (Zi Z Z (by first | exact Qu (by omega) (by omega) | rfl) (Qb Z (hK _ ?_))))))
    refine Qo (i + 1, out) ?_ ?_ ?_
    ·exact Zx (l := [0, 3, 4, 5]) (lH := [3]) (kp4 rfl rfl rfl rfl) (Qz rfl QC) rfl rfl rfl
    ·exact ⟨by omega, hI2.skip (by omega) (by simp; assumption)⟩
    ·show (YU a).length - (i + 1) < (YU a).length - i; omega
  ·try rw [h2]
   try simp only [qA] at h2
   refine ZA (QR (QD (QK (Qf (kp1 Z) (Qe fun K hK => Qb Z (Qb Z (hK _ _ (Qa (kp1 Z) ?_))))))))
   refine Qq (Yf Z ?_)
   rw [QiT, if_pos h1, hI2.done (by omega)]; simp [QaF, D.fz, D.fzS, QdK, lk, D.can, D.canS, Q5]
end Go.Proofs
namespace Go.Proofs
open Go Go.Abs M3 M25
set_option linter.unusedVariables false
set_option linter.unusedSimpArgs false
theorem QaV {a b : QdI} (h1a : Sm a.1) (h2a : Sm a.2) (h1b : Sm b.1) (h2b : Sm b.2) (hl1 : a.1.length + b.1.length <= 1000000) (hl2 : a.2.length + b.2.length <= 1000000) : Ok Tryd.prog 27 [Qdi a, Qdi b] (Qdi (Qmx a b)) := by
 refine Ok.ofT Z3 Tryd.func27 QqB (Nat.le_of_ble_eq_true Z) ?_
 show TW _ _ tf27.body _ _
 refine Qe fun K hK => ZI Z Z Z (ZI Z Z Z (Zt Z (hK _ _ (Qa (kp3 Z Z Z) ?_))))
 refine QH ?_ -- 0
 refine Qe fun K hK => QE (cs := [_, _]) Z Z Z Z (Qy (YC h1a h2a) Z Z (.inr Z) (ZM Z (Qb Z ?_)))
 refine Qv (g := 8) Z (fun h1 => ?_) (fun h1 => ?_)
 ·try rw [h1]
  try simp only [qB] at h1
  refine Qr Z (Qr Z (Qr Z (Qi Z Z (hK _ _ (Qa (kp4 Z Z Z Z) ?_)))))
  refine Zj Z (Qe fun K hK => Qy (ZS) Z Z (.inl Z) (QW Z Z Z Z Z Z Z Z (hK _ _ (Qa (kp1 Z) ?_))))
  refine Qq (Qk (Post.eq (Zw (ds := [.sl _, .sl _]) (cs := [_, _]) Z Z Z Z Z) ?_))
  rw [Qmx, if_neg (by simp [h1])]; rfl
 ·try rw [h1]
  try simp only [qB] at h1
  refine Qg Z (QE (cs := [_, _]) Z Z Z Z (Qg Z (Qy (YC h1b h2b) Z Z (.inr Z) (Qg Z (ZM Z (Qi Z Z (hK _ _ (Qa (kp4 Z Z Z Z) ?_))))))))
  refine QA Z (fun h2 => ?_) (fun h2 => ?_)
  ·try rw [h2]
   try simp only [qB] at h2
   refine Qe fun K hK => Qy (ZS) Z Z (.inl Z) (QW Z Z Z Z Z Z Z Z (hK _ _ (Qa (kp1 Z) ?_)))
   refine Qq (Qk (Post.eq (Zw (ds := [.sl _, .sl _]) (cs := [_, _]) Z Z Z Z Z) ?_))
   rw [Qmx, if_neg (by simp [h1, h2])]; rfl
  ·try rw [h2]
   try simp only [qB] at h2
   refine Qx (Qf (kp3 Z Z Z) (Qe fun K hK => Qh Z Z (ZC (ds0 := [7, 1, 0]) Z Z Z Z Z (Qh Z Z (ZC (ds0 := [7, 1, 0]) Z Z Z Z Z (QU (ds0 := [1, 0]) (QaT h1a h1b hl1) Z Z (.inl Z) Z Z (Qh Z Z (ZC (ds0 := [2, 1, 0]) Z Z Z Z Z (Qh Z Z (ZC (ds0 := [2, 1, 0]) Z Z Z Z Z ?_))))))))))
   refine QU (ds0 := [1, 0]) (QaT h2a h2b hl2) Z Z (.inl Z) Z Z (QZ Z Z (Xk (ds0 := []) Z Z Z Z Z Z Z Z Z Z (hK _ _ (Qa (kp1 Z) ?_))))
   refine Qq (Post.eq (Zw (ds := [.sl _, .sl _]) (cs := [_, _]) Z Z Z Z Z) ?_)
   rw [Qmx, if_pos ⟨h1, h2⟩]; rfl
theorem Qax {a : QdI} (h1a : Sm a.1) (h2a : Sm a.2) : Ok Tryd.prog 29 [Qdi a] (Qdi (QdU a)) := by
 refine Ok.ofT Z3 Tryd.func29 QqC (Nat.le_of_ble_eq_true Z) ?_
 show TW _ _ tf29.body _ _
 refine Qe fun K hK => ZI Z Z Z (Zt Z (hK _ _ (Qa (kp2 Z Z) ?_)))
 refine QH ?_ -- 0
 refine Qe fun K hK => QE (cs := [_, _]) Z Z Z Z (Qy (YC h1a h2a) Z Z (.inr Z) (ZM Z (hK _ _ (Qa (kp3 Z Z Z) ?_))))
 refine QA Z (fun h1 => ?_) (fun h1 => ?_)
 ·try rw [h1]
  try simp only [qB] at h1
  refine Qe fun K hK => Qy (ZS) Z Z (.inl Z) (QW Z Z Z Z Z Z Z Z (hK _ _ (Qa (kp1 Z) ?_)))
  refine Qq (Qk (Post.eq (Zw (ds := [.sl _, .sl _]) (cs := [_, _]) Z Z Z Z Z) ?_))
  rw [QdU, if_neg (by simp [h1])]; rfl
 ·try rw [h1]
  try simp only [qB] at h1
  refine Qx (Qf (kp2 Z Z) (Qe fun K hK => Qh Z Z (ZC (ds0 := [5, 1, 0]) Z Z Z Z Z (QU (ds0 := [1, 0]) (Qau h1a) Z Z (.inl Z) Z Z (Qh Z Z (ZC (ds0 := [2, 1, 0]) Z Z Z Z Z (QU (ds0 := [1, 0]) (Qau h2a) Z Z (.inl Z) Z Z (QZ Z Z (Xk (ds0 := []) Z Z Z Z Z Z Z Z Z Z (hK _ _ (Qa (kp1 Z) ?_)))))))))))
  refine Qq (Post.eq (Zw (ds := [.sl _, .sl _]) (cs := [_, _]) Z Z Z Z Z) ?_)
  rw [QdU, if_pos h1]; rfl
end Go.Proofs
namespace Go.Proofs
open Go Go.Abs M3 M25
set_option linter.unusedVariables false
set_option linter.unusedSimpArgs false
theorem Y0 {v n : Int} (hn : n <= 9223372036854775807) (hv : I64 v) : Ok Tryd.prog 11 [.int .i64 v, .int .i64 n] (.int .i64 (mPl v n)) := by
 refine Ok.ofT Z3 Tryd.func11 Qqq (Nat.le_of_ble_eq_true Z) ?_
 show TW _ _ tf11.body _ _
 refine Qe fun K hK => Qb Z (hK _ _ (Qa (kp2 Z Z) ?_))
 refine QH ?_ -- 0
 refine Qe fun K hK => Qb Z (YH Z Z (hK _ _ (Qa (kp3 Z Z Z) ?_)))
 refine QA Z (fun h1 => ?_) (fun h1 => ?_)
 ·try rw [h1]
  try simp only [qB] at h1
  refine Qe fun K hK => Qb Z (hK _ _ (Qa (kp1 Z) ?_))
  refine Qq (Qk (Qs Z ?_))
  rw [mPl, if_pos h1]
 ·try rw [h1]
  try simp only [qB] at h1
  refine Qx (Qf (kp2 Z Z) (Qe fun K hK => Qb Z (Qb Z (Qnu Z Z (by omega) (Qb Z (hK _ _ (Qa (kp2 Z Z) ?_)))))))
  refine QH ?_ -- 1
  refine Qe fun K hK => Qb Z (YH Z Z (hK _ _ (Qa (kp3 Z Z Z) ?_)))
  refine QA Z (fun h2 => ?_) (fun h2 => ?_)
  ·try rw [h2]
   try simp only [qB] at h2
   refine Qe fun K hK => Qb Z (Qb Z (Zi Z Z (Qu (by have := Int.lt_tmod_of_pos v (show 0 < n by omega); omega) (by have := Int.tmod_lt_of_pos v (show 0 < n by omega); omega)) (Qb Z (hK _ _ (Qa (kp1 Z) ?_)))))
   refine Qq (Qk (Qs Z ?_))
   rw [mPl, if_neg h1, Qfm, if_pos h2]
  ·try rw [h2]
   try simp only [qB] at h2
   refine Qx (Qf (kp1 Z) (Qe fun K hK => Qb Z (Qb Z (hK _ _ (Qa (kp1 Z) ?_)))))
   refine Qq (Qs Z ?_)
   rw [mPl, if_neg h1, Qfm, if_neg h2]
theorem QdL {l : List Int} {i : Int} : Ok Tryd.prog 57 [ZL l, .int .i64 i] (.int .i64 (Qkt l i)) := by
 refine Ok.ofT Z3 Tryd.func57 QqY (Nat.le_of_ble_eq_true Z) ?_
 show TW _ _ tf57.body _ _
 refine Qe fun K hK => Qb Z (hK _ _ (Qa (kp2 Z Z) ?_))
 refine QH ?_ -- 0
 refine Qe fun K hK => Qb Z (YH Z Z (Qb Z ?_))
 refine Qv (g := 7) Z (fun h1 => ?_) (fun h1 => ?_)
 ·try rw [h1]
  try simp only [qA] at h1
  refine Qr Z (Qr Z (Qr Z (Qr Z (Qi Z Z (hK _ _ (Qa (kp3 Z Z Z) ?_))))))
  refine Zj Z (Qe fun K hK => Qb Z (Qnu Z Z (by omega) (Qb Z (hK _ _ (Qa (kp1 Z) ?_)))))
  refine Qq (Qk (Qs Z ?_))
  rw [Qkt, if_pos (by omega)]
 ·try rw [h1]
  try simp only [qA] at h1
  refine Qg Z (Qb Z (Qg Z (Qb Z (Qg Z (ZF Z Z (Qg Z (Qiy Z Z (Qi Z Z (hK _ _ (Qa (kp3 Z Z Z) ?_))))))))))
  refine QA Z (fun h2 => ?_) (fun h2 => ?_)
  ·try rw [h2]
   try simp only [qA] at h2
   refine Qe fun K hK => Qb Z (Qnu Z Z (by omega) (Qb Z (hK _ _ (Qa (kp1 Z) ?_))))
   refine Qq (Qk (Qs Z ?_))
   rw [Qkt, if_pos (by omega)]
  ·try rw [h2]
   try simp only [qA] at h2
   refine Qx (Qf (kp2 Z Z) (Qe fun K hK => Qb Z (Qb Z (Q3 Z Z Z (by omega) (Yj (by omega) (by omega)) Z (QF Z Z Z (Qb Z (hK _ _ (Qa (kp1 Z) ?_))))))))
   refine Qq (Qs Z ?_)
   exact (Qlm (by omega) (by omega)).symm
theorem XO {k : Nat} {L : List Int} {I n : Int} (hk : 1000000 <= k) (hL : ∀ x ∈ L, I64 x) (hn : n <= 9223372036854775807) (et : Nat) : OkH Tryd.prog 37 [.ref k 0 0, .int .i64 n] [(k, gB L I et)] (.int .i64 (nx L I n)) ((k, gB L (nxI I) et) :: [(k, gB L I et)]) := by
 refine OkH.lent hk Z3 Tryd.func37 QqG (Nat.le_of_ble_eq_true Z) Z ?_
 show TW _ _ tf37.body _ _
 refine Qe fun K hK => Qb Z (hK _ _ (Qa (kp2 Z Z) ?_))
 refine Qe fun K hK => Qb Z (Yb Z Z (Qh Z Qes (QF Z (ZV QdT Z) Z (Zi Z Z Z (Yb Z Z (Qh Z Qes (QW Z QdT Z Z Z Z Z Z (hK _ _ (Qa (kp2 Z Z) ?_)))))))))
 refine Qe fun K hK => Qb Z (Yb Z Z (Qh Z Qes (ZC (ds0 := [3, 1, 0]) Z (ZV QdT Z) Z Z Z (Qb Z (Yb Z Z (Qh Z Qes (ZC (ds0 := [4, 3, 1, 0]) Z (ZV QdT Z) Z Z Z (Qc1 Z Z Z (QU (ds0 := [1, 0]) (QdL) Z Z (.inr Z) Z Z (Qb Z ?_))))))))))
 refine QU (ds0 := [0]) (Y0 hn (Qmt hL (QfD _))) Z Z (.inr Z) Z Z (Qb Z (hK _ _ (Qa (kp1 Z) ?_)))
 refine Qq ?_
 exact Qam rfl rfl (Qob QdT)
end Go.Proofs
namespace Go.Proofs
open Go Go.Abs M3 M25
set_option linter.unusedVariables false
set_option linter.unusedSimpArgs false
theorem Qab {v : Int} (h0 : 0 <= v) (h1v : v <= 61) : Ok Tryd.prog 41 [.int .i64 v] (.int .i64 (2 ^ v.toNat)) := by
 refine Ok.ofT Z3 Tryd.func41 QqJ (Nat.le_of_ble_eq_true Z) ?_
 show TW _ _ tf41.body _ _
 refine Qe fun K hK => Qb Z (hK _ _ (Qa (kp1 Z) ?_))
 refine Qe fun K hK => Qb Z (hK _ _ (Qa (kp2 Z Z) ?_))
 refine QH ?_ -- 0
 refine Qe fun K hK => Qb Z (hK _ _ (Qa (kp3 Z Z Z) ?_))
 refine QM ?_
 refine Z8 (ι := Nat) (fun i => ⟨[(0, .int .i64 v), (3, .int .i64 (2 ^ i)), (4, .int .i64 i)], []⟩) (fun i => (i : Int) <= v) (fun i => v.toNat - i) 0 ?_ ?_ ?_
 ·exact Za (kp3 rfl rfl rfl)
 ·exact h0
 intro i hI
 have hp := QiX (i := i + 1) (by omega)
 rw [Int.pow_succ] at hp
 try dsimp only
 refine QH ?_ -- 1
 refine Qe fun K hK => Qb Z (Qb Z (YH Z Z (hK _ _ (Qa (kp4 Z Z Z Z) ?_))))
 refine QA Z (fun h1 => ?_) (fun h1 => ?_)
 ·try rw [h1]
  try simp only [qB] at h1
  refine Qx (Qf (kp3 Z Z Z) ?_)
  refine QH ?_ -- 2
  refine QM (Ze fun K hK => Qb rfl (QlZ rfl rfl (Qu (by obtain ⟨p1, p2⟩ := hp; generalize (2 : Int) ^ i = z at *; omega) (by obtain ⟨p1, p2⟩ := hp; generalize (2 : Int) ^ i = z at *; omega)) (Qb rfl (hK _ ?_))))
  refine Ql (Qf (kp3 Z Z Z) (Ze fun K hK => Qb Z (Zi Z Z (Qu (by omega) (by omega)) (Qb Z (hK _ ?_)))))
  refine Qo (i + 1) ?_ ?_ ?_
  ·exact Zx (l := [0, 3, 4]) (lH := []) (kp3 rfl rfl rfl) QC (by rw [Int.pow_succ]; rfl) rfl rfl
  ·show ((i + 1 : Nat) : Int) <= v; omega
  ·first | omega | (simp only; omega) | (dsimp only; omega)
 ·try rw [h1]
  try simp only [qB] at h1
  refine ZA (QR (QD (QK (Qf (kp1 Z) (Qe fun K hK => Qb Z (Qb Z (hK _ _ (Qa (kp1 Z) ?_))))))))
  refine Qq (Qs Z ?_)
  rw [show v.toNat = i by omega]
theorem Qd5 {h m : Int} : Ok Tryd.prog 18 [.int .i64 h, .int .i64 m] (.int .i64 (QgX h m)) := by
 refine Ok.ofT Z3 Tryd.func18 Qqx (Nat.le_of_ble_eq_true Z) ?_
 show TW _ _ tf18.body _ _
 refine Qe fun K hK => Qb Z (hK _ _ (Qa (kp2 Z Z) ?_))
 refine QH ?_ -- 0
 refine QM (Qe fun K hK => Qb Z (Qb Z (Qjg Z Z (Yd Z Z (Qb Z (hK _ _ (Qa (kp3 Z Z Z) ?_)))))))
 refine QA Z (fun h1 => ?_) (fun h1 => ?_)
 ·try rw [h1]
  try simp only [qB] at h1
  refine Qe fun K hK => Qb Z (hK _ _ (Qa (kp1 Z) ?_))
  refine Qq (Qw (Qk (Qs Z ?_)))
  rw [QgX, if_pos h1]
 ·try rw [h1]
  try simp only [qB] at h1
  refine Qe fun K hK => Qb Z (Qb Z (Qgr Z Z (Yd Z Z (Qb Z (hK _ _ (Qa (kp1 Z) ?_))))))
  refine QA Z (fun h2 => ?_) (fun h2 => ?_)
  ·try rw [h2]
   try simp only [qB] at h2
   refine Qe fun K hK => Qb Z (hK _ _ (Qa (kp1 Z) ?_))
   refine Qq (Qw (Qk (Qs Z ?_)))
   rw [QgX, if_neg h1, if_pos h2]
  ·try rw [h2]
   try simp only [qB] at h2
   refine Qx (Ql (Qf (QX) (Qe fun K hK => Qb Z (hK _ _ (Qa (kp1 Z) ?_)))))
   refine Qq (Qs Z ?_)
   rw [QgX, if_neg h1, if_neg h2]
end Go.Proofs
namespace Go.Proofs
open Go Go.Abs M3 M25
set_option linter.unusedVariables false
set_option linter.unusedSimpArgs false
theorem Xm  : Ok Tryd.prog 52 [] (.sl (versions.map dVr)) := by
 refine Ok.ofT Z3 Tryd.func52 QqT (Nat.le_of_ble_eq_true Z) ?_
 show TW _ _ tf52.body _ _
 refine Qe fun K hK => Qb Z (hK _ _ (Qa (QX) ?_))
 refine Qe fun K hK => QZ Z Z (QZ Z Z (QZ Z Z (QZ Z Z (QP Z Z (Qb Z (hK _ _ (Qa (kp1 Z) ?_)))))))
 refine Qq (Yf Z ?_)
 rfl
end Go.Proofs
namespace M25
open Go Go.Abs M3
structure WantT where
 u : Int
 s : QdI
structure CandT where
 v : Vr
 sh : Int
 ns : List (List WantT)
 bs : List WantT
structure QkB where
 n : List UInt8
 f : List UInt8
 cs : List CandT
abbrev Zf := List QkB
def QaL (x : WantT) : List D := [.int .i64 x.u, Q5 x.s.1, Q5 x.s.2]
def Q0 (l : List WantT) : D := .sl (l.map QaL)
def QS (l : List (List WantT)) : D := .sl (l.map fun r => [Q0 r])
def QpM (c : CandT) : List D := [.int .i64 c.v.a, .int .i64 c.v.b, .int .i64 c.v.c, .str c.v.p, .str c.v.q, .int .i64 c.sh, QS c.ns, Q0 c.bs]
def Qag (l : List CandT) : D := .sl (l.map QpM)
def Qcu (u : QkB) : List D := [.str u.n, .str u.f, Qag u.cs]
def QbM (w : Zf) : D := .agg [.sl (w.map Qcu)]
structure QfG where
 u : Int
 m : Int
 deriving DecidableEq
structure Qba where
 u : Int
 m : Int
 l : Int
 c : Int
 deriving DecidableEq
structure RowT where
 k : Int
 u : Int
 a : Int
 b : Int
 t : List QfG
abbrev Qel (a b : Int) : Int := Qbj .and .i64 a b
abbrev bor (a b : Int) : Int := Qbj .or .i64 a b
abbrev Qir (a b : Int) : Int := Qbj .andNot .i64 a b
def uAt (w : Zf) (u : Int) : Option QkB := if u < 0 then none else w[u.toNat]?
theorem QfB {w : Zf} {u : Int} (h0 : 0 <= u) (h : u < w.length) : uAt w u = some (w[u.toNat]'(by omega)) := by
 rw [uAt, if_neg (by omega), List.getElem?_eq_getElem (by omega)]
theorem Qhb {w : Zf} {u : Int} (h : u < 0 \/ (w.length : Int) <= u) : uAt w u = none := by
 unfold uAt
 split
 ·rfl
 ·rw [List.getElem?_eq_none]; omega
def QaM (w : Zf) (u : Int) : Int := match uAt w u with
 | none => 0
 | some x => 2 ^ (min x.cs.length 16 + 1) - 1
theorem Qeu {w : Zf} {u : Int} (h0 : 0 <= u) (h : u < w.length) : QaM w u = 2 ^ (min (w[u.toNat]'(by omega)).cs.length 16 + 1) - 1 := by
 rw [QaM, QfB h0 h]
theorem Qdu {w : Zf} {u : Int} (h : u < 0 \/ (w.length : Int) <= u) : QaM w u = 0 := by rw [QaM, Qhb h]
def Qej (v : Vr) : Prop := v.p.length <= 1000000 /\ v.q.length <= 1000000
structure WSm (w : Zf) : Prop where
 len : w.length <= 48
 cs : ∀ u ∈ w, u.cs.length <= 16
 vs : ∀ u ∈ w, ∀ c ∈ u.cs, Qej c.v
 ns : ∀ u ∈ w, ∀ c ∈ u.cs, c.ns.length <= 1000 /\ c.bs.length <= 1000
 nl : ∀ u ∈ w, ∀ c ∈ u.cs, ∀ r ∈ c.ns, r.length <= 1000
 nw : ∀ u ∈ w, ∀ c ∈ u.cs, ∀ r ∈ c.ns, ∀ x ∈ r, Sm x.s.1 /\ Sm x.s.2
 bw : ∀ u ∈ w, ∀ c ∈ u.cs, ∀ x ∈ c.bs, Sm x.s.1 /\ Sm x.s.2
def Qm1 (s : QdI) (v : Vr) : Bool := Qfk s v.a v.b v.c v.p v.q
def QaP (s : QdI) (l : List CandT) : Nat -> Int
 | 0 => 0
 | n + 1 => QaP s l n + match l[n]? with
  | some c => if Qm1 s c.v = true then 2 ^ (n + 1) else 0
  | none => 0
theorem Qez (s : QdI) (l : List CandT) : ∀ n, 0 <= QaP s l n /\ QaP s l n <= 2 ^ (n + 1) - 2
 | 0 => by simp [QaP]
 | n + 1 => by
  obtain ⟨h1, h2⟩ := Qez s l n
  have h3 : (2 : Int) ^ (n + 1 + 1) = 2 ^ (n + 1) * 2 := Int.pow_succ ..
  have h4 : (0 : Int) < 2 ^ (n + 1) := Int.pow_pos (by omega)
  rw [QaP, h3]
  generalize (2 : Int) ^ (n + 1) = z at *
  split
  ·split <;> omega
  ·omega
theorem Qfn {s : QdI} {l : List CandT} {i : Nat} (h : i < l.length) (hp : Qm1 s l[i].v = true) : QaP s l (i + 1) = QaP s l i + 2 ^ (i + 1) := by
 rw [QaP, List.getElem?_eq_getElem h]; simp only [hp, if_true]
theorem QgY {s : QdI} {l : List CandT} {i : Nat} (h : i < l.length) (hp : Qm1 s l[i].v = false) : QaP s l (i + 1) = QaP s l i := by
 rw [QaP, List.getElem?_eq_getElem h]; simp only [hp, Bool.false_eq_true, if_false, Int.add_zero]
def Qmw (w : Zf) (x : WantT) : Int := match uAt w x.u with
 | none => 0
 | some un => QaP x.s un.cs (min un.cs.length 16)
theorem QgV {w : Zf} {x : WantT} (h0 : 0 <= x.u) (h : x.u < w.length) : Qmw w x = QaP x.s (w[x.u.toNat]'(by omega)).cs (min (w[x.u.toNat]'(by omega)).cs.length 16) := by
 rw [Qmw, QfB h0 h]
theorem Qev {w : Zf} {x : WantT} (h : x.u < 0 \/ (w.length : Int) <= x.u) : Qmw w x = 0 := by rw [Qmw, Qhb h]
theorem Qn5 {n : Nat} (h : n <= 17) : 1 <= (2 : Int) ^ n /\ (2 : Int) ^ n <= 131072 := by
 have h1 : (2 : Nat) ^ n <= 2 ^ 17 := Nat.pow_le_pow_right (by omega) h
 have h2 : 1 <= (2 : Nat) ^ n := Nat.one_le_two_pow
 have h3 : ((2 ^ n : Nat) : Int) = (2 : Int) ^ n := by simp
 rw [<- h3]
 have h4 : (2 : Nat) ^ 17 = 131072 := by decide
 omega
theorem QmB (s : QdI) (l : List CandT) {n : Nat} (h : n <= 16) : 0 <= QaP s l n /\ QaP s l n <= 131070 := by
 obtain ⟨h1, h2⟩ := Qez s l n
 have := Qn5 (n := n + 1) (by omega)
 omega
def Qea (w : Zf) (c : List Int) (u : Int) : Int := match uAt w u with
 | none => 0
 | some x => if (c.length : Int) <= u then 0 else if c.getD u.toNat 0 < -1 \/ ((min x.cs.length 16 : Nat) : Int) <= c.getD u.toNat 0 then 0 else 2 ^ (c.getD u.toNat 0 + 1).toNat
def Yw (m : Int) : Nat -> List Int
 | 0 => []
 | n + 1 => Yw m n ++ if Qel m (2 ^ n) = 0 then [] else [(n : Int) - 1]
def XC (m : Int) : List Int := Yw m 17
def inW (w : Zf) (u : Int) : Bool := decide (0 <= u) && decide (u < w.length)
/-! ### Trails -/
def QfO (w : Zf) (l : List Qba) (u : Int) : Int := l.foldl (fun a s => if s.u = u /\ inW w u = true then s.m else a) (QaM w u)
def Qo6 (l : List Qba) : Int := match l.getLast? with
 | none => 0
 | some s => s.l
def Qmv (l : List Qba) (u : Int) : Bool := l.any fun s => decide (s.u = u) && decide (s.c = -1)
def QpQ (w : Zf) (l : List Qba) (inc : List QfG) : Bool := inc.all fun t => decide (Qh5 (QfO w l t.u) t.m = 2)
def Qg0 (have_ : Int -> Int) : List QfG -> Int -> Int
 | [], at_ => at_
 | t :: r, at_ => if Qh5 (have_ t.u) t.m = 0 then -1 else if Qh5 (have_ t.u) t.m = 1 then (if 0 <= at_ then -1 else Qg0 have_ r t.u) else Qg0 have_ r at_
def Qo7 (w : Zf) (l : List Qba) (inc : List QfG) : Int := Qg0 (QfO w l) inc (-1)
def Qj0 (w : Zf) (l : List Qba) : Nat -> List (List QfG) -> Int × Int
 | _, [] => (-1, -1)
 | i, x :: r => if QpQ w l x = true then (i, -1) else if 0 <= Qo7 w l x then (i, Qo7 w l x) else Qj0 w l (i + 1) r
def QpP (w : Zf) (db : List (List QfG)) (l : List Qba) : Int × Int := Qj0 w l 0 db
end M25
namespace M25
open Go Go.Abs M3
section
variable {fr : List (Nat × D)} {H : List (Nat × Box)} {t u : Nat}
end
theorem QpR (n : Nat) : (min (n : Int) 16 + 1).toNat = min n 16 + 1 := by omega
theorem Qip {n : Nat} (h : n <= 62) : IntKind.i64.wrap ((2 : Int) ^ n - 1) = 2 ^ n - 1 := by
 have := QiX h; exact Qu (by omega) (by omega)
theorem Qpe (i : Nat) : (2 : Int) ^ ((i : Int) + 1).toNat = 2 ^ (i + 1) := by rw [Qni]
theorem QmR (s : QdI) (l : List CandT) {i : Nat} (h : i < 16) : IntKind.i64.wrap (QaP s l i + (2 : Int) ^ ((i : Int) + 1).toNat) = QaP s l i + 2 ^ (i + 1) := by
 rw [Qpe]
 have h1 := QmB s l (n := i) (by omega)
 have h2 := Qn5 (n := i + 1) (by omega)
 exact Qu (by omega) (by omega)
theorem Qa0 {w : Zf} {c : List Int} {u : Int} (h : (u < 0 \/ (w.length : Int) <= u) \/ (c.length : Int) <= u) : Qea w c u = 0 := by
 unfold Qea
 split
 ·rfl
 ·rename_i x hx
  rcases h with h | h
  ·rw [Qhb h] at hx; cases hx
  ·rw [if_pos h]
theorem QaZ {w : Zf} {c : List Int} {u : Int} (h0 : 0 <= u) (h1 : u < w.length) (h2 : u < c.length) (h : c[u.toNat]'(by omega) < -1 \/ min (((w[u.toNat]'(by omega)).cs.length : Nat) : Int) 16 <= c[u.toNat]'(by omega)) : Qea w c u = 0 := by
 rw [Qea, QfB h0 h1]
 simp only []
 rw [if_neg (by omega), List.getD_eq_getElem?_getD, List.getElem?_eq_getElem (by omega)]
 simp only [Option.getD_some]
 rw [if_pos]
 rcases h with h | h
 ·exact .inl h
 ·right; omega
theorem QbY {w : Zf} {c : List Int} {u : Int} (h0 : 0 <= u) (h1 : u < w.length) (h2 : u < c.length) (h : ¬ c[u.toNat]'(by omega) < -1) (h' : ¬ min (((w[u.toNat]'(by omega)).cs.length : Nat) : Int) 16 <= c[u.toNat]'(by omega)) : Qea w c u = 2 ^ (c[u.toNat]'(by omega) + 1).toNat := by
 rw [Qea, QfB h0 h1]
 simp only []
 rw [if_neg (by omega), List.getD_eq_getElem?_getD, List.getElem?_eq_getElem (by omega)]
 simp only [Option.getD_some]
 rw [if_neg]
 omega
theorem Qju {m : Int} {n : Nat} (h : ¬ Qel m (2 ^ n) = 0) : Yw m (n + 1) = Yw m n ++ [(n : Int) - 1] := by rw [Yw, if_neg h]
theorem QkU {m : Int} {n : Nat} (h : Qel m (2 ^ n) = 0) : Yw m (n + 1) = Yw m n := by rw [Yw, if_pos h, List.append_nil]
theorem QoZ {w : Zf} {u : Int} (h0 : 0 <= u) (h : u < w.length) : inW w u = true := by simp [inW, h0, h]
theorem Qlc {w : Zf} {u : Int} (h : u < 0 \/ (w.length : Int) <= u) : inW w u = false := by
 simp only [inW, Bool.and_eq_false_iff, decide_eq_false_iff_not]; omega
theorem Qe9 {w : Zf} {u : Int} : inW w u = true ↔ 0 <= u /\ u < w.length := by simp [inW]
theorem Qhg {e : Int} (h1 : 0 <= e) (h2 : e <= 18446744073709551615) : IntKind.u64.wrap e = e := by
 unfold IntKind.wrap
 simp only [IntKind.bits, IntKind.signed, Bool.false_and, Bool.false_eq_true, if_false]
 omega
end M25
namespace Go.Proofs
open Go Go.Abs M3 M25
set_option linter.unusedVariables false
set_option linter.unusedSimpArgs false
theorem XU {w : Zf} (hw : WSm w) {u : Int} : Ok Tryd.prog 14 [QbM w, .int .i64 u] (.int .i64 (QaM w u)) := by
 refine Ok.ofT Z3 Tryd.func14 Qqt (Nat.le_of_ble_eq_true Z) ?_
 show TW _ _ tf14.body _ _
 refine Qe fun K hK => ZI Z Z Z (Qb Z (hK _ _ (Qa (kp2 Z Z) ?_)))
 refine QH ?_ -- 0
 refine Qe fun K hK => Qb Z (YH Z Z (Qb Z ?_))
 refine Qv (g := 7) Z (fun h1 => ?_) (fun h1 => ?_)
 ·try rw [h1]
  try simp only [qA] at h1
  refine Qr Z (Qr Z (Qr Z (Qr Z (Qr Z (Qi Z Z (hK _ _ (Qa (kp3 Z Z Z) ?_)))))))
  refine Zj Z (Qe fun K hK => Qb Z (hK _ _ (Qa (kp1 Z) ?_)))
  refine Qq (Qk (Qs Z ?_))
  rw [Qdu (by omega)]
 ·try rw [h1]
  try simp only [qA] at h1
  refine Qg Z (Qb Z (Qg Z (Qh Z Z (Qg Z (QF Z Z Z (Qg Z (ZF Z Z (Qg Z (Qiy Z Z (Qi Z Z (hK _ _ (Qa (kp3 Z Z Z) ?_))))))))))))
  refine QA Z (fun h2 => ?_) (fun h2 => ?_)
  ·try rw [h2]
   try simp only [qA] at h2
   refine Qe fun K hK => Qb Z (hK _ _ (Qa (kp1 Z) ?_))
   refine Qq (Qk (Qs Z ?_))
   rw [Qdu (by omega)]
  ·try rw [h2]
   try simp only [qA] at h2
   refine Qx (Qf (kp2 Z Z) (Qe fun K hK => Qh Z Z (QF Z Z Z (Qb Z (Q3 Z Z Z (by omega) (Yj (by omega) (by omega)) Z (ZW Z Z (QF Z Z Z (ZF Z Z (QpC Z Z (Zi Z Z (by first | exact Qu (by omega) (by omega) | rfl) ?_))))))))))
   refine Qy (Qab (by omega) (by omega)) Z Z (.inr Z) (Qc1 Z Z (Qip (by omega)) (Qb Z (hK _ _ (Qa (kp1 Z) ?_))))
   refine Qq (Qs Z ?_)
   rw [Qeu (by omega) (by omega), List.length_map, QpR]
theorem Yq {w : Zf} (hw : WSm w) {x : WantT} (hx : Sm x.s.1 /\ Sm x.s.2) : Ok Tryd.prog 16 [QbM w, .agg (QaL x)] (.int .i64 (Qmw w x)) := by
 refine Ok.ofT Z3 Tryd.func16 Qqv (Nat.le_of_ble_eq_true Z) ?_
 show TW _ _ tf16.body _ _
 refine Qe fun K hK => ZI Z Z Z (ZI Z Z Z (Qb Z (hK _ _ (Qa (kp2 Z Z) ?_))))
 refine QH ?_ -- 0
 refine Qe fun K hK => Qh Z Z (QF Z Z Z (YH Z Z (Qb Z ?_)))
 refine Qv (g := 11) Z (fun h1 => ?_) (fun h1 => ?_)
 ·try rw [h1]
  try simp only [qA] at h1
  refine Qr Z (Qr Z (Qr Z (Qr Z (Qr Z (Qr Z (Qi Z Z (hK _ _ (Qa (kp3 Z Z Z) ?_))))))))
  refine Zj Z (Qe fun K hK => Qb Z (hK _ _ (Qa (kp1 Z) ?_)))
  refine Qq (Qk (Qs Z ?_))
  rw [Qev (by omega)]
 ·try rw [h1]
  try simp only [qA] at h1
  refine Qg Z (Qh Z Z (Qg Z (QF Z Z Z (Qg Z (Qh Z Z (Qg Z (QF Z Z Z (Qg Z (ZF Z Z (Qg Z (Qiy Z Z ?_)))))))))))
  refine Qi Z Z (hK _ _ (Qa (kp3 Z Z Z) ?_))
  refine QA Z (fun h2 => ?_) (fun h2 => ?_)
  ·try rw [h2]
   try simp only [qA] at h2
   refine Qe fun K hK => Qb Z (hK _ _ (Qa (kp1 Z) ?_))
   refine Qq (Qk (Qs Z ?_))
   rw [Qev (by omega)]
  ·try rw [h2]
   try simp only [qA] at h2
   refine Qx (Qf (kp2 Z Z) (Qe fun K hK => Qb Z (hK _ _ (Qa (kp3 Z Z Z) ?_))))
   refine Qe fun K hK => Qh Z Z (QF Z Z Z (Qh Z Z (QF Z Z Z (Q3 Z Z Z (by omega) (Yj (by omega) (by omega)) Z (ZW Z Z (QF Z Z Z (Qb Z (hK _ _ (Qa (kp3 Z Z Z) ?_)))))))))
   refine QH ?_ -- 1
   refine Qe fun K hK => Qb Z (hK _ _ (Qa (kp4 Z Z Z Z) ?_))
   refine QM ?_
   refine Z8 (ι := Nat) (fun i => ⟨[(3, .ref 3 0 0), (5, .int .i64 (QaP x.s (w[x.u.toNat]'(by omega)).cs i)), (6, Qag (w[x.u.toNat]'(by omega)).cs), (7, .int .i64 i)], [(3, ⟨[[.int .i64 (x).u, Q5 (x).s.1, Q5 (x).s.2]], 3, 32, true⟩)]⟩) (fun i => i <= (min (w[x.u.toNat]'(by omega)).cs.length 16)) (fun i => (min (w[x.u.toNat]'(by omega)).cs.length 16) - i) 0 ?_ ?_ ?_
   ·exact Zx (l := [3, 5, 6, 7]) (lH := [3]) (kp4 rfl rfl rfl rfl) (Qz rfl QC) rfl rfl rfl
   ·exact Nat.zero_le _
   intro i hI
   try dsimp only
   refine QH ?_ -- 2
   refine Qe fun K hK => Qb Z (Qb Z (ZF Z Z (YH Z Z (Qb Z ?_))))
   refine Qv (g := 30) Z (fun h3 => ?_) (fun h3 => ?_)
   ·try rw [h3]
    try simp only [qA] at h3
    refine Qg Z (Qb Z (Qg Z (YH Z Z (Qi Z Z (hK _ _ (Qa (kp5 Z Z Z Z Z) ?_))))))
    refine QA Z (fun h4 => ?_) (fun h4 => ?_)
    ·try rw [h4]
     try simp only [qA] at h4
     refine Qx (Qf (kp4 Z Z Z Z) ?_)
     refine QH ?_ -- 3
     refine QM (Qe fun K hK => Qh Z Z (QG (ds0 := [0]) (cs := [_, _]) Z Z Z Z Z Z (Qb Z (Qb Z (Q3 Z Z Z (by omega) (ZT (by omega)) Z (ZW Z Z (QG (ds0 := [0]) (cs := [_, _, _, _, _]) Z Z Z Z Z Z (QU (ds0 := []) (Qdc hx.1 hx.2 (hw.vs _ (List.getElem_mem _) _ (List.getElem_mem (by omega))).1 (hw.vs _ (List.getElem_mem _) _ (List.getElem_mem (by omega))).2) Z Z (.inr Z) Z Z (hK _ _ (Qa (kp5 Z Z Z Z Z) ?_))))))))))
     refine QA Z (fun h5 => ?_) (fun h5 => ?_)
     ·try rw [h5]
      try simp only [qA] at h5
      refine Ze fun K hK => Qb Z (Qb Z (Zi Z Z (by first | exact Qu (by omega) (by omega) | rfl) (Qy (Qab (by omega) (by omega)) Z Z (.inr Z) (Zi Z Z (QmR _ _ (by omega)) (Qb Z (hK _ ?_))))))
      refine Ql (Qf (kp4 Z Z Z Z) (Ze fun K hK => Qb Z (Zi Z Z (by first | exact Qu (by omega) (by omega) | rfl) (Qb Z (hK _ ?_)))))
      refine Qo (i + 1) ?_ ?_ ?_
      ·exact Zx (l := [3, 5, 6, 7]) (lH := [3]) (kp4 rfl rfl rfl rfl) (Qz rfl QC) (by rw [Qfn (by omega) (by assumption)]; rfl) rfl rfl
      ·omega
      ·first | omega | (simp only; omega) | (dsimp only; omega)
     ·try rw [h5]
      try simp only [qA] at h5
      refine Qx (Ql (Qf (kp4 Z Z Z Z) (Ze fun K hK => Qb Z (Zi Z Z (by first | exact Qu (by omega) (by omega) | rfl) (Qb Z (hK _ ?_))))))
      refine Qo (i + 1) ?_ ?_ ?_
      ·exact Zx (l := [3, 5, 6, 7]) (lH := [3]) (kp4 rfl rfl rfl rfl) (Qz rfl QC) (by rw [QgY (by omega) (by assumption)]; rfl) rfl rfl
      ·omega
      ·first | omega | (simp only; omega) | (dsimp only; omega)
    ·try rw [h4]
     try simp only [qA] at h4
     refine ZA (QR (QD (QK (Qf (kp1 Z) (Qe fun K hK => Qb Z (Qb Z (hK _ _ (Qa (kp1 Z) ?_))))))))
     refine Qq (Qs Z ?_)
     rw [QgV (by omega) (by omega), show i = min (w[x.u.toNat]'(by omega)).cs.length 16 by omega]
   ·try rw [h3]
    try simp only [qA] at h3
    refine Qr Z (Qr Z (Qi Z Z (hK _ _ (Qa (kp5 Z Z Z Z Z) ?_))))
    refine ZD Z (ZA (QR (QD (QK (Qf (kp1 Z) (Qe fun K hK => Qb Z (Qb Z (hK _ _ (Qa (kp1 Z) ?_)))))))))
    refine Qq (Qs Z ?_)
    rw [QgV (by omega) (by omega), show i = min (w[x.u.toNat]'(by omega)).cs.length 16 by omega]
end Go.Proofs
namespace M25
open Go Go.Abs M3
end M25
namespace M25
open Go Go.Abs M3
/-! ### Bits of numbers -/
theorem Qhf (e : Int) : IntKind.i64.wrap e = (BitVec.ofInt 64 e).toInt := by
 have hb : (BitVec.ofInt 64 e).toInt = if e % 18446744073709551616 < 9223372036854775808 then e % 18446744073709551616 else e % 18446744073709551616 - 18446744073709551616 := by
  rw [BitVec.toInt_ofInt]; rfl
 rw [hb]
 unfold IntKind.wrap
 simp only [IntKind.bits, IntKind.signed, Bool.true_and]
 split
 ·rename_i h
  have := of_decide_eq_true h
  split <;> omega
 ·rename_i h
  have : ¬ (e % 2 ^ 64 >= 2 ^ (64 - 1)) := fun hh => h (decide_eq_true hh)
  split <;> omega
theorem QcT (b : BitVec 64) : BitVec.ofInt 64 (b.toNat : Int) = b := by
 rw [BitVec.ofInt_natCast, BitVec.ofNat_toNat, BitVec.setWidth_eq]
theorem QoO (x y : Int) : BitVec.ofInt 64 (Qel x y) = BitVec.ofInt 64 x &&& BitVec.ofInt 64 y := by
 show BitVec.ofInt 64 (IntKind.i64.wrap ((BitVec.ofInt 64 x &&& BitVec.ofInt 64 y).toNat : Int)) = _
 rw [Qhf, BitVec.ofInt_toInt, QcT]
theorem QpJ (x y : Int) : BitVec.ofInt 64 (bor x y) = BitVec.ofInt 64 x ||| BitVec.ofInt 64 y := by
 show BitVec.ofInt 64 (IntKind.i64.wrap ((BitVec.ofInt 64 x ||| BitVec.ofInt 64 y).toNat : Int)) = _
 rw [Qhf, BitVec.ofInt_toInt, QcT]
theorem QoP (x y : Int) : BitVec.ofInt 64 (Qir x y) = BitVec.ofInt 64 x &&& ~~~ BitVec.ofInt 64 y := by
 show BitVec.ofInt 64 (IntKind.i64.wrap ((BitVec.ofInt 64 x &&& ~~~ BitVec.ofInt 64 y).toNat : Int)) = _
 rw [Qhf, BitVec.ofInt_toInt, QcT]
theorem Qmk {x : Int} (h : I64 x) : IntKind.i64.wrap x = x := Qu h.1 h.2
theorem QmW {x : Int} (h : I64 x) : (BitVec.ofInt 64 x).toInt = x := by rw [<- Qhf, Qmk h]
theorem QnT (x y : Int) : I64 (Qel x y) := QfD _
theorem QoV (x y : Int) : I64 (bor x y) := QfD _
def tb (x : Int) (i : Nat) : Bool := (BitVec.ofInt 64 x).getLsbD i
theorem Qpk (x y : Int) (i : Nat) : tb (Qel x y) i = (tb x i && tb y i) := by rw [tb, QoO, BitVec.getLsbD_and]; rfl
theorem Qpm (x y : Int) (i : Nat) : tb (bor x y) i = (tb x i || tb y i) := by rw [tb, QpJ, BitVec.getLsbD_or]; rfl
theorem Qpl (x y : Int) {i : Nat} : tb (Qir x y) i = (tb x i && !tb y i) := by
 rw [tb, QoP, BitVec.getLsbD_and, BitVec.getLsbD_not]
 by_cases h : i < 64
 ·simp [h, tb]
 ·simp [tb, BitVec.getLsbD_of_ge _ i (by omega : 64 <= i)]
theorem QlL (x : Int) {i : Nat} (h : 64 <= i) : tb x i = false := BitVec.getLsbD_of_ge _ i h
theorem Qnh {x y : Int} (hx : I64 x) (hy : I64 y) (h : ∀ i, tb x i = tb y i) : x = y := by
 rw [<- QmW hx, <- QmW hy]
 congr 1
 exact BitVec.eq_of_getLsbD_eq fun i _ => h i
theorem Qha (i : Nat) : tb 0 i = false := by
 show (BitVec.ofInt 64 0).getLsbD i = false
 rw [show BitVec.ofInt 64 0 = 0#64 from rfl, BitVec.getLsbD_zero]
theorem QiN {x : Int} (hx : I64 x) : x = 0 ↔ ∀ i, tb x i = false := by
 constructor
 ·rintro rfl i; exact Qha i
 ·intro h; exact Qnh hx ⟨by omega, by omega⟩ fun i => by rw [h i, Qha]
theorem Qj5 (n : Nat) {i : Nat} (h : i < 64) : tb (n : Int) i = n.testBit i := by
 rw [tb, BitVec.ofInt_natCast, BitVec.getLsbD_ofNat]; simp [h]
theorem Qin {k : Nat} (hk : k < 64) (i : Nat) : tb ((2 : Int) ^ k) i = decide (i = k) := by
 have e : ((2 ^ k : Nat) : Int) = (2 : Int) ^ k := by simp
 by_cases h : i < 64
 ·rw [<- e, Qj5 _ h, Nat.testBit_two_pow]
  exact decide_eq_decide.2 eq_comm
 ·rw [QlL _ (by omega)]; exact (decide_eq_false (by omega)).symm
theorem Ql2 {x m : Int} : Qel x m = 0 ↔ ∀ i, tb x i = true -> tb m i = false := by
 rw [QiN (QnT x m)]
 refine forall_congr' fun i => ?_
 rw [Qpk]; cases tb x i <;> cases tb m i <;> simp
def Lo (x : Int) : Prop := 0 <= x /\ x < 131072
theorem Qjm {x : Int} {k : Nat} (hk : k < 64) : Qel x (2 ^ k) = 0 ↔ tb x k = false := by
 rw [Ql2]
 constructor
 ·intro h
  cases hx : tb x k
  ·rfl
  ·have := h k hx; rw [Qin hk] at this; simp at this
 ·intro h i hi
  rw [Qin hk]
  by_cases e : i = k
  ·subst e; rw [h] at hi; cases hi
  ·exact decide_eq_false e
end M25
namespace M25
open Go Go.Abs M3
/-! ### Trails: the loops' laws -/
theorem Qk3 {w : Zf} {u : Int} : QaM w u = 0 ↔ inW w u = false := by
 constructor
 ·intro h
  cases hw : inW w u
  ·rfl
  ·rw [Qe9] at hw
   rw [Qeu hw.1 hw.2] at h
   have h2 : 2 <= (2 : Int) ^ (min (w[u.toNat]'(by omega)).cs.length 16 + 1) := by
    rw [Int.pow_succ]
    have := Qn5 (n := min (w[u.toNat]'(by omega)).cs.length 16) (by omega)
    omega
   omega
 ·intro h
  refine Qdu (Classical.byContradiction fun hn => ?_)
  rw [QoZ (by omega) (by omega)] at h; cases h
def Qoy (w : Zf) (l : List Qba) : Prop := ∀ s ∈ l, Lo s.m
end M25
namespace M25
open Go Go.Abs M3
theorem QlR {v : Int} (h : (v + 1).toNat <= 61) : IntKind.i64.wrap ((1 : Int) * 2 ^ min (v + 1).toNat IntKind.i64.bits) = 2 ^ (v + 1).toNat := by
 rw [show min (v + 1).toNat IntKind.i64.bits = (v + 1).toNat from by simp only [IntKind.bits]; omega, Int.one_mul]
 have := QiX (i := (v + 1).toNat) (by omega)
 exact Qu (by omega) (by omega)
end M25
namespace Go.Proofs
open Go Go.Abs M3 M25
set_option linter.unusedVariables false
set_option linter.unusedSimpArgs false
theorem Qb8 {v : Int} (h0 : -1 <= v) (h1v : v <= 60) : Ok Tryd.prog 40 [.int .i64 v] (.int .i64 (2 ^ (v + 1).toNat)) := by
 refine Ok.ofT Z3 Tryd.func40 QqI (Nat.le_of_ble_eq_true Z) ?_
 show TW _ _ tf40.body _ _
 refine Qe fun K hK => Qb Z (hK _ _ (Qa (kp1 Z) ?_))
 refine Qe fun K hK => Qb Z (Zi Z Z (by first | exact Qu (by omega) (by omega) | rfl) (QpD Z Z (by omega) (QlR (by omega)) (Qb Z (hK _ _ (Qa (kp1 Z) ?_)))))
 refine Qq (Qs Z ?_)
 rfl
theorem QfW {w : Zf} (hw : WSm w) {u : Int} : Ok Tryd.prog 39 [QbM w, .int .i64 u] (.bool (inW w u)) := by
 refine Ok.ofT Z3 Tryd.func39 QqH (Nat.le_of_ble_eq_true Z) ?_
 show TW _ _ tf39.body _ _
 refine Qe fun K hK => ZI Z Z Z (Qb Z (hK _ _ (Qa (kp2 Z Z) ?_)))
 refine Qe fun K hK => Qb Z (Qiy Z Z (Qb Z ?_))
 refine Qv (g := 7) Z (fun h1 => ?_) (fun h1 => ?_)
 ·try rw [h1]
  try simp only [qA] at h1
  refine Qg Z (Qb Z (Qg Z (Qh Z Z (Qg Z (QF Z Z Z (Qg Z ?_))))))
  first | refine ZF rfl YE ?_ | refine ZF rfl rfl ?_
  refine Qg Z (YH Z Z (Qi Z Z (Qb Z (hK _ _ (Qa (kp1 Z) ?_)))))
  refine Qq (Qm Z ?_)
  first | rfl | (rw [Qlc (by omega)]; done) | (rw [inW, decide_eq_true h1, Bool.true_and])
 ·try rw [h1]
  try simp only [qA] at h1
  refine Qr Z (Qr Z (Qr Z (Qr Z (Qr Z (Qi Z Z (Qb Z (hK _ _ (Qa (kp1 Z) ?_))))))))
  refine Qq (Qm Z ?_)
  first | rfl | (rw [Qlc (by omega)]; done) | (rw [inW, decide_eq_true h1, Bool.true_and])
theorem Qbc {w : Zf} (hw : WSm w) {u : Int} : Ok Tryd.prog 13 [QbM w, .int .i64 u] (.int .i64 (QaM w u)) := by
 refine Ok.ofT Z3 Tryd.func13 Qqs (Nat.le_of_ble_eq_true Z) ?_
 show TW _ _ tf13.body _ _
 refine Qe fun K hK => ZI Z Z Z (Qb Z (hK _ _ (Qa (kp2 Z Z) ?_)))
 refine QH ?_ -- 0
 refine Qe fun K hK => QE (cs := [_]) Z Z Z Z (Qb Z (Qy (QfW hw) Z Z (.inr Z) (ZM Z (hK _ _ (Qa (kp3 Z Z Z) ?_)))))
 refine QA Z (fun h1 => ?_) (fun h1 => ?_)
 ·try rw [h1]
  try simp only [qA] at h1
  try have h1b := Qe9.1 h1
  refine Qe fun K hK => Qb Z (hK _ _ (Qa (kp1 Z) ?_))
  refine Qq (Qk (Qs Z ?_))
  rw [Qk3.2 h1]
 ·try rw [h1]
  try simp only [qA] at h1
  try have h1b := Qe9.1 h1
  refine Qx (Qf (kp2 Z Z) (Qe fun K hK => Qh Z Z (QF Z Z Z (Qb Z (Q3 Z Z Z (by omega) (Yj (by omega) (by omega)) Z (ZW Z Z (QF Z Z Z ?_)))))))
  first | refine ZF rfl YE ?_ | refine ZF rfl rfl ?_
  refine Qy (Qb8 (by omega) (by have := hw.cs _ (List.getElem_mem (show u.toNat < w.length by omega)); omega)) Z Z (.inr Z) (Qc1 Z Z (Qip (by have := hw.cs _ (List.getElem_mem (show u.toNat < w.length by omega)); omega)) (Qb Z (hK _ _ (Qa (kp1 Z) ?_))))
  refine Qq (Qs Z ?_)
  rw [Qeu h1b.1 h1b.2, show min (w[u.toNat]'(by omega)).cs.length 16 = (w[u.toNat]'(by omega)).cs.length from Nat.min_eq_left (hw.cs _ (List.getElem_mem _)), Qni]
end Go.Proofs
namespace M25
open Go Go.Abs M3
/-! ### prop: what is left of each unit, scans -/
structure Qox (w : Zf) (db : List (List QfG)) (l : List Qba) (a : Nat) (k : Nat) : Prop where
  ha : a < db.length
  hk : k < db[a].length
  eq : QpP w db l = ((a : Int), db[a][k].u)
  one : Qh5 (QfO w l db[a][k].u) db[a][k].m = 1
  two : ∀ j, ∀ hj : j < db[a].length, j ≠ k -> Qh5 (QfO w l db[a][j].u) db[a][j].m = 2
def Qqk (w : Zf) (l : List Qba) (t : QfG) (c : Int) : Qba := ⟨t.u, Qir (QfO w l t.u) t.m, Qo6 l, c⟩
end M25
namespace M25
open Go Go.Abs M3
/-! ### Sets that are made: moderate sizes -/
theorem Qmj (l : List (Cu × Cu)) (x y : Cu) : (QbU l x y).length <= l.length + 1 := Qh0 l x y
theorem QgH (f : Cu -> Cu -> Bool) : ∀ (c : List Cu) (out : List (Cu × Cu)), (∀ x ∈ c, Cu.sm x) -> (∀ s ∈ out, Cu.sm s.1 /\ Cu.sm s.2) -> (QbT f c out).length <= out.length + c.length /\ ∀ s ∈ QbT f c out, Cu.sm s.1 /\ Cu.sm s.2
 | [], out, _, h => ⟨by simp [QbT], by simpa [QbT] using h⟩
 | [x], out, _, h => ⟨by simp [QbT], by simpa [QbT] using h⟩
 | x :: y :: r, out, hc, h => by
  rw [QbT]
  have hxy := Qmj out x y
  split
  ·obtain ⟨h1, h2⟩ := QgH f (y :: r) (QbU out x y) (fun z hz => hc z (by simp at hz ⊢; exact .inr hz)) (QjM h (hc x (by simp)) (hc y (by simp)))
   exact ⟨by simp only [List.length_cons] at h1 ⊢; omega, h2⟩
  ·obtain ⟨h1, h2⟩ := QgH f (y :: r) out (fun z hz => hc z (by simp at hz ⊢; exact .inr hz)) h
   exact ⟨by simp only [List.length_cons] at h1 ⊢; omega, h2⟩
def SmN (n : Nat) (l : List (Cu × Cu)) : Prop := l.length <= n /\ ∀ s ∈ l, Cu.sm s.1 /\ Cu.sm s.2
theorem SmN.sm {n : Nat} {l : List (Cu × Cu)} (h : SmN n l) (hn : n <= 1000000) : Sm l := ⟨Nat.le_trans h.1 hn, h.2⟩
theorem SmN.up {n m : Nat} {l : List (Cu × Cu)} (h : SmN n l) (hn : n <= m) : SmN m l := ⟨Nat.le_trans h.1 hn, h.2⟩
theorem SmN.nil (n : Nat) : SmN n [] := ⟨Nat.zero_le _, by simp⟩
theorem Qm8 {a b : List (Cu × Cu)} {n m : Nat} (ha : SmN n a) (hb : SmN m b) (h : n + m <= 1000000) : SmN (2 + 2 * (n + m)) (Qm6 a b) := by
 unfold Qm6
 split
 ·have hab : Sm (a ++ b) := (ha.sm (by omega)).app (hb.sm (by omega)) (by have := ha.1; have := hb.1; omega)
  unfold QiS
  split
  ·obtain ⟨h1, h2⟩ := QgH (mIn (a ++ b)) (YU (a ++ b)) [] (Yy hab) (by simp)
   have := QbS (a ++ b)
   have := ha.1
   have := hb.1
   exact ⟨by simp only [List.length_nil, List.length_append] at *; omega, h2⟩
  ·exact SmN.nil _
 ·exact SmN.nil _
theorem Qls {a : List (Cu × Cu)} {n : Nat} (ha : SmN n a) (h : n <= 1000000) : SmN (2 + 2 * n) (QiT a) := by
 unfold QiT
 split
 ·obtain ⟨h1, h2⟩ := QgH (fun x y => !mIn a x y) (YU a) [] (Yy (ha.sm h)) (by simp)
  have := QbS a
  have := ha.1
  exact ⟨by simp only [List.length_nil] at *; omega, h2⟩
 ·exact SmN.nil _
def Qjj (n : Nat) (s : QdI) : Prop := SmN n s.1 /\ SmN n s.2
theorem Qpb {a b : QdI} {n m : Nat} (ha : Qjj n a) (hb : Qjj m b) (h : n + m <= 1000000) : Qjj (2 + 2 * (n + m)) (Qmx a b) := by
 unfold Qmx
 split
 ·exact ⟨Qm8 ha.1 hb.1 h, Qm8 ha.2 hb.2 h⟩
 ·exact ⟨SmN.nil _, SmN.nil _⟩
theorem QgZ {a : QdI} {n : Nat} (ha : Qjj n a) (h : n <= 1000000) : Qjj (2 + 2 * n) (QdU a) := by
 unfold QdU
 split
 ·exact ⟨Qls ha.1 h, Qls ha.2 h⟩
 ·exact ⟨SmN.nil _, SmN.nil _⟩
theorem Qcm (e a b c : Int) (f : Bool) : Cu.sm ⟨e, a, b, c, [], [], f⟩ := ⟨Nat.zero_le _, Nat.zero_le _⟩
theorem Xo {a b c : Int} {p q : List UInt8} (hp : p.length <= 1000000) : Qjj 1 (YL a b c p q) := by
 unfold YL
 split
 ·exact ⟨SmN.nil _, SmN.nil _⟩
 ·split
  ·refine ⟨SmN.nil _, ⟨Nat.le_refl _, fun s hs => ?_⟩⟩
   simp only [List.mem_singleton] at hs; subst hs
   exact ⟨⟨hp, Nat.zero_le _⟩, ⟨hp, Nat.zero_le _⟩⟩
  ·refine ⟨⟨Nat.le_refl _, fun s hs => ?_⟩, SmN.nil _⟩
   simp only [List.mem_singleton] at hs; subst hs
   constructor
   ·unfold Qfj; split
    ·exact Qcm ..
    ·exact Qcm ..
   ·unfold Qdt; split
    ·exact Qcm ..
    ·exact Qcm ..
def Qgt : QdI := ([(QcB, QfL)], [(QcB, QfL)])
theorem Qjk : Qjj 1 Qgt := by
 have h : SmN 1 [(QcB, QfL)] := ⟨Nat.le_refl _, fun s hs => by simp only [List.mem_singleton] at hs; subst hs; exact ⟨Qcm .., Qcm ..⟩⟩
 exact ⟨h, h⟩
def bnd (i : Nat) : Nat := 4 * 2 ^ i
theorem QkH {i : Nat} (h : i <= 16) : bnd i <= 262144 := by
 have : 2 ^ i <= 2 ^ 16 := Nat.pow_le_pow_right (by omega) h
 have e : (2 : Nat) ^ 16 = 65536 := by decide
 unfold bnd; omega
theorem Qnf {s : QdI} {i : Nat} (h : Qjj (bnd i - 4) s) {a b c : Int} {p q : List UInt8} (hp : p.length <= 1000000) (hi : i <= 16) : Qjj (bnd (i + 1) - 4) (Qmx s (YL a b c p q)) := by
 have h1 := QkH hi
 have h4 : 4 <= bnd i := by unfold bnd; have := Nat.one_le_two_pow (n := i); omega
 have := Qpb h (Xo (a := a) (b := b) (c := c) (q := q) hp) (by omega)
 have e : bnd (i + 1) = 2 * bnd i := by unfold bnd; rw [Nat.pow_succ]; omega
 exact ⟨this.1.up (by omega), this.2.up (by omega)⟩
theorem Qj2 {s : QdI} {i : Nat} (h : Qjj (bnd i - 4) s) : Qjj (bnd (i + 1) - 4) s := by
 have e : bnd (i + 1) = 2 * bnd i := by unfold bnd; rw [Nat.pow_succ]; omega
 exact ⟨h.1.up (by omega), h.2.up (by omega)⟩
def SetOk (s : QdI) : Prop := Qjj 600000 s
theorem SetOk.sm {s : QdI} (h : SetOk s) : Sm s.1 /\ Sm s.2 := ⟨h.1.sm (by omega), h.2.sm (by omega)⟩
structure CR where
 v : Vr
 x : D
 y : D
 z : D
def dCR (r : CR) : List D := [.int .i64 r.v.a, .int .i64 r.v.b, .int .i64 r.v.c, .str r.v.p, .str r.v.q, r.x, r.y, r.z]
def CR.ren (r : CR) : CR := ⟨r.v, r.x.renS upN, r.y.renS upN, r.z.renS upN⟩
theorem QkO (l : List CR) : (l.map dCR).map (fun r => r.map (D.renS upN)) = (l.map CR.ren).map dCR := by
 rw [List.map_map, List.map_map]; rfl
structure UR where
 n : List UInt8
 f : List UInt8
 k : Nat
 cs : List CR
def dUR (u : UR) : List D := [.str u.n, .str u.f, .osl u.k u.cs.length]
def UR.ren (u : UR) : UR := ⟨u.n, u.f, upN u.k, u.cs.map CR.ren⟩
theorem QnP (l : List UR) : (l.map dUR).map (fun r => r.map (D.renS upN)) = (l.map UR.ren).map dUR := by
 rw [List.map_map, List.map_map]
 refine List.map_congr_left fun u _ => ?_
 simp [dUR, UR.ren, D.renS]
structure Fam (H : List (Nat × Box)) (kg ku eu ec : Nat) (us : List UR) : Prop where
 ne : ku ≠ kg
 u : ∃ pr, lk H ku = some ⟨us.map dUR, 3, eu, pr⟩
 c : ∀ y ∈ us, y.k ≠ kg /\ ∃ pr, lk H y.k = some ⟨y.cs.map dCR, 8, ec, pr⟩
 v : ∀ y ∈ us, y.cs.length <= 16 /\ ∀ z ∈ y.cs, Qej z.v
theorem Fam.up {H : List (Nat × Box)} {kg ku eu ec : Nat} {us : List UR} (h : Fam H kg ku eu ec us) : Fam (upH H) (upN kg) (upN ku) eu ec (us.map UR.ren) := by
 obtain ⟨h1, ⟨pu, h2⟩, h3, h4⟩ := h
 refine ⟨fun e => h1 (Qi8 e), ⟨pu, ?_⟩, fun y hy => ?_, fun y hy => ?_⟩
 ·rw [XZ, h2, Option.map_some, Box.ren, QnP]
 ·obtain ⟨u, hu, rfl⟩ := List.mem_map.1 hy
  obtain ⟨q1, pr, q2⟩ := h3 u hu
  refine ⟨fun e => q1 (Qi8 e), pr, ?_⟩
  show lk (upH H) (upN u.k) = _
  rw [XZ, q2, Option.map_some, Box.ren, QkO]; rfl
 ·obtain ⟨u, hu, rfl⟩ := List.mem_map.1 hy
  obtain ⟨q1, q2⟩ := h4 u hu
  refine ⟨by simpa [UR.ren] using q1, fun z hz => ?_⟩
  obtain ⟨z0, hz0, rfl⟩ := List.mem_map.1 hz
  exact q2 z0 hz0
theorem Fam.cons {H : List (Nat × Box)} {kg ku eu ec : Nat} {us : List UR} (h : Fam H kg ku eu ec us) {b : Box} : Fam ((kg, b) :: H) kg ku eu ec us := by
 obtain ⟨h1, ⟨pu, h2⟩, h3, h4⟩ := h
 exact ⟨h1, ⟨pu, Qj (Ne.symm h1) h2⟩, fun y hy => let ⟨q1, pr, q2⟩ := h3 y hy; ⟨q1, pr, Qj (Ne.symm q1) q2⟩, h4⟩
def WantIn (n : Nat) (x : WantT) : Prop := 1 <= x.u /\ x.u < n /\ SetOk x.s
def Qht (n : Nat) (r : List WantT) : Prop := r.length <= 2 /\ ∀ x ∈ r, WantIn n x
def QeK (n : Nat) (m : Int) (ns : List (List WantT)) : Prop := (ns.length : Int) <= m /\ ∀ r ∈ ns, Qht n r
theorem Qn7 {n : Nat} {x : WantT} (h : WantIn n x) : Qht n [x] := ⟨by simp, by intro y hy; simp only [List.mem_singleton] at hy; subst hy; exact h⟩
theorem Qn8 {n : Nat} {x y : WantT} (h : WantIn n x) (h' : WantIn n y) : Qht n [x, y] := ⟨by simp, by
 intro z hz
 simp only [List.mem_cons, List.not_mem_nil, or_false] at hz
 rcases hz with rfl | rfl
 ·exact h
 ·exact h'⟩
theorem QlE {n : Nat} {ns : List (List WantT)} {r : List WantT} (h : ∀ r ∈ ns, Qht n r) (hr : Qht n r) : ∀ x ∈ ns ++ [r], Qht n x := fun x hx => by
 rcases List.mem_append.1 hx with hx | hx
 ·exact h x hx
 ·simp only [List.mem_singleton] at hx; subst hx; exact hr
end M25
namespace M25
open Go Go.Abs M3
/-! ### The boxes of a world under way -/
def fbx (ec : Nat) (us : List UR) : List (Nat × Box) := us.map fun u => (u.k, ⟨u.cs.map dCR, 8, ec, true⟩)
def Z7 (us : List UR) : Prop := ∀ j, ∀ h : j < us.length, us[j].k = 500001 + j
theorem QhU {us : List UR} {u : UR} (h : Z7 us) (hu : u.k = 500001 + us.length) : Z7 (us ++ [u]) := fun j hj => by
 rw [List.length_append, List.length_singleton] at hj
 by_cases e : j < us.length
 ·rw [List.getElem_append_left e]; exact h j e
 ·have : j = us.length := by omega
  subst this
  rw [List.getElem_append_right (Nat.le_refl _)]; simpa using hu
theorem Qe1 (ec : Nat) (us : List UR) : QlV (fbx ec us) := fun p hp => by
 obtain ⟨u, _, rfl⟩ := List.mem_map.1 hp; rfl
theorem Qge {ec : Nat} : ∀ {us : List UR} {k : Nat} {b : Box}, lk (fbx ec us) k = some b -> ∃ u ∈ us, k = u.k /\ b = ⟨u.cs.map dCR, 8, ec, true⟩
 | [], _, _, h => by cases h
 | u :: us, k, b, h => by
  simp only [fbx, List.map_cons] at h
  rw [Qn] at h
  split at h
  ·rename_i e; cases h; exact ⟨u, by simp, e.symm, rfl⟩
  ·obtain ⟨v, hv, q⟩ := Qge (us := us) h
   exact ⟨v, by simp [hv], q⟩
theorem Qbl {us : List UR} (h : Z7 us) {u : UR} (hu : u ∈ us) : 500001 <= u.k /\ u.k < 500001 + us.length := by
 obtain ⟨j, hj, rfl⟩ := List.getElem_of_mem hu
 have := h j hj
 omega
theorem QgE {ec : Nat} {us : List UR} (h : Z7 us) : Qqc 500001 (fbx ec us) := fun k b hk => by
 obtain ⟨u, hu, rfl, _⟩ := Qge hk
 exact (Qbl h hu).1
theorem YQ {ec : Nat} {us : List UR} (h : Z7 us) {k : Nat} (hk : k < 500001 \/ 500001 + us.length <= k) : lk (fbx ec us) k = none := by
 cases hh : lk (fbx ec us) k with
 | none => rfl
 | some b =>
  obtain ⟨u, hu, rfl, _⟩ := Qge hh
  have := Qbl h hu
  omega
theorem QkZ {ec : Nat} : ∀ {us : List UR} {n : Nat}, (∀ j, ∀ h : j < us.length, us[j].k = n + j) -> ∀ j, ∀ h : j < us.length, lk (fbx ec us) (n + j) = some ⟨us[j].cs.map dCR, 8, ec, true⟩
 | [], _, _, j, hj => by simp at hj
 | u :: us, n, hk, 0, _ => by
  have := hk 0 (by simp)
  simp only [List.getElem_cons_zero, Nat.add_zero] at this
  simp only [fbx, List.map_cons, Nat.add_zero]
  rw [Qn, if_pos this]; rfl
 | u :: us, n, hk, j + 1, hj => by
  have h0 := hk 0 (by simp)
  simp only [List.getElem_cons_zero, Nat.add_zero] at h0
  simp only [fbx, List.map_cons]
  rw [Qn, if_neg (by omega)]
  have := QkZ (ec := ec) (us := us) (n := n + 1) (fun i hi => by
   have := hk (i + 1) (by simpa using hi)
   simp only [List.getElem_cons_succ] at this
   omega) j (by simpa using hj)
  rw [show n + 1 + j = n + (j + 1) by omega] at this
  simp only [List.getElem_cons_succ]
  exact this
theorem QkY {ec : Nat} {us : List UR} (h : Z7 us) {j : Nat} (hj : j < us.length) : lk (fbx ec us) (500001 + j) = some ⟨us[j].cs.map dCR, 8, ec, true⟩ := QkZ h j hj
theorem Qjx (ec : Nat) (us : List UR) (u : UR) : fbx ec (us ++ [u]) = fbx ec us ++ [(u.k, ⟨u.cs.map dCR, 8, ec, true⟩)] := by simp [fbx]
theorem Qmc {ec : Nat} {us : List UR} (h : Z7 us) {kg : Nat} {x y : Box} {u : UR} (hu : u.k = 500001 + us.length) (hkg : u.k ≠ kg) (k : Nat) :
  lk ((u.k, ⟨u.cs.map dCR, 8, ec, true⟩) :: (500000, x) :: (kg, y) :: fbx ec us) k = lk ((500000, x) :: (kg, y) :: fbx ec (us ++ [u])) k := by
 rw [Qjx]
 by_cases e : u.k = k
 ·subst e
  rw [Qt, Qn, if_neg (by omega), Qn, if_neg (Ne.symm hkg), YS (YQ h (.inr (by omega))), Qt]
 ·rw [Qn, if_neg e, Qn, Qn, Qn, Qn]
  split
  ·rfl
  ·split
   ·rfl
   ·rw [ZP]
    cases h2 : lk (fbx ec us) k with
    | some v => rfl
    | none => rw [Qn, if_neg e]; rfl
def zr (v : Vr) (sh : Int) : CR := ⟨v, .int .i64 sh, .fsl [], .fsl []⟩
def Qou (u : UR) : Prop := u.cs.length <= 4 /\ ∀ z ∈ u.cs, ∃ v sh, z = zr v sh /\ Qej v
theorem Qm2 {u : UR} : (dUR u).flatMap D.sid = [u.k] := by simp [dUR, D.sid]
theorem Qbv {us : List UR} {e et : Nat} {k : Nat} (h : k ∈ (Box.ids ⟨us.map dUR, e, et, false⟩)) : ∃ u ∈ us, k = u.k := by
 simp only [Box.ids, Bool.false_eq_true, if_false, List.mem_flatMap, List.mem_map] at h
 obtain ⟨r, ⟨u, hu, rfl⟩, hk⟩ := h
 have : k ∈ (dUR u).flatMap D.sid := List.mem_flatMap.2 hk
 rw [Qm2] at this
 exact ⟨u, hu, by simpa using this⟩
theorem Qof {us : List UR} (h : Z7 us) : ∀ r ∈ us.map dUR, ∀ d ∈ r, 500000 ∉ d.sid := fun r hr d hd hk => by
 obtain ⟨u, hu, rfl⟩ := List.mem_map.1 hr
 have : 500000 ∈ (dUR u).flatMap D.sid := List.mem_flatMap.2 ⟨d, hd, hk⟩
 rw [Qm2] at this
 have h2 := Qbl h hu
 simp only [List.mem_singleton] at this
 omega
theorem Qgu {B F : List (Nat × Box)} {j : Nat} (h : (lk F j).isSome = true) : (lk (B ++ F) j).isSome = true := by
 rw [ZP]; split
 ·rfl
 ·exact h
theorem Qdl {ec : Nat} {us : List UR} (h : Z7 us) {u : UR} (hu : u ∈ us) : (lk (fbx ec us) u.k).isSome = true := by
 obtain ⟨j, hj, rfl⟩ := List.getElem_of_mem hu
 rw [h j hj, QkY h hj]; rfl
theorem QgF {ec : Nat} {us : List UR} {u : UR} (h : Z7 us) (hu : u.k = 500001 + us.length) : lk (fbx ec (us ++ [u])) (500001 + us.length) = some ⟨u.cs.map dCR, 8, ec, true⟩ := by
 rw [Qjx, YS (YQ h (.inr (Nat.le_refl _))), <- hu, Qt]
section
variable {l : List Nat} {fr fr1 fr' : List (Nat × D)} {B : List (Nat × Box)} {kg eg eu ec : Nat} {L : List Int} {J : Int} {us : List UR}
theorem Qqf (hf : Q7 l fr = fr1) (ef : fr1 = fr') (hK : Z7 us) (hu : lk B 500000 = some ⟨us.map dUR, 3, eu, false⟩) (hg : lk B kg = some (gB L J eg)) (hB : ∀ p ∈ B, 500001 <= p.1 -> p.1 = kg) (hkg : kg ≠ 500000)
  (hfr : ∀ p ∈ fr', ∀ k ∈ p.2.ids, k = 500000 \/ k = kg \/ ∃ u ∈ us, k = u.k) : St.le ⟨fr, B ++ fbx ec us⟩ ⟨fr', [(500000, ⟨us.map dUR, 3, eu, false⟩), (kg, gB L J eg)] ++ fbx ec us⟩ := by
 have s0 : ∀ k, (k = 500000 \/ k = kg \/ ∃ u ∈ us, k = u.k) -> (lk ([(500000, (⟨us.map dUR, 3, eu, false⟩ : Box)), (kg, gB L J eg)] ++ fbx ec us) k).isSome = true := fun k hk => by
  rcases hk with rfl | rfl | ⟨u, hu, rfl⟩
  ·exact QQ
  ·exact QN QQ
  ·exact Qgu (Qdl hK hu)
 refine QiR (N := 500001) hf ef (fun p hp => ?_) rfl (fun p hp j hj => s0 j ?_) (fun p hp h => ?_) (QgE hK) (Qe1 ec us) (fun p hp k hk => s0 k (hfr p hp k hk))
 ·simp only [List.mem_cons, List.not_mem_nil, or_false] at hp
  rcases hp with rfl | rfl
  ·exact hu
  ·exact hg
 ·simp only [List.mem_cons, List.not_mem_nil, or_false] at hp
  rcases hp with rfl | rfl
  ·exact .inr (.inr (Qbv hj))
  ·simp [Box.ids, gB] at hj
 ·rw [hB p hp h]; exact QN QQ
theorem Qos {cs : List CR} (hf : Q7 l fr = fr1) (ef : fr1 = fr') (hK : Z7 us) (hc : lk B (500001 + us.length) = some ⟨cs.map dCR, 8, ec, true⟩) (hu : lk B 500000 = some ⟨us.map dUR, 3, eu, false⟩) (hg : lk B kg = some (gB L J eg)) (hB : ∀ p ∈ B, 500001 <= p.1 -> p.1 = kg \/ p.1 = 500001 + us.length)
  (hfr : ∀ p ∈ fr', ∀ k ∈ p.2.ids, k = 500000 \/ k = kg \/ k = 500001 + us.length \/ ∃ u ∈ us, k = u.k) : St.le ⟨fr, B ++ fbx ec us⟩ ⟨fr', [(500001 + us.length, ⟨cs.map dCR, 8, ec, true⟩), (500000, ⟨us.map dUR, 3, eu, false⟩), (kg, gB L J eg)] ++ fbx ec us⟩ := by
 have s0 : ∀ k, (k = 500000 \/ k = kg \/ k = 500001 + us.length \/ ∃ u ∈ us, k = u.k) -> (lk ([(500001 + us.length, (⟨cs.map dCR, 8, ec, true⟩ : Box)), (500000, (⟨us.map dUR, 3, eu, false⟩ : Box)), (kg, gB L J eg)] ++ fbx ec us) k).isSome = true := fun k hk => by
  rcases hk with rfl | rfl | rfl | ⟨u, hu, rfl⟩
  ·exact QN QQ
  ·exact QN (QN QQ)
  ·exact QQ
  ·exact Qgu (Qdl hK hu)
 refine QiR (N := 500001) hf ef (fun p hp => ?_) rfl (fun p hp j hj => s0 j ?_) (fun p hp h => ?_) (QgE hK) (Qe1 ec us) (fun p hp k hk => s0 k (hfr p hp k hk))
 ·simp only [List.mem_cons, List.not_mem_nil, or_false] at hp
  rcases hp with rfl | rfl | rfl
  ·exact hc
  ·exact hu
  ·exact hg
 ·simp only [List.mem_cons, List.not_mem_nil, or_false] at hp
  rcases hp with rfl | rfl | rfl
  ·simp [Box.ids] at hj
  ·exact .inr (.inr (.inr (Qbv hj)))
  ·simp [Box.ids, gB] at hj
 ·rcases hB p hp h with e | e
  ·rw [e]; exact QN (QN QQ)
  ·rw [e]; exact QQ
theorem Qpn {u : UR} (hf : Q7 l fr = fr1) (ef : fr1 = fr') (hK : Z7 us) (huk : u.k = 500001 + us.length) (hc : lk B (500001 + us.length) = some ⟨u.cs.map dCR, 8, ec, true⟩) (hu : lk B 500000 = some ⟨(us ++ [u]).map dUR, 3, eu, false⟩) (hg : lk B kg = some (gB L J eg)) (hB : ∀ p ∈ B, 500001 <= p.1 -> p.1 = kg \/ p.1 = 500001 + us.length) (hkg : 1000000 <= kg) (hlen : us.length <= 100)
  (hfr : ∀ p ∈ fr', ∀ k ∈ p.2.ids, k = 500000 \/ k = kg \/ ∃ v ∈ us ++ [u], k = v.k) : St.le ⟨fr, B ++ fbx ec us⟩ ⟨fr', [(500000, ⟨(us ++ [u]).map dUR, 3, eu, false⟩), (kg, gB L J eg)] ++ fbx ec (us ++ [u])⟩ := by
 have hK1 := QhU hK huk
 have mv := fun k => Qmc (ec := ec) hK (kg := kg) (x := ⟨(us ++ [u]).map dUR, 3, eu, false⟩) (y := gB L J eg) huk (by omega) k
 have s0 : ∀ k, (k = 500000 \/ k = kg \/ ∃ v ∈ us ++ [u], k = v.k) -> (lk ([(u.k, (⟨u.cs.map dCR, 8, ec, true⟩ : Box)), (500000, (⟨(us ++ [u]).map dUR, 3, eu, false⟩ : Box)), (kg, gB L J eg)] ++ fbx ec us) k).isSome = true := fun k hk => by
  show (lk ((u.k, _) :: (500000, _) :: (kg, _) :: fbx ec us) k).isSome = true
  rw [mv]
  rcases hk with rfl | rfl | ⟨v, hv, rfl⟩
  ·exact QQ
  ·exact QN QQ
  ·exact QN (QN (Qdl hK1 hv))
 refine le_trans (QiR (N := 500001) (A' := [(u.k, ⟨u.cs.map dCR, 8, ec, true⟩), (500000, ⟨(us ++ [u]).map dUR, 3, eu, false⟩), (kg, gB L J eg)]) hf ef (fun p hp => ?_) rfl (fun p hp j hj => s0 j ?_) (fun p hp h => ?_) (QgE hK) (Qe1 ec us) (fun p hp k hk => s0 k (hfr p hp k hk))) (QgS ⟨fun _ => rfl, mv⟩)
 ·simp only [List.mem_cons, List.not_mem_nil, or_false] at hp
  rcases hp with rfl | rfl | rfl
  ·rw [huk]; exact hc
  ·exact hu
  ·exact hg
 ·simp only [List.mem_cons, List.not_mem_nil, or_false] at hp
  rcases hp with rfl | rfl | rfl
  ·simp [Box.ids] at hj
  ·exact .inr (.inr (Qbv hj))
  ·simp [Box.ids, gB] at hj
 ·rcases hB p hp h with e | e
  ·rw [e]; exact QN (QN QQ)
  ·rw [e, <- huk]; exact QQ
end
def u0 (v : Vr) : UR := ⟨[], [], 500001, [zr v (-1)]⟩
def v0 : Vr := ⟨0, 0, 0, [], []⟩
theorem QmM {kg a b : Nat} (h : 1000000 <= kg) (ha : a < 1000000) (hb : b < 1000000) : QbB a b kg = kg := by
 unfold QbB; rw [if_neg (by omega), if_neg (by omega)]
theorem Qll {l : List Nat} {fr fr1 fr' : List (Nat × D)} {kg eg eu ec : Nat} {L : List Int} {I : Int} (hkg : 1000000 <= kg) (hf : Q7 l fr = fr1) (ef : fr1.map (fun p => (p.1, (p.2.ren (QbB 18 500000)).ren (QbB 16 500001))) = fr') :
  St.le ⟨fr, [(18, ⟨[[.str [], .str [], .osl 16 1]], 3, eu, false⟩), (16, ⟨[dCR (zr v0 (-1))], 8, ec, true⟩), (kg, gB L I eg)]⟩ ⟨fr', [(500000, ⟨[u0 v0].map dUR, 3, eu, false⟩), (kg, gB L I eg)] ++ fbx ec [u0 v0]⟩ := by
 subst hf ef
 have k1 := QmM (a := 18) (b := 500000) hkg (by decide) (by decide)
 have k2 := QmM (a := 16) (b := 500001) hkg (by decide) (by decide)
 refine le_trans (QbR l fr _) (le_trans (QiQ 18 500000 (by decide) (by decide) _) (le_trans (QiQ 16 500001 (by decide) (by decide) _) ?_))
 have hH : ∀ k, lk ([(500000, (⟨[u0 v0].map dUR, 3, eu, false⟩ : Box)), (kg, gB L I eg)] ++ fbx ec [u0 v0]) k = lk (Qcw (QbB 16 500001) (Qcw (QbB 18 500000) [(18, ⟨[[.str [], .str [], .osl 16 1]], 3, eu, false⟩), (16, ⟨[dCR (zr v0 (-1))], 8, ec, true⟩), (kg, gB L I eg)])) k := fun k => by
  have e : Qcw (QbB 16 500001) (Qcw (QbB 18 500000) [(18, (⟨[[.str [], .str [], .osl 16 1]], 3, eu, false⟩ : Box)), (16, ⟨[dCR (zr v0 (-1))], 8, ec, true⟩), (kg, gB L I eg)]) = [(500000, ⟨[u0 v0].map dUR, 3, eu, false⟩), (500001, ⟨[dCR (zr v0 (-1))], 8, ec, true⟩), (kg, gB L I eg)] := by
   simp only [Qcw, List.map_cons, List.map_nil, k1, k2]; rfl
  rw [e]
  show lk ((500000, _) :: (kg, _) :: (500001, _) :: []) k = _
  rw [Qn, Qn, Qn, Qn, Qn, Qn]
  by_cases h1 : 500000 = k
  ·rw [if_pos h1, if_pos h1]
  ·rw [if_neg h1, if_neg h1]
   by_cases h2 : kg = k
   ·rw [if_pos h2, if_neg (by omega), if_pos h2]
   ·rw [if_neg h2, if_neg h2]; rfl
 refine Qbm (by simp only [St.ren, List.map_map]; rfl) fun k => (hH k).symm
def names5 : List (List UInt8) := [[97, 110, 116], [98, 101, 101], [99, 111, 119], [100, 111, 103], [101, 108, 107]]
theorem Q6 : names5.length = 5 := rfl
theorem Qog : versions.length = 4 := rfl
theorem Qpo {i : Nat} (h : i < versions.length) : Qej versions[i] := by
 have := Qja _ (List.getElem_mem h)
 exact ⟨Nat.le_trans this.1 (by omega), Nat.le_trans this.2 (by omega)⟩
structure UnitsIn (us : List UR) : Prop where
 keys : Z7 us
 fresh : ∀ u ∈ us, Qou u
 first : ∃ z rest, us = ⟨[], [], 500001, [z]⟩ :: rest
theorem UnitsIn.zero : UnitsIn [u0 v0] := by
 refine ⟨fun j hj => ?_, fun u hu => ?_, ⟨zr v0 (-1), [], rfl⟩⟩
 ·have : j = 0 := by simp at hj; exact hj
  subst this; rfl
 ·simp only [List.mem_singleton] at hu; subst hu
  refine ⟨by simp [u0], fun z hz => ?_⟩
  simp only [u0, List.mem_singleton] at hz; subst hz
  exact ⟨v0, -1, rfl, ⟨Nat.zero_le _, Nat.zero_le _⟩⟩
theorem UnitsIn.snoc {us : List UR} (h : UnitsIn us) {n f : List UInt8} {cs : List CR} (hc : cs.length <= 4) (hz : ∀ z ∈ cs, ∃ v sh, z = zr v sh /\ Qej v) : UnitsIn (us ++ [⟨n, f, 500001 + us.length, cs⟩]) := by
 obtain ⟨h1, h2, z, rest, h3⟩ := h
 refine ⟨QhU h1 rfl, fun u hu => ?_, z, rest ++ [⟨n, f, 500001 + us.length, cs⟩], by rw [h3]; rfl⟩
 rcases List.mem_append.1 hu with hu | hu
 ·exact h2 u hu
 ·simp only [List.mem_singleton] at hu; subst hu; exact ⟨hc, hz⟩
def CsIn (n : Nat) (cs : List CR) : Prop := cs.length <= n /\ ∀ z ∈ cs, ∃ v sh, z = zr v sh /\ Qej v
theorem CsIn.nil (n : Nat) : CsIn n [] := ⟨Nat.zero_le _, by simp⟩
theorem CsIn.keep {n : Nat} {cs : List CR} (h : CsIn n cs) : CsIn (n + 1) cs := ⟨Nat.le_succ_of_le h.1, h.2⟩
theorem CsIn.snoc {n : Nat} {cs : List CR} (h : CsIn n cs) {v : Vr} (hv : Qej v) {sh : Int} : CsIn (n + 1) (cs ++ [zr v sh]) := by
 refine ⟨by simp; exact h.1, fun z hz => ?_⟩
 rcases List.mem_append.1 hz with hz | hz
 ·exact h.2 z hz
 ·simp only [List.mem_singleton] at hz; subst hz; exact ⟨v, sh, rfl, hv⟩
theorem CsIn.at {n : Nat} {cs : List CR} (h : CsIn n cs) {i : Nat} (hi : i < cs.length) : Qej cs[i].v := by
 obtain ⟨v, sh, e, hv⟩ := h.2 _ (List.getElem_mem hi)
 rw [e]; exact hv
theorem QjK {α : Type} {k : Nat} {v v' : α} {l : List (Nat × α)} (h : v = v') : lk ((k, v) :: l) k = some v' := by rw [Qt, h]
theorem Qii {us : List UR} {e et : Nat} (h : Z7 us) : Box.scrub (500001 + us.length) ⟨us.map dUR, e, et, false⟩ = ⟨us.map dUR, e, et, false⟩ := Qih fun hk => by
 obtain ⟨u, hu, e⟩ := Qbv hk
 have := Qbl h hu
 omega
theorem Qj6 {us : List UR} (h : Z7 us) {n f : List UInt8} {k m : Nat} (hk : k ≠ 500000) : ∀ r ∈ us.map dUR ++ [[D.str n, D.str f, D.osl k m]], ∀ d ∈ r, 500000 ∉ d.sid := fun r hr d hd => by
 rcases List.mem_append.1 hr with hr | hr
 ·exact Qof h r hr d hd
 ·simp only [List.mem_singleton] at hr; subst hr
  simp only [List.mem_cons, List.not_mem_nil, or_false] at hd
  rcases hd with rfl | rfl | rfl <;> simp [D.sid]
  exact Ne.symm hk
theorem Qoe {us : List UR} {u : UR} : (us ++ [u]).map dUR = us.map dUR ++ [dUR u] := by simp
theorem QnO {cs : List CR} {z : CR} : (cs ++ [z]).map dCR = cs.map dCR ++ [dCR z] := by simp
theorem Qa6 {us : List UR} (h : Z7 us) {kg eu ec : Nat} {g1 g2 g3 : Box} (hkg : 1000000 <= kg) (h1 : g1.pr = true) (h2 : g2.pr = true) (hlen : us.length <= 100) :
  (∀ k, 1000000 <= k -> (lk [(kg, g1)] k).isSome = true -> (lk (((500000, (⟨us.map dUR, 3, eu, false⟩ : Box)) :: fbx ec us) ++ [(kg, g2), (kg, g1)]) k).isSome = true) /\
  (∀ k b, lk (((500000, (⟨us.map dUR, 3, eu, false⟩ : Box)) :: fbx ec us) ++ [(kg, g2), (kg, g1)]) k = some b -> 500000 <= k /\ ∀ j ∈ b.ids, (lk (((500000, (⟨us.map dUR, 3, eu, false⟩ : Box)) :: fbx ec us) ++ [(kg, g2), (kg, g1)]) j).isSome = true) /\
  (∀ k b, lk (((500000, (⟨us.map dUR, 3, eu, false⟩ : Box)) :: fbx ec us) ++ [(kg, g2), (kg, g1)]) k = some b -> lk ((kg, g2) :: (500000, ⟨us.map dUR, 3, eu, false⟩) :: (kg, g3) :: fbx ec us) k = some b) := by
 have cs : ∀ k b, lk (((500000, (⟨us.map dUR, 3, eu, false⟩ : Box)) :: fbx ec us) ++ [(kg, g2), (kg, g1)]) k = some b -> (k = 500000 /\ b = ⟨us.map dUR, 3, eu, false⟩) \/ (∃ u ∈ us, k = u.k /\ b = ⟨u.cs.map dCR, 8, ec, true⟩) \/ (k = kg /\ b = g2) := fun k b hk => by
  rw [List.cons_append, Qn] at hk
  split at hk
  ·rename_i e; cases hk; exact .inl ⟨e.symm, rfl⟩
  ·rw [ZP] at hk
   cases hh : lk (fbx ec us) k with
   | some v =>
    rw [hh] at hk; cases hk
    exact .inr (.inl (Qge hh))
   | none =>
    rw [hh] at hk
    simp only at hk
    rw [Qn] at hk
    split at hk
    ·rename_i e; cases hk; exact .inr (.inr ⟨e.symm, rfl⟩)
    ·rename_i e
     rw [Qn, if_neg e] at hk; cases hk
 refine ⟨fun k _ hk => ?_, fun k b hk => ?_, fun k b hk => ?_⟩
 ·obtain ⟨b, hb⟩ := Option.isSome_iff_exists.1 hk
  obtain ⟨rfl, _⟩ := Xy hb
  exact Qgu QQ
 ·rcases cs k b hk with ⟨rfl, rfl⟩ | ⟨u, hu, rfl, rfl⟩ | ⟨rfl, rfl⟩
  ·refine ⟨Nat.le_refl _, fun j hj => ?_⟩
   obtain ⟨u, hu, rfl⟩ := Qbv hj
   rw [List.cons_append]
   refine QN ?_
   obtain ⟨b, hb⟩ := Option.isSome_iff_exists.1 (Qdl (ec := ec) h hu)
   rw [Ys hb]; rfl
  ·have := Qbl h hu
   exact ⟨by omega, fun j hj => by simp [Box.ids] at hj⟩
  ·exact ⟨by omega, fun j hj => by rw [X6 h2] at hj; cases hj⟩
 ·rcases cs k b hk with ⟨rfl, rfl⟩ | ⟨u, hu, rfl, rfl⟩ | ⟨rfl, rfl⟩
  ·exact Qj (by omega) Qt
  ·have hm := Qbl h hu
   obtain ⟨j, hj, rfl⟩ := List.getElem_of_mem hu
   refine Qj (by omega) (Qj (by omega) (Qj (by omega) ?_))
   rw [h j hj]; exact QkY h hj
  ·exact Qt
end M25
namespace M25
open Go Go.Abs M3
/-! ### A world under way: one candidate after the other is filled -/
def PureC (z : CR) : Prop := z.x.sid = [] /\ z.y.sid = [] /\ z.z.sid = []
theorem PureC.all {z : CR} (h : PureC z) : ∀ d ∈ dCR z, d.sid = [] := fun d hd => by
 simp only [dCR, List.mem_cons, List.not_mem_nil, or_false] at hd
 rcases hd with rfl | rfl | rfl | rfl | rfl | rfl | rfl | rfl
 ·rfl
 ·rfl
 ·rfl
 ·rfl
 ·rfl
 ·exact h.1
 ·exact h.2.1
 ·exact h.2.2
def Qd2 (u : UR) (k : Nat) (z : CR) : UR := { u with cs := u.cs.set k z }
def Qcl (us : List UR) (i k : Nat) (z : CR) : List UR := us.modify i fun u => Qd2 u k z
theorem Zq (us : List UR) (i k : Nat) (z : CR) : (Qcl us i k z).length = us.length := List.length_modify ..
theorem Qj1 (us : List UR) (i k : Nat) (z : CR) : (Qcl us i k z).map dUR = us.map dUR := by
 refine List.ext_getElem (by simp [Qcl]) fun j h1 h2 => ?_
 simp only [List.getElem_map, Qcl, List.getElem_modify]
 split <;> simp [dUR, Qd2]
theorem QaQ {us : List UR} {i k : Nat} {z : CR} {j : Nat} (h : j < us.length) : (Qcl us i k z)[j]'(by rw [Zq]; exact h) = if i = j then Qd2 us[j] k z else us[j] := by
 simp only [Qcl, List.getElem_modify]
theorem QdD {us : List UR} {i k : Nat} {z : CR} (h : Z7 us) : Z7 (Qcl us i k z) := fun j hj => by
 rw [Zq] at hj
 rw [QaQ hj]
 split
 ·exact h j hj
 ·exact h j hj
def wA (us : List UR) (eu ec eg : Nat) (L : List Int) (J : Int) (b4 : Box) : List (Nat × Box) := [(500000, ⟨us.map dUR, 3, eu, false⟩), (12, gB L J eg), (4, b4)] ++ fbx ec us
theorem Qbw {us : List UR} {eu ec eg : Nat} {L : List Int} {J : Int} {b4 : Box} (h : Z7 us) {k : Nat} {b : Box} (hk : lk (wA us eu ec eg L J b4) k = some b) : (k = 500000 /\ b = ⟨us.map dUR, 3, eu, false⟩) \/ (k = 12 /\ b = gB L J eg) \/ (k = 4 /\ b = b4) \/ ∃ j, ∃ hj : j < us.length, k = 500001 + j /\ b = ⟨us[j].cs.map dCR, 8, ec, true⟩ := by
 unfold wA at hk
 rcases Qfe hk with hk | ⟨_, hk⟩
 ·simp only [List.mem_cons, List.not_mem_nil, or_false, Prod.mk.injEq] at hk
  rcases hk with h | h | h
  ·exact .inl h
  ·exact .inr (.inl h)
  ·exact .inr (.inr (.inl h))
 ·obtain ⟨u, hu, e1, e2⟩ := Qge hk
  obtain ⟨j, hj, rfl⟩ := List.getElem_of_mem hu
  exact .inr (.inr (.inr ⟨j, hj, e1.trans (h j hj), e2⟩))
section
variable {us : List UR} {eu ec eg : Nat} {L : List Int} {J : Int} {b4 : Box}
theorem QeG : lk (wA us eu ec eg L J b4) 500000 = some ⟨us.map dUR, 3, eu, false⟩ := rfl
theorem Qed : lk (wA us eu ec eg L J b4) 12 = some (gB L J eg) := rfl
theorem QfF : lk (wA us eu ec eg L J b4) 4 = some b4 := rfl
theorem QcY (h : Z7 us) {j : Nat} (hj : j < us.length) : lk (wA us eu ec eg L J b4) (500001 + j) = some ⟨us[j].cs.map dCR, 8, ec, true⟩ := by
 show lk ((500000, _) :: (12, _) :: (4, _) :: fbx ec us) _ = _
 rw [Qn, if_neg (by omega), Qn, if_neg (by omega), Qn, if_neg (by omega)]
 exact QkY h hj
theorem ZY (h : Z7 us) {k : Nat} (h1 : k ≠ 500000) (h2 : k ≠ 12) (h3 : k ≠ 4) (h4 : k < 500001 \/ 500001 + us.length <= k) : lk (wA us eu ec eg L J b4) k = none := by
 show lk ((500000, _) :: (12, _) :: (4, _) :: fbx ec us) _ = _
 rw [Qn, if_neg (Ne.symm h1), Qn, if_neg (Ne.symm h2), Qn, if_neg (Ne.symm h3)]
 exact YQ h h4
theorem Qjb (h : Z7 us) {k : Nat} (hk : k = 500000 \/ k = 12 \/ k = 4 \/ ∃ u ∈ us, k = u.k) : (lk (wA us eu ec eg L J b4) k).isSome = true := by
 rcases hk with rfl | rfl | rfl | ⟨u, hu, rfl⟩
 ·rfl
 ·rfl
 ·rfl
 ·obtain ⟨j, hj, rfl⟩ := List.getElem_of_mem hu
  rw [h j hj, QcY h hj]; rfl
theorem Qan (h : Z7 us) (h4 : b4.pr = true) : Closed (wA us eu ec eg L J b4) := fun k b hk j hj => by
 rcases Qbw h hk with ⟨rfl, rfl⟩ | ⟨rfl, rfl⟩ | ⟨rfl, rfl⟩ | ⟨i, hi, rfl, rfl⟩
 ·exact Qjb h (.inr (.inr (.inr (Qbv hj))))
 ·simp [Box.ids, gB] at hj
 ·rw [X6 h4] at hj; cases hj
 ·simp [Box.ids] at hj
theorem QdV {α : Type} : ∀ {l : List α} {k : Nat} {a x : α}, x ∈ l.set k a -> x = a \/ x ∈ l
 | [], k, a, x, h => by simp at h
 | b :: l, 0, a, x, h => by
  simp only [List.set_cons_zero, List.mem_cons] at h ⊢
  rcases h with h | h
  ·exact .inl h
  ·exact .inr (.inr h)
 | b :: l, k + 1, a, x, h => by
  simp only [List.set_cons_succ, List.mem_cons] at h ⊢
  rcases h with h | h
  ·exact .inr (.inl h)
  ·rcases QdV h with h | h
   ·exact .inl h
   ·exact .inr (.inr h)
theorem Qfb {l : List Nat} {fr fr1 fr' : List (Nat × D)} {H : List (Nat × Box)} {i k : Nat} {row : List D} {p : Bool} (kk : Nat) (z' : CR) (hf : Q7 l fr = fr1) (ef : fr1 = fr') (hK : Z7 us) (hi : i < us.length) (hk : k < us[i].cs.length)
  (hKi : lk H (500001 + i) = some ⟨(us[i].cs.map dCR).set k row, 8, ec, p⟩) (hp : p = true -> row.map (D.fzS H (· == kk)) = row) (hrow : (row.map (D.fzS H (· == kk))).map D.canS = dCR z') (hoth : ∀ z ∈ us[i].cs, PureC z) (hz : PureC z')
  (hF : ∀ j, ∀ hj : j < us.length, j ≠ i -> lk H (500001 + j) = some ⟨us[j].cs.map dCR, 8, ec, true⟩) (hu : lk H 500000 = some ⟨us.map dUR, 3, eu, false⟩) (hg : lk H 12 = some (gB L J eg)) (h4 : lk H 4 = some b4) (hb4 : b4.pr = true) (hkk : kk < 500000 /\ kk ≠ 12 /\ kk ≠ 4) (hsm : ∀ j, 1000000 <= j -> lk H j = none) (hlen : us.length <= 100)
  (hfr : ∀ p ∈ fr', ∀ j ∈ p.2.ids, j = 500000 \/ j = 12 \/ j = 4 \/ ∃ u ∈ us, j = u.k) : St.le ⟨fr, H⟩ ⟨fr', wA (Qcl us i k z') eu ec eg L J b4⟩ := by
 subst hf ef
 have nokk : ∀ j, (j = 500000 \/ j = 12 \/ j = 4 \/ ∃ u ∈ us, j = u.k) -> j ≠ kk := fun j hj e => by
  subst e
  rcases hj with rfl | rfl | rfl | ⟨u, hu, rfl⟩
  ·omega
  ·exact hkk.2.1 rfl
  ·exact hkk.2.2 rfl
  ·have := (Qbl hK hu).1; omega
 have eqkk : ∀ j, j ≠ kk -> (j == kk) = false := fun j hj => by simp [hj]
 have some1 : ∀ b j, (j = 500000 \/ j = 12 \/ j = 4 \/ ∃ u ∈ us, j = u.k) -> (lk ((500001 + i, b) :: wA us eu ec eg L J b4) j).isSome = true := fun b j hj => QN (Qjb hK hj)
 have rowsz : ∀ r ∈ us[i].cs.map dCR, r.map (D.fzS H (· == kk)) = r := fun r hr => by
  obtain ⟨z, hzm, rfl⟩ := List.mem_map.1 hr
  exact Y6 fun d hd => QdQ fun j hj => by rw [(hoth z hzm).all d hd] at hj; cases hj
 have mapz : ((us[i].cs.map dCR).set k row).map (fun r => r.map (D.fzS H (· == kk))) = (us[i].cs.map dCR).set k (row.map (D.fzS H (· == kk))) := by
  refine List.ext_getElem (by simp) fun j h1 h2 => ?_
  simp only [List.getElem_map, List.getElem_set]
  split
  ·rfl
  ·exact rowsz _ (List.mem_map_of_mem (List.getElem_mem _))
 refine le_trans (QbR l fr H) (le_trans (Qlk kk (H' := (500001 + i, ⟨(us[i].cs.map dCR).set k (row.map (D.fzS H (· == kk))), 8, ec, p⟩) :: wA us eu ec eg L J b4) (by omega) (fr' := Q7 l fr) (fun t d h => ⟨d, h, QhN fun j hj => eqkk j (nokk j (hfr (t, d) (Z4 h) j hj))⟩) (fun j b h => ?_) (fun t d h j hj => some1 _ j (hfr (t, d) (Z4 h) j hj)) (fun j b h j2 hj2 => ?_) fun j hj hs => ?_) ?_)
 ·rw [Qn] at h
  split at h
  ·rename_i e; cases h; subst e
   refine ⟨by omega, _, hKi, ?_⟩
   cases p with
   | true => rw [hp rfl]; rfl
   | false => show Box.mk _ _ _ _ = _; rw [mapz]
  ·rename_i e
   rcases Qbw hK h with ⟨rfl, rfl⟩ | ⟨rfl, rfl⟩ | ⟨rfl, rfl⟩ | ⟨i2, hi2, rfl, rfl⟩
   ·refine ⟨by omega, _, hu, XN (.inr fun j hj => eqkk j (nokk j (.inr (.inr (.inr (Qbv hj))))))⟩
   ·exact ⟨Ne.symm hkk.2.1, _, hg, rfl⟩
   ·exact ⟨Ne.symm hkk.2.2, _, h4, XN (.inl hb4)⟩
   ·exact ⟨by omega, _, hF i2 hi2 (fun e2 => e (by omega)), rfl⟩
 ·rw [Qn] at h
  split at h
  ·cases h
   cases hpp : p with
   | true => rw [X6 hpp] at hj2; cases hj2
   | false =>
   simp only [Box.ids, hpp, Bool.false_eq_true, if_false, List.mem_flatMap] at hj2
   obtain ⟨r, hr, d, hd, hj3⟩ := hj2
   rcases QdV hr with rfl | hr
   ·have : (d.canS).sid = [] := hz.all _ (by rw [<- hrow]; exact List.mem_map_of_mem hd)
    rw [Qb9] at this
    rw [this] at hj3; cases hj3
   ·obtain ⟨z, hzm, rfl⟩ := List.mem_map.1 hr
    rw [(hoth z hzm).all d hd] at hj3; cases hj3
  ·exact QN (Qan hK hb4 j b h j2 hj2)
 ·rw [hsm j hj] at hs; cases hs
 ·refine le_trans (Qep k Qt) (le_trans (QgR Qt (fun e => ?_) (fun r hr d hd => ?_)) (Qbm rfl fun j => ?_))
  ·have := congrArg List.length e
   simp only [List.length_modify, List.length_set, List.length_map, List.length_nil] at this
   omega
  ·rcases Qa1 hr with h | ⟨y, hy, rfl⟩
   ·rcases QdV h with rfl | h
    ·have : (d.canS).sid = [] := hz.all _ (by rw [<- hrow]; exact List.mem_map_of_mem hd)
     rwa [Qb9] at this
    ·obtain ⟨z, hzm, rfl⟩ := List.mem_map.1 h
     exact (hoth z hzm).all d hd
   ·obtain ⟨d0, hd0, rfl⟩ := List.mem_map.1 hd
    rw [Qb9]
    rcases QdV hy with rfl | h
    ·have : (d0.canS).sid = [] := hz.all _ (by rw [<- hrow]; exact List.mem_map_of_mem hd0)
     rwa [Qb9] at this
    ·obtain ⟨z, hzm, rfl⟩ := List.mem_map.1 h
     exact (hoth z hzm).all d0 hd0
  ·have erows : ((us[i].cs.map dCR).set k (row.map (D.fzS H (· == kk)))).modify k (fun r => r.map D.canS) = ((us[i].cs.set k z').map dCR) := by
    refine List.ext_getElem (by simp) fun m h1 h2 => ?_
    simp only [List.getElem_modify, List.getElem_set, List.getElem_map]
    by_cases e : k = m
    ·subst e
     simp only [if_true]
     exact hrow
    ·simp only [if_neg e]
   have hK' := QdD (i := i) (k := k) (z := z') hK
   by_cases e : 500001 + i = j
   ·subst e
    rw [Qt, QcY hK' (by rw [Zq]; exact hi)]
    simp only [QaQ hi, if_true, erows]; rfl
   ·rw [Qn, if_neg e, Qn, if_neg e, Qn, if_neg e]
    cases h : lk (wA us eu ec eg L J b4) j with
    | none =>
     cases h' : lk (wA (Qcl us i k z') eu ec eg L J b4) j with
     | none => rfl
     | some b =>
      have : (lk (wA us eu ec eg L J b4) j).isSome = true := by
       rcases Qbw hK' h' with ⟨rfl, _⟩ | ⟨rfl, _⟩ | ⟨rfl, _⟩ | ⟨m, hm, rfl, _⟩
       ·rfl
       ·rfl
       ·rfl
       ·rw [Zq] at hm; rw [QcY hK hm]; rfl
      rw [h] at this; cases this
    | some b =>
     rcases Qbw hK h with ⟨rfl, rfl⟩ | ⟨rfl, rfl⟩ | ⟨rfl, rfl⟩ | ⟨m, hm, rfl, rfl⟩
     ·rw [QeG, Qj1]
     ·rfl
     ·rfl
     ·rw [QcY hK' (by rw [Zq]; exact hm)]
      simp only [QaQ hm, if_neg (show ¬ i = m by omega)]
end
theorem Qdr : ∀ {H : List (Nat × Box)} {j : Nat}, j ∈ H.map Prod.fst -> (lk H j).isSome = true
 | [], _, h => by cases h
 | (k, b) :: H, j, h => by
  by_cases e : k = j
  ·subst e; exact QQ
  ·refine QN (Qdr ?_)
   simp only [List.map_cons, List.mem_cons] at h
   exact h.resolve_left (Ne.symm e)
theorem QmO {us : List UR} (h : Z7 us) {i : Nat} (hi : i < us.length) : (us.map dUR)[((i : Nat) : Int).toNat]? = some [.str us[i].n, .str us[i].f, .osl (500001 + i) us[i].cs.length] := by
 rw [Int.toNat_natCast, List.getElem?_map, List.getElem?_eq_getElem hi, Option.map_some, dUR, h i hi]
theorem QpL {cs : List CR} {k : Nat} (hk : k < cs.length) : (cs.map dCR)[((k : Nat) : Int).toNat]? = some (dCR cs[k]) := by
 rw [Int.toNat_natCast, List.getElem?_map, List.getElem?_eq_getElem hk]; rfl
theorem Qi7 {us : List UR} {eu ec eg : Nat} {L : List Int} {J : Int} {b4 g1 : Box} (h : Z7 us) (k : Nat) : lk (((500000, (⟨us.map dUR, 3, eu, false⟩ : Box)) :: fbx ec us) ++ ([(12, gB L J eg)] ++ [(12, g1), (4, b4)])) k = lk (wA us eu ec eg L J b4) k := by
 show lk ((500000, _) :: (fbx ec us ++ [(12, gB L J eg), (12, g1), (4, b4)])) k = lk ((500000, _) :: (12, _) :: (4, _) :: fbx ec us) k
 rw [Qn, Qn]
 split
 ·rfl
 ·rw [ZP]
  cases hh : lk (fbx ec us) k with
  | some v =>
   have := QgE h k v hh
   simp only
   rw [Qn, if_neg (by omega), Qn, if_neg (by omega), hh]
  | none =>
   simp only [Qn, hh]
   by_cases e : 12 = k
   ·rw [if_pos e, if_pos e]
   ·rw [if_neg e, if_neg e, if_neg e]; rfl
theorem Qj7 {us : List UR} {eu ec eg : Nat} {L : List Int} {J : Int} {b4 : Box} (h : Z7 us) (hv : ∀ y ∈ us, y.cs.length <= 16 /\ ∀ z ∈ y.cs, Qej z.v) : Fam (wA us eu ec eg L J b4) 12 500000 eu ec us := by
 refine ⟨by decide, ⟨false, rfl⟩, fun y hy => ?_, hv⟩
 obtain ⟨j, hj, rfl⟩ := List.getElem_of_mem hy
 refine ⟨by rw [h j hj]; omega, true, by rw [h j hj]; exact QcY h hj⟩
/-! ### Filled candidates -/
def Qnz (n : Nat) (x : WantT) : Prop := 0 <= x.u /\ x.u < n /\ SetOk x.s
theorem WantIn.w {n : Nat} {x : WantT} (h : WantIn n x) : Qnz n x := ⟨by have := h.1; omega, h.2.1, h.2.2⟩
structure Qap (n : Nat) (c : CandT) : Prop where
 v : Qej c.v
 nl : c.ns.length <= 10
 nr : ∀ r ∈ c.ns, r.length <= 2 /\ ∀ x ∈ r, Qnz n x
 bl : c.bs.length <= 1
 bw : ∀ x ∈ c.bs, Qnz n x
def Qhi (c : CandT) : CR := ⟨c.v, .int .i64 c.sh, QS c.ns, Q0 c.bs⟩
def DoneC (n : Nat) (z : CR) : Prop := ∃ c, z = Qhi c /\ Qap n c
def FreshC (z : CR) : Prop := ∃ v sh, z = zr v sh /\ Qej v
theorem DoneC.pure {n : Nat} {z : CR} (h : DoneC n z) : PureC z := by obtain ⟨c, rfl, _⟩ := h; exact ⟨rfl, rfl, rfl⟩
theorem FreshC.pure {z : CR} (h : FreshC z) : PureC z := by obtain ⟨v, sh, rfl, _⟩ := h; exact ⟨rfl, rfl, rfl⟩
theorem DoneC.vr {n : Nat} {z : CR} (h : DoneC n z) : Qej z.v := by obtain ⟨c, rfl, q⟩ := h; exact q.v
theorem FreshC.vr {z : CR} (h : FreshC z) : Qej z.v := by obtain ⟨v, sh, rfl, q⟩ := h; exact q
structure Prog (n : Nat) (us : List UR) (i k : Nat) : Prop where
 keys : Z7 us
 len : us.length = n /\ 2 <= n /\ n <= 11
 cl : ∀ u ∈ us, u.cs.length <= 4
 done : ∀ j, ∀ hj : j < us.length, ∀ m, ∀ hm : m < us[j].cs.length, (j < i \/ (j = i /\ m < k)) -> DoneC n us[j].cs[m]
 fresh : ∀ j, ∀ hj : j < us.length, ∀ m, ∀ hm : m < us[j].cs.length, ¬ (j < i \/ (j = i /\ m < k)) -> FreshC us[j].cs[m]
theorem Prog.pure {n : Nat} {us : List UR} {i k : Nat} (h : Prog n us i k) {j : Nat} (hj : j < us.length) : ∀ z ∈ us[j].cs, PureC z /\ Qej z.v := fun z hz => by
 obtain ⟨m, hm, rfl⟩ := List.getElem_of_mem hz
 by_cases hd : j < i \/ (j = i /\ m < k)
 ·exact ⟨(h.done j hj m hm hd).pure, (h.done j hj m hm hd).vr⟩
 ·exact ⟨(h.fresh j hj m hm hd).pure, (h.fresh j hj m hm hd).vr⟩
theorem Prog.fam {n : Nat} {us : List UR} {i k : Nat} (h : Prog n us i k) : ∀ y ∈ us, y.cs.length <= 16 /\ ∀ z ∈ y.cs, Qej z.v := fun y hy => by
 obtain ⟨j, hj, rfl⟩ := List.getElem_of_mem hy
 exact ⟨Nat.le_trans (h.cl _ hy) (by omega), fun z hz => (h.pure hj z hz).2⟩
theorem Prog.put {n : Nat} {us : List UR} {i k : Nat} (h : Prog n us i k) (hi : i < us.length) (hk : k < us[i].cs.length) {z : CR} (hz : DoneC n z) : Prog n (Qcl us i k z) i (k + 1) := by
 have at' := fun (j : Nat) (hj : j < us.length) => QaQ (i := i) (k := k) (z := z) hj
 refine ⟨QdD h.keys, by rw [Zq]; exact h.len, fun u hu => ?_, fun j hj m hm hd => ?_, fun j hj m hm hd => ?_⟩
 ·obtain ⟨j, hj, rfl⟩ := List.getElem_of_mem hu
  rw [Zq] at hj
  rw [at' j hj]
  split
  ·simp only [Qd2, List.length_set]; exact h.cl _ (List.getElem_mem _)
  ·exact h.cl _ (List.getElem_mem _)
 ·rw [Zq] at hj
  have e := at' j hj
  by_cases hij : i = j
  ·subst hij
   rw [if_pos rfl] at e
   have hm' : m < (Qd2 us[i] k z).cs.length := by rw [<- e]; exact hm
   have e2 : (Qcl us i k z)[i].cs[m] = (Qd2 us[i] k z).cs[m]'hm' := by congr 1; rw [e]
   rw [e2]
   simp only [Qd2, List.getElem_set]
   split
   ·exact hz
   ·simp only [Qd2, List.length_set] at hm'
    exact h.done i hi m hm' (by omega)
  ·rw [if_neg hij] at e
   have hm' : m < us[j].cs.length := by rw [<- e]; exact hm
   have e2 : (Qcl us i k z)[j].cs[m] = us[j].cs[m]'hm' := by congr 1; rw [e]
   rw [e2]; exact h.done j hj m hm' (by omega)
 ·rw [Zq] at hj
  have e := at' j hj
  by_cases hij : i = j
  ·subst hij
   rw [if_pos rfl] at e
   have hm' : m < (Qd2 us[i] k z).cs.length := by rw [<- e]; exact hm
   have e2 : (Qcl us i k z)[i].cs[m] = (Qd2 us[i] k z).cs[m]'hm' := by congr 1; rw [e]
   rw [e2]
   simp only [Qd2, List.length_set] at hm'
   simp only [Qd2, List.getElem_set]
   rw [if_neg (by omega)]
   exact h.fresh i hi m hm' (by omega)
  ·rw [if_neg hij] at e
   have hm' : m < us[j].cs.length := by rw [<- e]; exact hm
   have e2 : (Qcl us i k z)[j].cs[m] = us[j].cs[m]'hm' := by congr 1; rw [e]
   rw [e2]; exact h.fresh j hj m hm' (by omega)
theorem Prog.next {n : Nat} {us : List UR} {i k : Nat} (h : Prog n us i k) (hi : i < us.length) (hk : us[i].cs.length <= k) : Prog n us (i + 1) 0 := by
 refine ⟨h.keys, h.len, h.cl, fun j hj m hm hd => h.done j hj m hm ?_, fun j hj m hm hd => h.fresh j hj m hm (by omega)⟩
 by_cases e : j = i
 ·subst e; exact .inr ⟨rfl, by omega⟩
 ·exact .inl (by omega)
theorem Prog.again {n : Nat} {us : List UR} {i k : Nat} (h : Prog n us i (k + 1)) (hi : i < us.length) (hk : k < us[i].cs.length) {z : CR} (hz : DoneC n z) : Prog n (Qcl us i k z) i (k + 1) := by
 have at' := fun (j : Nat) (hj : j < us.length) => QaQ (i := i) (k := k) (z := z) hj
 refine ⟨QdD h.keys, by rw [Zq]; exact h.len, fun u hu => ?_, fun j hj m hm hd => ?_, fun j hj m hm hd => ?_⟩
 ·obtain ⟨j, hj, rfl⟩ := List.getElem_of_mem hu
  rw [Zq] at hj
  rw [at' j hj]
  split
  ·simp only [Qd2, List.length_set]; exact h.cl _ (List.getElem_mem _)
  ·exact h.cl _ (List.getElem_mem _)
 ·rw [Zq] at hj
  have e := at' j hj
  by_cases hij : i = j
  ·subst hij
   rw [if_pos rfl] at e
   have hm' : m < (Qd2 us[i] k z).cs.length := by rw [<- e]; exact hm
   have e2 : (Qcl us i k z)[i].cs[m] = (Qd2 us[i] k z).cs[m]'hm' := by congr 1; rw [e]
   rw [e2]
   simp only [Qd2, List.getElem_set]
   split
   ·exact hz
   ·simp only [Qd2, List.length_set] at hm'
    exact h.done i hi m hm' (by omega)
  ·rw [if_neg hij] at e
   have hm' : m < us[j].cs.length := by rw [<- e]; exact hm
   have e2 : (Qcl us i k z)[j].cs[m] = us[j].cs[m]'hm' := by congr 1; rw [e]
   rw [e2]; exact h.done j hj m hm' (by omega)
 ·rw [Zq] at hj
  have e := at' j hj
  by_cases hij : i = j
  ·subst hij
   rw [if_pos rfl] at e
   have hm' : m < (Qd2 us[i] k z).cs.length := by rw [<- e]; exact hm
   have e2 : (Qcl us i k z)[i].cs[m] = (Qd2 us[i] k z).cs[m]'hm' := by congr 1; rw [e]
   rw [e2]
   simp only [Qd2, List.length_set] at hm'
   simp only [Qd2, List.getElem_set]
   rw [if_neg (by omega)]
   exact h.fresh i hi m hm' (by omega)
  ·rw [if_neg hij] at e
   have hm' : m < us[j].cs.length := by rw [<- e]; exact hm
   have e2 : (Qcl us i k z)[j].cs[m] = us[j].cs[m]'hm' := by congr 1; rw [e]
   rw [e2]; exact h.fresh j hj m hm' (by omega)
theorem Qli {l : List Nat} {fr fr1 fr' : List (Nat × D)} {us : List UR} {eu ec eg e1 e3 : Nat} {L : List Int} {J : Int} {b4 bK : Box} {i : Nat} {x : WantT} (hf : Q7 l fr = fr1) (ef : fr1 = fr') (hK : Z7 us) (hi : i < us.length) (hb4 : b4.pr = true) (hbK : ∀ j ∈ bK.ids, j = 64)
  (hfr : ∀ p ∈ fr', ∀ j ∈ p.2.ids, j = 500000 \/ j = 12 \/ j = 4 \/ ∃ u ∈ us, j = u.k) :
  St.le ⟨fr, (500001 + i, bK) :: (64, ⟨[[.osl 63 1]], 1, e1, false⟩) :: (63, ⟨[QaL x], 3, e3, true⟩) :: wA us eu ec eg L J b4⟩ ⟨fr', (500001 + i, bK) :: (64, ⟨[[Q0 [x]]], 1, e1, true⟩) :: wA us eu ec eg L J b4⟩ := by
 subst hf ef
 have no63 : ∀ j, (j = 500000 \/ j = 12 \/ j = 4 \/ ∃ u ∈ us, j = u.k) -> j ≠ 63 := fun j hj e => by
  subst e
  rcases hj with h | h | h | ⟨u, hu, h⟩
  ·cases h
  ·cases h
  ·cases h
  ·have := (Qbl hK hu).1; omega
 have eq63 : ∀ j, j ≠ 63 -> (j == 63) = false := fun j hj => by simp [hj]
 have up : ∀ b b' j, (lk (wA us eu ec eg L J b4) j).isSome = true -> (lk ((500001 + i, b) :: (64, b') :: wA us eu ec eg L J b4) j).isSome = true := fun b b' j hj => QN (QN hj)
 refine le_trans (QbR l fr _) (le_trans (Qlk 63 (H' := (500001 + i, bK) :: (64, ⟨[[Q0 [x]]], 1, e1, false⟩) :: wA us eu ec eg L J b4) (by decide) (fr' := Q7 l fr) (fun t d h => ⟨d, h, QhN fun j hj => eq63 j (no63 j (hfr (t, d) (Z4 h) j hj))⟩) (fun j b h => ?_) (fun t d h j hj => up _ _ j (Qjb hK (hfr (t, d) (Z4 h) j hj))) (fun j b h j2 hj2 => ?_) fun j hj hs => ?_) ?_)
 ·rw [Qn] at h
  split at h
  ·rename_i e; cases h; subst e
   refine ⟨by omega, _, Qt, XN (.inr fun j hj => ?_)⟩
   rw [hbK j hj]; rfl
  ·rename_i e
   rw [Qn] at h
   split at h
   ·rename_i e2; cases h; subst e2
    refine ⟨by decide, _, Qj e Qt, ?_⟩
    have h63 : lk ((500001 + i, bK) :: (64, (⟨[[.osl 63 1]], 1, e1, false⟩ : Box)) :: (63, ⟨[QaL x], 3, e3, true⟩) :: wA us eu ec eg L J b4) 63 = some ⟨[QaL x], 3, e3, true⟩ := Qj (by omega) (Qj (by decide) Qt)
    simp only [Box.fz, Bool.false_eq_true, if_false, List.map_cons, List.map_nil, D.fzS, beq_self_eq_true, if_true, h63, List.length_singleton, and_self, Q0]
   ·rename_i e2
    have h2 : lk ((500001 + i, bK) :: (64, (⟨[[.osl 63 1]], 1, e1, false⟩ : Box)) :: (63, ⟨[QaL x], 3, e3, true⟩) :: wA us eu ec eg L J b4) j = some b := by
     have hj : j ≠ 63 := by
      rcases Qbw hK h with ⟨rfl, _⟩ | ⟨rfl, _⟩ | ⟨rfl, _⟩ | ⟨m, _, rfl, _⟩ <;> omega
     exact Qj e (Qj e2 (Qj (Ne.symm hj) h))
    rcases Qbw hK h with ⟨rfl, rfl⟩ | ⟨rfl, rfl⟩ | ⟨rfl, rfl⟩ | ⟨m, hm, rfl, rfl⟩
    ·exact ⟨by decide, _, h2, XN (.inr fun j hj => eq63 j (no63 j (.inr (.inr (.inr (Qbv hj))))))⟩
    ·exact ⟨by decide, _, h2, rfl⟩
    ·exact ⟨by decide, _, h2, XN (.inl hb4)⟩
    ·exact ⟨by omega, _, h2, rfl⟩
 ·rw [Qn] at h
  split at h
  ·cases h
   rw [hbK j2 hj2]; exact QN QQ
  ·rw [Qn] at h
   split at h
   ·cases h; simp [Box.ids, D.sid, Q0] at hj2
   ·exact up _ _ j2 (Qan hK hb4 j b h j2 hj2)
 ·by_cases e : 500001 + i = j
  ·subst e; exact QQ
  ·rw [Qn, if_neg e, Qn, if_neg (by omega), Qn, if_neg (by omega)] at hs
   exact up _ _ j hs
 ·have h64 : lk ((500001 + i, bK) :: (64, (⟨[[Q0 [x]]], 1, e1, false⟩ : Box)) :: wA us eu ec eg L J b4) 64 = some ⟨[[Q0 [x]]], 1, e1, false⟩ := Qj (by omega) Qt
  refine le_trans (QgR h64 (by simp) (by intro r hr d hd; simp only [List.mem_singleton] at hr; subst hr; simp only [List.mem_singleton] at hd; subst hd; rfl)) (Qbm rfl fun j => ?_)
  by_cases e : 64 = j
  ·subst e; rw [Qt, Qn, if_neg (by omega), Qt]
  ·by_cases eK : 500001 + i = j
   ·subst eK; rw [Qn, if_neg e, Qt, Qt]
   ·rw [Qn, if_neg e, Qn, if_neg eK, Qn, if_neg e, Qn, if_neg eK, Qn, if_neg e]
theorem QkP {n : Nat} : ∀ {cs : List CR}, (∀ z ∈ cs, DoneC n z) -> ∃ l : List CandT, cs = l.map Qhi /\ ∀ c ∈ l, Qap n c
 | [], _ => ⟨[], rfl, by simp⟩
 | z :: cs, h => by
  obtain ⟨l, h1, h2⟩ := QkP (cs := cs) fun y hy => h y (by simp [hy])
  obtain ⟨c, rfl, hc⟩ := h z (by simp)
  exact ⟨c :: l, by rw [h1]; rfl, fun y hy => by
   rcases List.mem_cons.1 hy with rfl | hy
   ·exact hc
   ·exact h2 y hy⟩
def QoK (n : Nat) (u : UR) (x : QkB) : Prop := x.n = u.n /\ x.f = u.f /\ u.cs = x.cs.map Qhi /\ ∀ c ∈ x.cs, Qap n c
theorem QkQ {n : Nat} : ∀ {us : List UR}, (∀ u ∈ us, ∀ z ∈ u.cs, DoneC n z) -> ∃ w : Zf, w.length = us.length /\ ∀ j, ∀ h : j < us.length, ∀ h' : j < w.length, QoK n us[j] w[j]
 | [], _ => ⟨[], rfl, fun j h => by simp at h⟩
 | u :: us, h => by
  obtain ⟨w, h1, h2⟩ := QkQ (us := us) fun y hy => h y (by simp [hy])
  obtain ⟨l, q1, q2⟩ := QkP (h u (by simp))
  refine ⟨⟨u.n, u.f, l⟩ :: w, by simp [h1], fun j hj hj' => ?_⟩
  cases j with
  | zero => exact ⟨rfl, rfl, q1, q2⟩
  | succ j => simp only [List.getElem_cons_succ]; exact h2 j (by simpa using hj) (by simpa using hj')
structure Ql1 (w : Zf) : Prop where
 sm : WSm w
 len : 2 <= w.length /\ w.length <= 11
 cs : ∀ u ∈ w, u.cs.length <= 4
 cand : ∀ u ∈ w, ∀ c ∈ u.cs, Qap w.length c
theorem QnZ {w : Zf} (h2 : 2 <= w.length) (h11 : w.length <= 11) (hc : ∀ u ∈ w, u.cs.length <= 4) (hd : ∀ u ∈ w, ∀ c ∈ u.cs, Qap w.length c) : Ql1 w := by
 refine ⟨⟨by omega, fun u hu => Nat.le_trans (hc u hu) (by omega), fun u hu c hcm => (hd u hu c hcm).v, fun u hu c hcm => ⟨Nat.le_trans (hd u hu c hcm).nl (by omega), Nat.le_trans (hd u hu c hcm).bl (by omega)⟩, fun u hu c hcm r hr => Nat.le_trans ((hd u hu c hcm).nr r hr).1 (by omega), fun u hu c hcm r hr x hx => (((hd u hu c hcm).nr r hr).2 x hx).2.2.sm, fun u hu c hcm x hx => ((hd u hu c hcm).bw x hx).2.2.sm⟩, ⟨h2, h11⟩, hc, hd⟩
theorem Qmq {n : Nat} {us : List UR} {eu ec eg : Nat} {L : List Int} {J : Int} {b4 : Box} {k : Nat} (h : Prog n us us.length k) (hb4 : b4.pr = true) :
  ∃ w : Zf, w.length = us.length /\ Ql1 w /\ ∀ {l : List Nat} {fr fr1 fr' : List (Nat × D)}, Q7 l fr = fr1 -> fr1 = fr' -> (∀ p ∈ fr', ∀ j ∈ p.2.ids, j = 500000 \/ j = 4) -> St.le ⟨fr, wA us eu ec eg L J b4⟩ ⟨fr', [(500000, ⟨w.map Qcu, 3, eu, true⟩), (4, b4)]⟩ := by
 obtain ⟨w, hw1, hw2⟩ := QkQ (n := n) (us := us) fun u hu z hz => by
  obtain ⟨j, hj, rfl⟩ := List.getElem_of_mem hu
  obtain ⟨m, hm, rfl⟩ := List.getElem_of_mem hz
  exact h.done j hj m hm (.inl hj)
 have hcs : ∀ u ∈ w, u.cs.length <= 4 /\ ∀ c ∈ u.cs, Qap n c := fun u hu => by
  obtain ⟨j, hj, rfl⟩ := List.getElem_of_mem hu
  obtain ⟨_, _, q3, q4⟩ := hw2 j (by omega) hj
  have := h.cl us[j] (List.getElem_mem _)
  rw [q3, List.length_map] at this
  exact ⟨this, q4⟩
 have hlen := h.len
 refine ⟨w, hw1, QnZ (by omega) (by omega) (fun u hu => (hcs u hu).1) (fun u hu c hc => by have := (hcs u hu).2 c hc; rwa [show w.length = n by omega]), ?_⟩
 intro l fr fr1 fr' hf ef hfr
 subst hf ef
 have hK := h.keys
 let S : Nat -> Bool := fun k => decide (500001 <= k) && decide (k < 1000000)
 have hS1 : ∀ k, k < 500001 -> S k = false := fun k hk => by
  show (decide (500001 <= k) && decide (k < 1000000)) = false
  rw [decide_eq_false (by omega)]; rfl
 have hS2 : ∀ k, 500001 <= k -> k < 1000000 -> S k = true := fun k h1 h2 => by
  show (decide (500001 <= k) && decide (k < 1000000)) = true
  rw [decide_eq_true h1, decide_eq_true h2]; rfl
 have hrow : ∀ j, ∀ h1 : j < us.length, ∀ h2 : j < w.length, (dUR us[j]).map (D.fzS (wA us eu ec eg L J b4) S) = Qcu w[j] := fun j h1 h2 => by
  obtain ⟨q1, q2, q3, q4⟩ := hw2 j h1 h2
  have hk := hK j h1
  have hc := QcY (eu := eu) (ec := ec) (eg := eg) (L := L) (J := J) (b4 := b4) hK h1
  generalize us[j] = u at q1 q2 q3 hk hc
  generalize w[j] = x at q1 q2 q3 q4
  obtain ⟨un, uf, uk, ucs⟩ := u
  simp only at q1 q2 q3 hk hc
  subst hk q3
  simp only [dUR, Qcu, List.map_cons, List.map_nil, D.fzS]
  rw [hS2 _ (by omega) (by omega), hc]
  simp only [if_true, true_and, List.length_map, q1, q2, Qag, List.map_map]
  rfl
 have hrows : (us.map dUR).map (fun r => r.map (D.fzS (wA us eu ec eg L J b4) S)) = w.map Qcu := by
  refine List.ext_getElem (by simp [hw1]) fun j h1 h2 => ?_
  simp only [List.getElem_map]
  exact hrow j (by simpa using h1) (by simpa using h2)
 refine le_trans (QbR l fr _) (le_trans (QnX S (fun k hk => by
  simp only [S, Bool.and_eq_true, decide_eq_true_eq] at hk; exact hk.2) (fr' := Q7 l fr) (H' := [(500000, ⟨w.map Qcu, 3, eu, false⟩), (4, b4)]) (fun t d hd => ⟨d, hd, QhN fun j hj => ?_⟩) (fun j b hj => ?_) (fun t d hd j hj => ?_) (fun j b hb i hi => ?_) fun j hj hs => ?_) (le_trans (QgR (k := 500000) (b := ⟨w.map Qcu, 3, eu, false⟩) rfl (fun e => ?_) (fun r hr d hd => ?_)) (Qbm rfl fun j => ?_)))
 ·rcases hfr (t, d) (Z4 hd) j hj with rfl | rfl
  ·exact hS1 _ (by decide)
  ·exact hS1 _ (by decide)
 ·rw [Qn] at hj
  split at hj
  ·rename_i e; cases hj; subst e
   refine ⟨hS1 _ (by decide), _, QeG, ?_⟩
   simp only [Box.fz, Bool.false_eq_true, if_false, hrows]
  ·rw [Qn] at hj
   split at hj
   ·rename_i e; cases hj; subst e
    exact ⟨hS1 _ (by decide), _, QfF, XN (.inl hb4)⟩
   ·cases hj
 ·rcases hfr (t, d) (Z4 hd) j hj with rfl | rfl
  ·rfl
  ·rfl
 ·rw [Qn] at hb
  split at hb
  ·cases hb
   simp only [Box.ids, Bool.false_eq_true, if_false, List.mem_flatMap, List.mem_map] at hi
   obtain ⟨r, ⟨u, _, rfl⟩, d, hd, hi⟩ := hi
   simp only [Qcu, List.mem_cons, List.not_mem_nil, or_false] at hd
   rcases hd with rfl | rfl | rfl <;> simp [D.sid, Qag] at hi
  ·rw [Qn] at hb
   split at hb
   ·cases hb; rw [X6 hb4] at hi; cases hi
   ·cases hb
 ·obtain ⟨b, hb⟩ := Option.isSome_iff_exists.1 hs
  rcases Qbw hK hb with ⟨rfl, _⟩ | ⟨rfl, _⟩ | ⟨rfl, _⟩ | ⟨m, hm, rfl, _⟩ <;> omega
 ·have := congrArg List.length e
  simp only [List.length_map, List.length_nil] at this
  omega
 ·obtain ⟨u, _, rfl⟩ := List.mem_map.1 hr
  simp only [Qcu, List.mem_cons, List.not_mem_nil, or_false] at hd
  rcases hd with rfl | rfl | rfl <;> rfl
 ·by_cases e : 500000 = j
  ·subst e; rfl
  ·rw [Qn, if_neg e, Qn, if_neg e]; rw [Qn (k := 500000), if_neg e]
def QiI (us : List UR) (i : Nat) : Nat := match us[i]? with
 | some u => u.cs.length
 | none => 0
theorem QaK {us : List UR} {i : Nat} (h : i < us.length) : QiI us i = us[i].cs.length := by rw [QiI, List.getElem?_eq_getElem h]
theorem Qaz (us : List UR) (i k : Nat) (z : CR) : QiI (Qcl us i k z) i = QiI us i := by
 by_cases h : i < us.length
 ·rw [QaK h, QaK (by rw [Zq]; exact h), QaQ h, if_pos rfl]
  simp [Qd2]
 ·have e : (Qcl us i k z).length = us.length := Zq ..
  rw [QiI, QiI, List.getElem?_eq_none (show us.length <= i by omega), List.getElem?_eq_none (show (Qcl us i k z).length <= i by omega)]
theorem Qij {us : List UR} {i k : Nat} {z : CR} (hi : i < us.length) (hk : k < us[i].cs.length) {us2 : List UR} (e : us2 = Qcl us i k z) (hi2 : i < us2.length) (hk2 : k < us2[i].cs.length) : us2[i].cs[k] = z := by
 subst e
 have e1 := QaQ (i := i) (k := k) (z := z) hi
 rw [if_pos rfl] at e1
 have e2 : (Qcl us i k z)[i].cs[k] = (Qd2 us[i] k z).cs[k]'(by simpa [Qd2] using hk) := by congr 1; rw [e1]
 rw [e2]; simp [Qd2]
theorem QnN {cs : List CR} {k : Nat} {z : CR} (hk : k < cs.length) (hz : cs[k] = z) : (cs.map dCR)[((k : Nat) : Int).toNat]? = some (dCR z) := by rw [QpL hk, hz]
theorem Qne {cs : List CR} {k : Nat} {row : List D} (hk : k < cs.length) : ((cs.map dCR).set ((k : Nat) : Int).toNat row)[((k : Nat) : Int).toNat]? = some row := by
 rw [Int.toNat_natCast, List.getElem?_set_self (by simpa using hk)]
theorem QhW {K k e t : Nat} {L : List (List D)} {r1 r2 : List D} {p : Bool} {H : List (Nat × Box)} : lk ((K, (⟨(L.set k r1).set k r2, e, t, p⟩ : Box)) :: H) K = some ⟨L.set k r2, e, t, p⟩ := by rw [Qt, List.set_set]
theorem Qeo {H : List (Nat × Box)} {kk m e t : Nat} {ys : List (List D)} {v : Vr} {sh : Int} (h : lk H kk = some ⟨ys, e, t, true⟩) (hm : m = ys.length) : ([D.int .i64 v.a, .int .i64 v.b, .int .i64 v.c, .str v.p, .str v.q, .int .i64 sh, .osl kk m, .fsl []].map (D.fzS H (· == kk))).map D.canS = [.int .i64 v.a, .int .i64 v.b, .int .i64 v.c, .str v.p, .str v.q, .int .i64 sh, .sl ys, .sl []] := by
 simp only [List.map_cons, List.map_nil, D.fzS, beq_self_eq_true, if_true, h, hm, and_self, D.canS]
theorem Qk4 {H : List (Nat × Box)} {kk m e t : Nat} {ys : List (List D)} {v : Vr} {sh : Int} {ns : List (List WantT)} (h : lk H kk = some ⟨ys, e, t, true⟩) (hm : m = ys.length) : ([D.int .i64 v.a, .int .i64 v.b, .int .i64 v.c, .str v.p, .str v.q, .int .i64 sh, QS ns, .osl kk m].map (D.fzS H (· == kk))).map D.canS = [.int .i64 v.a, .int .i64 v.b, .int .i64 v.c, .str v.p, .str v.q, .int .i64 sh, QS ns, .sl ys] := by
 simp only [QS, List.map_cons, List.map_nil, D.fzS, beq_self_eq_true, if_true, h, hm, and_self, D.canS]
theorem Qpp {us : List UR} {eu ec eg : Nat} {L : List Int} {J J2 : Int} {b4 : Box} (k : Nat) : lk ((12, gB L J2 eg) :: wA us eu ec eg L J b4) k = lk (wA us eu ec eg L J2 b4) k := by
 show lk ((12, _) :: (500000, _) :: (12, _) :: (4, _) :: fbx ec us) k = lk ((500000, _) :: (12, _) :: (4, _) :: fbx ec us) k
 by_cases e : 12 = k
 ·subst e; rfl
 ·rw [Qn, if_neg e, Qn, Qn (k := 500000)]
  split
  ·rfl
  ·rw [Qn, if_neg e, Qn (k := 12), if_neg e]
theorem Qi1 {cs : List CR} {k e t : Nat} {row : List D} (h : ∀ z ∈ cs, PureC z) (hr : ∀ d ∈ row, ∀ j ∈ d.sid, j = 64) : ∀ j ∈ Box.ids ⟨(cs.map dCR).set k row, e, t, false⟩, j = 64 := fun j hj => by
 simp only [Box.ids, Bool.false_eq_true, if_false, List.mem_flatMap] at hj
 obtain ⟨r, hrm, d, hd, hj⟩ := hj
 rcases QdV hrm with rfl | hrm
 ·exact hr d hd j hj
 ·obtain ⟨z, hz, rfl⟩ := List.mem_map.1 hrm
  rw [(h z hz).all d hd] at hj; cases hj
theorem Qql {us : List UR} {eu ec eg : Nat} {L : List Int} {J : Int} {b4 b64 : Box} {n i k : Nat} (h : Prog n us i k) (hi : i < us.length) (hk : k < us[i].cs.length) {zx : CR} (hv : Qej zx.v) (hrow : zx.x.sid = [] /\ zx.y.sid = [64] /\ zx.z.sid = []) (hb4 : b4.pr = true) (h64 : b64.pr = true) :
  Fam ((500001 + i, ⟨(us[i].cs.map dCR).set k (dCR zx), 8, ec, false⟩) :: (64, b64) :: wA us eu ec eg L J b4) 12 500000 eu ec (Qcl us i k zx) /\ Closed ((500001 + i, ⟨(us[i].cs.map dCR).set k (dCR zx), 8, ec, false⟩) :: (64, b64) :: wA us eu ec eg L J b4) := by
 refine ⟨⟨by decide, ⟨false, ?_⟩, fun y hy => ?_, fun y hy => ?_⟩, ?_⟩
 ·rw [Qn, if_neg (by omega), Qn, if_neg (by decide), QeG, Qj1]
 ·obtain ⟨j, hj, rfl⟩ := List.getElem_of_mem hy
  have hK' := QdD (i := i) (k := k) (z := zx) h.keys
  have hj' := hj
  rw [Zq] at hj'
  refine ⟨by rw [hK' j hj]; omega, ?_⟩
  rw [hK' j hj]
  by_cases e : i = j
  ·subst e
   refine ⟨false, ?_⟩
   rw [Qt, QaQ hj', if_pos rfl, Qd2, List.map_set]
  ·refine ⟨true, ?_⟩
   rw [Qn, if_neg (by omega), Qn, if_neg (by omega), QcY h.keys hj', QaQ hj', if_neg e]
 ·obtain ⟨j, hj, rfl⟩ := List.getElem_of_mem hy
  have hj' := hj
  rw [Zq] at hj'
  rw [QaQ hj']
  have hfam := h.fam us[j] (List.getElem_mem _)
  split
  ·refine ⟨by simpa [Qd2] using hfam.1, fun z hz => ?_⟩
   rcases QdV hz with rfl | hz
   ·exact hv
   ·exact hfam.2 z hz
  ·exact hfam
 ·refine ((Qan h.keys hb4).pr h64).cons fun j hj => ?_
  have := Qi1 (e := 8) (t := ec) (k := k) (row := dCR zx) (fun z hz => (h.pure hi z hz).1) (fun d hd j hj => by
   simp only [dCR, List.mem_cons, List.not_mem_nil, or_false] at hd
   rcases hd with rfl | rfl | rfl | rfl | rfl | rfl | rfl | rfl
   ·cases hj
   ·cases hj
   ·cases hj
   ·cases hj
   ·cases hj
   ·rw [hrow.1] at hj; cases hj
   ·rw [hrow.2.1] at hj; simpa using hj
   ·rw [hrow.2.2] at hj; cases hj) j hj
  subst this; exact QQ
theorem Prog.start {us : List UR} (h : UnitsIn us) (h2 : 2 <= us.length) (h11 : us.length <= 11) : Prog us.length us 0 0 := by
 refine ⟨h.keys, ⟨rfl, h2, h11⟩, fun u hu => (h.fresh u hu).1, fun j hj m hm hd => by omega, fun j hj m hm _ => ?_⟩
 obtain ⟨v, sh, e, hv⟩ := (h.fresh _ (List.getElem_mem hj)).2 _ (List.getElem_mem hm)
 exact ⟨v, sh, e, hv⟩
theorem QdO {n : Nat} {m : Int} {v : Vr} {sh : Int} {ns : List (List WantT)} (hv : Qej v) (h : QeK n m ns) (hm : m <= 3) : Qap n ⟨v, sh, ns, []⟩ :=
 ⟨hv, by show ns.length <= 10; have := h.1; omega, fun r hr => ⟨(h.2 r hr).1, fun x hx => ((h.2 r hr).2 x hx).w⟩, Nat.zero_le _, fun x hx => by cases hx⟩
theorem QhF {n i : Nat} {m : Int} {v : Vr} {sh : Int} {ns : List (List WantT)} (hv : Qej v) (h : QeK n m ns) (hm : m <= 3) (h1 : 1 <= i) (hi : i < n) : Qap n ⟨v, sh, [⟨(i : Int) - 1, YL v.a v.b v.c v.p v.q⟩] :: ns, []⟩ := by
 refine ⟨hv, by show (_ :: ns).length <= 10; have := h.1; simp only [List.length_cons]; omega, fun r hr => ?_, Nat.zero_le _, fun x hx => by cases hx⟩
 rcases List.mem_cons.1 hr with rfl | hr
 ·refine ⟨by simp, fun x hx => ?_⟩
  simp only [List.mem_singleton] at hx; subst hx
  have := Xo (a := v.a) (b := v.b) (c := v.c) (q := v.q) hv.1
  exact ⟨by show 0 <= (i : Int) - 1; omega, by show (i : Int) - 1 < n; omega, this.1.up (by omega), this.2.up (by omega)⟩
 ·exact ⟨(h.2 r hr).1, fun x hx => ((h.2 r hr).2 x hx).w⟩
theorem QhE {n : Nat} {v : Vr} {sh : Int} {ns : List (List WantT)} (h : Qap n ⟨v, sh, ns, []⟩) {x : WantT} (hx : WantIn n x) : Qap n ⟨v, sh, ns, [x]⟩ := ⟨h.v, h.nl, h.nr, by simp, by intro y hy; simp only [List.mem_singleton] at hy; subst hy; exact hx.w⟩
theorem Qik {us : List UR} {i k : Nat} {z : CR} (hi : i < us.length) (hk : k < us[i].cs.length) {us2 : List UR} (e : Qcl us i k z = us2) (hi2 : i < us2.length) : k < us2[i].cs.length := by
 rw [<- QaK hi2, <- e, Qaz, QaK hi]; exact hk
theorem Qnb {l : List (List WantT)} : ∀ r ∈ l.map (fun r => [Q0 r]), r.length = 1 := fun r hr => by obtain ⟨x, _, rfl⟩ := List.mem_map.1 hr; rfl
end M25
namespace M25
open Go Go.Abs M3
/-! ### Trails that may be -/
end M25
namespace M25
open Go Go.Abs M3
/-! ### What every program says -/
/-! ### A world's facts, and more -/
end M25
namespace M25
open Go Go.Abs M3
/-! ### Powers of two -/
/-! ### Steps that may be: the program's -/
/-! ### Deciding -/
end M25
namespace M25
open Go Go.Abs M3
/-! ### Back, Sure, When -/
/-! ### What valid trails are -/
/-! ### Levels -/
end M25
namespace M25
open Go Go.Abs M3
/-! ### The first row of lefts -/
end M25
namespace M25
open Go Go.Abs M3
/-! ### When, Qhj by Qhj -/
/-! ### The QfS world -/
end M25
namespace M25
open Go Go.Abs M3
/-! ### What a run is: steps, one open after the other -/
inductive Qkz (w : Zf) (db : List (List QfG)) : List Qba -> List Qba -> Prop
 | nil (l : List Qba) : Qkz w db l l
 | cons {l x : List Qba} (a k : Nat) (ho : Qox w db l a k) (h : Qkz w db (l ++ [Qqk w l ((db[a]'ho.ha)[k]'ho.hk) a]) x) : Qkz w db l x
section
variable {w : Zf} {db : List (List QfG)}
def Below (w : Zf) (b l : List Qba) : Prop := ∀ u i, tb (QfO w b u) i = true -> tb (QfO w l u) i = true
theorem Below.refl (l : List Qba) : Below w l l := fun _ _ h => h
/-! ### Sound: a choice stays -/
end
end M25
namespace M25
open Go Go.Abs M3
end M25
namespace M25
open Go Go.Abs M3
/-! ### More of runs -/
end M25
namespace M25
open Go Go.Abs M3
/-! ### The facts in another order -/
end M25
namespace M25
open Go Go.Abs M3
/-! ### How long a run is -/
structure Good (w : Zf) (l : List Qba) : Prop where
 p : Qoy w l
 nz : ∀ u, inW w u = true -> QfO w l u ≠ 0
 le : ∀ u i, tb (QfO w l u) i = true -> tb (QaM w u) i = true
end M25
namespace M25
open Go Go.Abs M3
/-! ### Masks are of values that there are -/
/-! ### Each Qhj of a run -/
end M25
namespace M25
open Go Go.Abs M3
end M25
namespace M25
open Go Go.Abs M3
/-! ### Derive again -/
/-! ### Sure, and what holds -/
end M25
namespace M25
open Go Go.Abs M3
/-! ### The choice that a trail has decided -/
end M25
namespace Go.Proofs
open Go Go.Abs M3 M25
set_option linter.unusedVariables false
set_option linter.unusedSimpArgs false
end Go.Proofs
namespace Go.Proofs
open Go Go.Abs M3 M25
set_option linter.unusedVariables false
set_option linter.unusedSimpArgs false
theorem QaD {s : St} {args : List Opd} {kg : Nat} {L : List Int} {I n : Int} {et : Nat} (ha : Zs s args = some [.ref kg 0 0, .int .i64 n]) (hg : lk s.H kg = some (gB L I et)) (hL : ∀ x ∈ L, I64 x) (hn : n <= 9223372036854775807) : QaX Tryd.prog 37 args s [(kg, gB L I et)] [] [(kg, gB L (nxI I) et)] (.int .i64 (nx L I n)) := by
 refine QfX (b' := gB L (nxI I) et) (ds' := [.ref (upN kg) 0 0, .int .i64 n]) ha (fun j x h => ?_) (fun k b hk j hj => ?_) (fun x hx j hj => ?_) ?_ Z Z Z Z ?_
 ·obtain ⟨rfl, rfl⟩ := Xy h; exact hg
 ·obtain ⟨rfl, rfl⟩ := Xy hk; simp [Box.ids, gB] at hj
 ·simp only [List.mem_cons, List.not_mem_nil, or_false] at hx
  rcases hx with rfl | rfl
  ·simp [D.ids, D.sid] at hj; subst hj; rw [Qt]; rfl
  ·simp [D.ids, D.sid] at hj
 ·rw [Qt]; rfl
 ·exact XO (by unfold upN; omega) hL hn et
theorem Qc9 {H : List (Nat × Box)} {kg kc : Nat} {L : List Int} {I : Int} {eg ec : Nat} {pr : Bool} {zs : List CR} (hkg : 1000000 <= kg) (hg : lk H kg = some (gB L I eg)) (hc : lk H kc = some ⟨zs.map dCR, 8, ec, pr⟩) (hne : kg ≠ kc) (hB : Big H) (hC : Closed H) (hL : ∀ x ∈ L, I64 x) (hz : ∀ z ∈ zs, Qej z.v) (hn : zs.length <= 16) : ∃ d H2, (∃ s I2, SetOk s /\ d = Qdi s /\ H2 = (kg, gB L I2 eg) :: H) /\ OkH Tryd.prog 58 [.ref kg 0 0, .osl kc zs.length] H d H2 := by
 have hkc := hB _ _ hc
 refine OkH.ofX (R := fun d H2 => ∃ s I2, SetOk s /\ d = Qdi s /\ H2 = (kg, gB L I2 eg) :: H) Z3 Tryd.func58 Qqh (Nat.le_of_ble_eq_true Z) ?_
 show TX _ _ tf58.body _ _
 refine Q2 fun K hK => ?_
 refine Zt (by repeat (first | exact hB.none (by decide) | refine Zk (by first | decide | omega) ?_)) ?_
 refine hK _ _ (QL (kp3 Z Z Z) ?_)
 refine Q2 fun K hK => Qb Z (Ya (QaD (I := I) Z (Qj (by omega) hg) hL (by omega)) (Qb Z (hK _ _ (QL (kp4 Z Z Z Z) ?_))))
 refine Q2 fun K hK => Qy (ZS) Z Z (.inl Z) ?_
 refine Zt (by repeat (first | exact hB.none (by decide) | refine Zk (by first | decide | omega) ?_)) ?_
 refine QW Z Z Z Z Z Z Z Z (hK _ _ (QL (kp5 Z Z Z Z Z) ?_))
 refine XM ?_ -- 0
 refine Q2 fun K hK => Qb Z (hK _ _ (QL (kp6 Z Z Z Z Z Z) ?_))
 refine Yz ?_
 refine Qd4 (ι := Nat × QdI) (fun ⟨i, s⟩ => ⟨[(0, .ref kg 0 0), (1, .osl kc zs.length), (4, .ref 4 0 0), (5, .int .i64 (nx L I 8)), (6, .ref 6 0 0), (7, .int .i64 i)], [(4, ⟨[[.fsl [], .fsl []]], 2, 30, true⟩), (6, ⟨[[Q5 s.1, Q5 s.2]], 2, 30, true⟩), (kg, gB L (nxI I) eg)] ++ H⟩) (fun ⟨i, s⟩ => i <= zs.length /\ Qjj (bnd i - 4) s) (fun ⟨i, s⟩ => zs.length - i) (0, ([], [])) ?_ ?_ ?_
 ·exact QcF (l := [0, 1, 4, 5, 6, 7]) (B := [_, _, _, _]) (kp6 rfl rfl rfl rfl rfl rfl) rfl (by intro p hp; simp only [List.mem_cons, List.not_mem_nil, or_false] at hp; rcases hp with rfl | rfl | rfl <;> exact ⟨by repeat (first | exact Qt | refine Qj (by first | decide | omega) ?_), rfl⟩) rfl (by intro p hp h; simp only [List.mem_cons, List.not_mem_nil, or_false] at hp; rcases hp with rfl | rfl | rfl | rfl <;> first | (simp only at h; omega) | (repeat (first | exact QQ | refine QN ?_))) hB hC (by intro p hp k hk; simp only [List.mem_cons, List.not_mem_nil, or_false] at hp; rcases hp with rfl | rfl | rfl | rfl | rfl | rfl <;> first | (simp [D.ids, D.sid, Q0, QS, ZL] at hk; done) | (simp [D.ids, D.sid, Q0, QS, ZL] at hk; subst hk; repeat (first | exact QQ | exact Zd hg | exact Zd hc | refine QN ?_)))
 ·exact ⟨Nat.zero_le _, SmN.nil _, SmN.nil _⟩
 intro ⟨i, s⟩ hI
 try dsimp only at hI
 have hb16 := QkH (i := i) (by omega)
 try dsimp only
 refine XM ?_ -- 1
 refine Q2 fun K hK => Qb Z (Qb Z ?_)
 first | refine ZF rfl YE ?_ | refine ZF rfl rfl ?_
 refine YH Z Z (hK _ _ (QL (kp7 Z Z Z Z Z Z Z) ?_))
 refine YY Z (fun h1 => ?_) (fun h1 => ?_)
 ·try rw [h1]
  try simp only [qA] at h1
  refine Xe (Q1 (kp6 Z Z Z Z Z Z) ?_)
  refine XM ?_ -- 2
  refine Yz (Q2 fun K hK => Qb Z (Qb Z (QfU Z (Qhg (by omega) (by omega)) (Qnv Z Z (by omega) (Qgr Z Z (Yd Z Z (hK _ _ (QL (kp7 Z Z Z Z Z Z Z) ?_))))))))
  refine YY Z (fun h2 => ?_) (fun h2 => ?_)
  ·try rw [h2]
   try simp only [qA] at h2
   have hvp := (hz _ (List.getElem_mem (show i < zs.length by omega))).1
   refine ZR fun K hK => QG (ds0 := [1, 0]) (cs := [_, _]) Z Z Z Z (by simp [Dr.ok, Qao]) Z (Qb Z (Qb Z (Qc0 (ds0 := [4, 3, 2, 1, 0]) Z Z (Qj (by omega) (Qj (by omega) (Qj (by omega) hc))) (by simp) (by omega) (by omega) Z (by simp [Dr.ok, Qao]) Z (Qh Z (Zd (Qj (by omega) (Qj (by omega) (Qj (by omega) hc)))) (QG (ds0 := [2, 1, 0]) (cs := [_, _, _, _, _]) Z (ZV (Qj (by omega) (Qj (by omega) (Qj (by omega) hc))) (ZT (by omega))) Z Z (by simp [Dr.ok, Qao]) Z (QU (ds0 := [1, 0]) (Yi (hz _ (List.getElem_mem (by omega))).1 (hz _ (List.getElem_mem (by omega))).2) Z Z (.inl Z) (by simp [Dr.ok, Qao]) Z (QU (ds0 := [0]) (QaV (a := s) (b := (YL (zs[i]'(by omega)).v.a (zs[i]'(by omega)).v.b (zs[i]'(by omega)).v.c (zs[i]'(by omega)).v.p (zs[i]'(by omega)).v.q)) (hI.2.1.sm (by omega)) (hI.2.2.sm (by omega)) ((Xo hvp).1.sm (by omega)) ((Xo hvp).2.sm (by omega)) (by have := hI.2.1.1; have := (Xo (a := (zs[i]'(by omega)).v.a) (b := (zs[i]'(by omega)).v.b) (c := (zs[i]'(by omega)).v.c) (q := (zs[i]'(by omega)).v.q) hvp).1.1; omega) (by have := hI.2.2.1; have := (Xo (a := (zs[i]'(by omega)).v.a) (b := (zs[i]'(by omega)).v.b) (c := (zs[i]'(by omega)).v.c) (q := (zs[i]'(by omega)).v.q) hvp).2.1; omega)) Z Z (.inl Z) (by simp [Dr.ok, Qao]) Z (Xk (ds0 := []) Z Z Z Z Z Z Z Z (by simp [Dr.ok, Qao]) Z (hK _ ?_)))))))))
   refine Ql (Q1 (kp6 Z Z Z Z Z Z) (ZR fun K hK => Qb Z (Zi Z Z (by first | exact Qu (by omega) (by omega) | rfl) (Qb Z (hK _ ?_)))))
   refine Qo (i + 1, Qmx s (YL (zs[i]'(by omega)).v.a (zs[i]'(by omega)).v.b (zs[i]'(by omega)).v.c (zs[i]'(by omega)).v.p (zs[i]'(by omega)).v.q)) ?_ ?_ ?_
   ·exact QcF (l := [0, 1, 4, 5, 6, 7]) (B := [_, _, _, _]) (kp6 rfl rfl rfl rfl rfl rfl) rfl (by intro p hp; simp only [List.mem_cons, List.not_mem_nil, or_false] at hp; rcases hp with rfl | rfl | rfl <;> exact ⟨by repeat (first | exact Qt | refine Qj (by first | decide | omega) ?_), rfl⟩) rfl (by intro p hp h; simp only [List.mem_cons, List.not_mem_nil, or_false] at hp; rcases hp with rfl | rfl | rfl | rfl <;> first | (simp only at h; omega) | (repeat (first | exact QQ | refine QN ?_))) hB hC (by intro p hp k hk; simp only [List.mem_cons, List.not_mem_nil, or_false] at hp; rcases hp with rfl | rfl | rfl | rfl | rfl | rfl <;> first | (simp [D.ids, D.sid, Q0, QS, ZL] at hk; done) | (simp [D.ids, D.sid, Q0, QS, ZL] at hk; subst hk; repeat (first | exact QQ | exact Zd hg | exact Zd hc | refine QN ?_)))
   ·exact ⟨by show i + 1 <= _; omega, Qnf hI.2 (hz _ (List.getElem_mem (by omega))).1 (by omega)⟩
   ·show zs.length - (i + 1) < zs.length - i; omega
  ·try rw [h2]
   try simp only [qA] at h2
   have hvp := (hz _ (List.getElem_mem (show i < zs.length by omega))).1
   refine Xe (Ql (Q1 (kp6 Z Z Z Z Z Z) (ZR fun K hK => Qb Z (Zi Z Z (by first | exact Qu (by omega) (by omega) | rfl) (Qb Z (hK _ ?_))))))
   refine Qo (i + 1, s) ?_ ?_ ?_
   ·exact QcF (l := [0, 1, 4, 5, 6, 7]) (B := [_, _, _]) (kp6 rfl rfl rfl rfl rfl rfl) rfl (by intro p hp; simp only [List.mem_cons, List.not_mem_nil, or_false] at hp; rcases hp with rfl | rfl | rfl <;> exact ⟨by repeat (first | exact Qt | refine Qj (by first | decide | omega) ?_), rfl⟩) rfl (by intro p hp h; simp only [List.mem_cons, List.not_mem_nil, or_false] at hp; rcases hp with rfl | rfl | rfl <;> first | (simp only at h; omega) | (repeat (first | exact QQ | refine QN ?_))) hB hC (by intro p hp k hk; simp only [List.mem_cons, List.not_mem_nil, or_false] at hp; rcases hp with rfl | rfl | rfl | rfl | rfl | rfl <;> first | (simp [D.ids, D.sid, Q0, QS, ZL] at hk; done) | (simp [D.ids, D.sid, Q0, QS, ZL] at hk; subst hk; repeat (first | exact QQ | exact Zd hg | exact Zd hc | refine QN ?_)))
   ·exact ⟨by show i + 1 <= _; omega, Qj2 hI.2⟩
   ·show zs.length - (i + 1) < zs.length - i; omega
 ·try rw [h1]
  try simp only [qA] at h1
  refine Qc2 (Xw (QD (QK (Q1 (kp3 Z Z Z) ?_))))
  refine XM ?_ -- 3
  refine Q2 fun K hK => Qb Z (Ya (QaD (I := nxI I) Z (Qj (by omega) (Qj (by omega) Qt)) hL (by omega)) (hK _ _ (QL (kp3 Z Z Z) ?_)))
  refine Yz (Q2 fun K hK => Yd Z Z (Qb Z (hK _ _ (QL (kp4 Z Z Z Z) ?_))))
  refine YY Z (fun h3 => ?_) (fun h3 => ?_)
  ·try rw [h3]
   try simp only [qA] at h3
   refine Q2 fun K hK => Qy (Qaw) Z Z (.inl Z) (QW Z (Qj (by omega) Z) Z Z Z Z Z Z (hK _ _ (QL (kp1 Z) ?_)))
   refine QdJ (Qw (QeE ?_))
   refine ⟨Qdi Qgt, (kg, gB L (nxI (nxI I)) eg) :: H, ⟨Qgt, _, ⟨Qjk.1.up (by omega), Qjk.2.up (by omega)⟩, rfl, rfl⟩, (Z6 hB hC hkg rfl).1, (Z6 hB hC hkg rfl).2, ?_⟩
   refine Xh (cs := [Q5 Qgt.1, Q5 Qgt.2]) Z (ZV (by repeat (first | exact Qt | refine Qj (by first | decide | omega) ?_)) Z) Z Z Z ?_
   exact YR (B := [_, _, _, _, _]) hB (by repeat (first | exact Qt | refine Qj (by first | decide | omega) ?_)) (by intro p hp h; simp only [List.mem_cons, List.not_mem_nil, or_false] at hp; rcases hp with rfl | rfl | rfl | rfl | rfl <;> first | rfl | (simp only at h; omega))
  ·try rw [h3]
   try simp only [qA] at h3
   refine Q2 fun K hK => Yd Z Z (Qb Z (hK _ _ (QL (kp3 Z Z Z) ?_)))
   refine YY Z (fun h4 => ?_) (fun h4 => ?_)
   ·try rw [h4]
    try simp only [qA] at h4
    refine Q2 fun K hK => QE (cs := [_, _]) Z (ZV (Qj (by omega) Z) Z) Z Z (Qy (Qax (a := s) (hI.2.1.sm (by omega)) (hI.2.2.sm (by omega))) Z Z (.inl Z) (QW Z (Qj (by omega) Z) Z Z Z Z Z Z (hK _ _ (QL (kp1 Z) ?_))))
    refine QdJ (Qw (QeE ?_))
    refine ⟨Qdi (QdU s), (kg, gB L (nxI (nxI I)) eg) :: H, ⟨(QdU s), _, ⟨(QgZ hI.2 (by omega)).1.up (by omega), (QgZ hI.2 (by omega)).2.up (by omega)⟩, rfl, rfl⟩, (Z6 hB hC hkg rfl).1, (Z6 hB hC hkg rfl).2, ?_⟩
    refine Xh (cs := [Q5 (QdU s).1, Q5 (QdU s).2]) Z (ZV (by repeat (first | exact Qt | refine Qj (by first | decide | omega) ?_)) Z) Z Z Z ?_
    exact YR (B := [_, _, _, _, _]) hB (by repeat (first | exact Qt | refine Qj (by first | decide | omega) ?_)) (by intro p hp h; simp only [List.mem_cons, List.not_mem_nil, or_false] at hp; rcases hp with rfl | rfl | rfl | rfl | rfl <;> first | rfl | (simp only at h; omega))
   ·try rw [h4]
    try simp only [qA] at h4
    refine Xe (Ql (Q1 (kp2 Z Z) (Q2 fun K hK => QE (cs := [_, _]) Z (ZV (Qj (by omega) Z) Z) Z Z (QW Z (Qj (by omega) Z) Z Z Z Z Z Z (hK _ _ (QL (kp1 Z) ?_))))))
    refine QdJ ?_
    refine ⟨Qdi s, (kg, gB L (nxI (nxI I)) eg) :: H, ⟨s, _, ⟨hI.2.1.up (by omega), hI.2.2.up (by omega)⟩, rfl, rfl⟩, (Z6 hB hC hkg rfl).1, (Z6 hB hC hkg rfl).2, ?_⟩
    refine Xh (cs := [Q5 s.1, Q5 s.2]) Z (ZV (by repeat (first | exact Qt | refine Qj (by first | decide | omega) ?_)) Z) Z Z Z ?_
    exact YR (B := [_, _, _, _, _]) hB (by repeat (first | exact Qt | refine Qj (by first | decide | omega) ?_)) (by intro p hp h; simp only [List.mem_cons, List.not_mem_nil, or_false] at hp; rcases hp with rfl | rfl | rfl | rfl | rfl <;> first | rfl | (simp only at h; omega))
end Go.Proofs
namespace Go.Proofs
open Go Go.Abs M3 M25
set_option linter.unusedVariables false
set_option linter.unusedSimpArgs false
/-- The call of 'set', over boxes that are lent. -/
theorem QpS {H : List (Nat × Box)} {kg kc : Nat} {L : List Int} {I : Int} {eg ec : Nat} {pr : Bool} {zs : List CR} (hg : lk H kg = some (gB L I eg)) (hc : lk H kc = some ⟨zs.map dCR, 8, ec, pr⟩) (hne : kg ≠ kc) (hC : Closed H) (hL : ∀ x ∈ L, I64 x) (hz : ∀ z ∈ zs, Qej z.v) (hn : zs.length <= 16) :
  ∃ s I2, SetOk s /\ ∀ (st : St) (args : List Opd), Zs st args = some [.ref kg 0 0, .osl kc zs.length] -> (∀ j x, lk H j = some x -> lk st.H j = some x) -> QaX Tryd.prog 58 args st H [] [(kg, gB L I2 eg)] (Qdi s) := by
 obtain ⟨d, H2, ⟨s, I2, hs, rfl, rfl⟩, hok⟩ := Qc9 (H := upH H) (kg := upN kg) (kc := upN kc) (L := L) (I := I) (eg := eg) (ec := ec) (pr := pr) (zs := zs.map CR.ren) (by unfold upN; omega) (by rw [XZ, hg]; rfl) (by rw [XZ, hc, Option.map_some, Box.ren, QkO]) (fun e => hne (Qi8 e)) QfC (Qa7 hC) hL
  (fun z hz' => by obtain ⟨z0, h0, rfl⟩ := List.mem_map.1 hz'; exact hz z0 h0) (by simpa using hn)
 refine ⟨s, I2, hs, fun st args ha hF => QfX (b' := gB L I2 eg) (ds' := [.ref (upN kg) 0 0, .osl (upN kc) zs.length]) ha hF hC (fun x hx j hj => ?_) (Zd hg) Z Z Z Z ?_⟩
 ·simp only [List.mem_cons, List.not_mem_nil, or_false] at hx
  rcases hx with rfl | rfl
  ·simp [D.ids, D.sid] at hj; subst hj; exact Zd hg
  ·simp [D.ids, D.sid] at hj; subst hj; exact Zd hc
 ·rw [List.length_map] at hok; exact hok
theorem QcI {H : List (Nat × Box)} {kg ku : Nat} {L : List Int} {I : Int} {eg eu ec : Nat} {us : List UR} (hkg : 1000000 <= kg) (hg : lk H kg = some (gB L I eg)) (hU : Fam H kg ku eu ec us) (hB : Big H) (hC : Closed H) (hL : ∀ x ∈ L, I64 x) (h2n : 2 <= us.length) (hn : us.length <= 48) : ∃ d H2, (∃ x I2, WantIn us.length x /\ d = .agg (QaL x) /\ H2 = (kg, gB L I2 eg) :: H) /\ OkH Tryd.prog 38 [.ref kg 0 0, .osl ku us.length] H d H2 := by
 obtain ⟨pu, hu⟩ := hU.u
 have hku := hB _ _ hu
 have hne := hU.ne
 have hx0 := Qh3 (v := Qkt L (IntKind.i64.wrap (nxI I - 1))) (n := (us.length : Int) - 1)
 have hx1 := Qh2 (v := Qkt L (IntKind.i64.wrap (nxI I - 1))) (n := (us.length : Int) - 1) (by omega)
 change 0 <= nx L I ((us.length : Int) - 1) at hx0
 change nx L I ((us.length : Int) - 1) < _ at hx1
 obtain ⟨hyk, pr, hy⟩ := hU.c (us[(1 + nx L I ((us.length : Int) - 1)).toNat]'(by omega)) (List.getElem_mem _)
 obtain ⟨hv1, hv2⟩ := hU.v (us[(1 + nx L I ((us.length : Int) - 1)).toNat]'(by omega)) (List.getElem_mem _)
 obtain ⟨s, I2, hs, hcall⟩ := QpS (H := (kg, gB L (nxI I) eg) :: H) Qt (Qj (Ne.symm hyk) hy) (Ne.symm hyk) (hC.pr rfl) hL hv2 hv1
 refine OkH.ofX (R := fun d H2 => ∃ x I2, WantIn us.length x /\ d = .agg (QaL x) /\ H2 = (kg, gB L I2 eg) :: H) Z3 Tryd.func38 Qqg (Nat.le_of_ble_eq_true Z) ?_
 show TX _ _ tf38.body _ _
 refine Q2 fun K hK => ?_
 refine Zt (by repeat (first | exact hB.none (by decide) | refine Zk (by first | decide | omega) ?_)) ?_
 refine hK _ _ (QL (kp3 Z Z Z) ?_)
 refine Q2 fun K hK => Qb Z (Qb Z ?_)
 first | refine ZF rfl YE ?_ | refine ZF rfl rfl ?_
 refine Qc1 Z Z (by first | exact Qu (by omega) (by omega) | rfl) (Ya (QaD (I := I) Z (Qj (by omega) hg) hL (by omega)) (Zi Z Z (by first | exact Qu (by omega) (by omega) | rfl) (Qb Z (hK _ _ (QL (kp4 Z Z Z Z) ?_)))))
 refine Q2 fun K hK => Qb rfl (Qb rfl (Qb rfl (Qb rfl (Qa9 rfl rfl (Qj (by omega) (Qj (by omega) hu)) (by simp) (by omega) (by omega) rfl (Qh rfl (Zd (Qj (by omega) (Qj (by omega) hu))) (QF rfl (ZV (Qj (by omega) (Qj (by omega) hu)) (Yj (by omega) (by omega))) rfl (Ya (hcall _ _ rfl (YR (B := [_, _]) hB Qt (by intro p hp h; simp only [List.mem_cons, List.not_mem_nil, or_false] at hp; rcases hp with rfl | rfl <;> first | rfl | (simp only at h; omega)))) (QZ rfl rfl (QW rfl (Qj (by omega) (Qj (by omega) rfl)) rfl rfl rfl rfl rfl rfl (hK _ _ (QL (kp1 rfl) ?_)))))))))))
 refine QdJ ?_
 refine ⟨.agg (QaL ⟨1 + nx L I ((us.length : Int) - 1), s⟩), (kg, gB L I2 eg) :: H, ⟨⟨1 + nx L I ((us.length : Int) - 1), s⟩, _, ⟨by show 1 <= 1 + _; omega, by show 1 + _ < (us.length : Int); omega, hs⟩, rfl, rfl⟩, (Z6 hB hC hkg rfl).1, (Z6 hB hC hkg rfl).2, ?_⟩
 refine Xh (cs := QaL ⟨1 + nx L I ((us.length : Int) - 1), s⟩) Z (ZV (by repeat (first | exact Qt | refine Qj (by first | decide | omega) ?_)) Z) Z Z Z ?_
 exact YR (B := [_, _, _, _]) hB (by repeat (first | exact Qt | refine Qj (by first | decide | omega) ?_)) (by intro p hp h; simp only [List.mem_cons, List.not_mem_nil, or_false] at hp; rcases hp with rfl | rfl | rfl | rfl <;> first | rfl | (simp only at h; omega))
/-- The call of 'want'. -/
theorem QjU {H : List (Nat × Box)} {kg ku : Nat} {L : List Int} {I : Int} {eg eu ec : Nat} {us : List UR} (hg : lk H kg = some (gB L I eg)) (hU : Fam H kg ku eu ec us) (hC : Closed H) (hL : ∀ x ∈ L, I64 x) (h2 : 2 <= us.length) (hn : us.length <= 48) :
  ∃ x I2, WantIn us.length x /\ ∀ (st : St) (args : List Opd), Zs st args = some [.ref kg 0 0, .osl ku us.length] -> (∀ j x, lk H j = some x -> lk st.H j = some x) -> QaX Tryd.prog 38 args st H [] [(kg, gB L I2 eg)] (.agg (QaL x)) := by
 obtain ⟨d, H2, ⟨x, I2, hx, rfl, rfl⟩, hok⟩ := QcI (H := upH H) (kg := upN kg) (ku := upN ku) (L := L) (I := I) (eg := eg) (eu := eu) (ec := ec) (us := us.map UR.ren) (by unfold upN; omega) (by rw [XZ, hg]; rfl) hU.up QfC (Qa7 hC) hL (by simpa using h2) (by simpa using hn)
 obtain ⟨pu, hu⟩ := hU.u
 rw [List.length_map] at hx hok
 refine ⟨x, I2, hx, fun st args ha hF => QfX (b' := gB L I2 eg) (ds' := [.ref (upN kg) 0 0, .osl (upN ku) us.length]) ha hF hC (fun x hx j hj => ?_) (Zd hg) Z Z Z Z hok⟩
 simp only [List.mem_cons, List.not_mem_nil, or_false] at hx
 rcases hx with rfl | rfl
 ·simp [D.ids, D.sid] at hj; subst hj; exact Zd hg
 ·simp [D.ids, D.sid] at hj; subst hj; exact Zd hu
end Go.Proofs
namespace Go.Proofs
open Go Go.Abs M3 M25
set_option linter.unusedVariables false
set_option linter.unusedSimpArgs false
theorem Qco {H : List (Nat × Box)} {kg ku : Nat} {L : List Int} {I most : Int} {eg eu ec : Nat} {us : List UR} (hkg : 1000000 <= kg) (hg : lk H kg = some (gB L I eg)) (hU : Fam H kg ku eu ec us) (hB : Big H) (hC : Closed H) (hL : ∀ x ∈ L, I64 x) (h2n : 2 <= us.length) (hn : us.length <= 48) (hm0 : 0 <= most) (hm1 : most <= 10) : ∃ d H2, (∃ ns I2, QeK us.length most ns /\ d = QS ns /\ H2 = (kg, gB L I2 eg) :: H) /\ OkH Tryd.prog 35 [.ref kg 0 0, .osl ku us.length, .int .i64 most] H d H2 := by
 obtain ⟨pu, hu⟩ := hU.u
 have hku := hB _ _ hu
 have hne := hU.ne
 have hk0 : 0 <= nx L I (most + 1) := Qh3
 have hk1 : nx L I (most + 1) < most + 1 := Qh2 (by omega)
 refine OkH.ofX (R := fun d H2 => ∃ ns I2, QeK us.length most ns /\ d = QS ns /\ H2 = (kg, gB L I2 eg) :: H) Z3 Tryd.func35 QqE (Nat.le_of_ble_eq_true Z) ?_
 show TX _ _ tf35.body _ _
 refine Q2 fun K hK => Qb Z (hK _ _ (QL (kp3 Z Z Z) ?_))
 refine Q2 fun K hK => Qb Z (hK _ _ (QL (kp4 Z Z Z Z) ?_))
 refine XM ?_ -- 0
 refine Q2 fun K hK => Qb Z (Qb Z (Zi Z Z (by first | exact Qu (by omega) (by omega) | rfl) (Ya (QaD (I := I) Z hg hL (by omega)) (Qb Z (hK _ _ (QL (kp4 Z Z Z Z) ?_))))))
 refine Yz ?_
 refine Qd4 (ι := Nat × List (List WantT) × Int) (fun ⟨k, ns, J⟩ => ⟨[(0, .ref kg 0 0), (1, .osl ku us.length), (7, .osl 7 ns.length), (8, .int .i64 k)], [(7, ⟨(ns).map (fun r => [Q0 r]), 1, 51, true⟩), (kg, gB L J eg)] ++ H⟩) (fun ⟨k, ns, J⟩ => (ns.length : Int) + k <= most /\ ∀ r ∈ ns, Qht us.length r) (fun ⟨k, ns, J⟩ => k) ((nx L I (most + 1)).toNat, [], nxI I) ?_ ?_ ?_
 ·exact le_trans (Qak 7 7 1 51 rfl (by repeat (first | exact hB.none (by decide) | refine Zk (by first | decide | omega) ?_))) (QcF (l := [0, 1, 7, 8]) (B := [_, _]) (kp4 rfl rfl rfl rfl) (by simp only [Int.toNat_of_nonneg hk0] <;> rfl) (by intro p hp; simp only [List.mem_cons, List.not_mem_nil, or_false] at hp; rcases hp with rfl | rfl <;> exact ⟨by repeat (first | exact Qt | refine Qj (by first | decide | omega) ?_), rfl⟩) rfl (by intro p hp h; simp only [List.mem_cons, List.not_mem_nil, or_false] at hp; rcases hp with rfl | rfl <;> first | (simp only at h; omega) | (repeat (first | exact QQ | refine QN ?_))) hB hC (by intro p hp k hk; simp only [List.mem_cons, List.not_mem_nil, or_false] at hp; rcases hp with rfl | rfl | rfl | rfl <;> first | (simp [D.ids, D.sid, Q0, QS, ZL] at hk; done) | (simp [D.ids, D.sid, Q0, QS, ZL] at hk; subst hk; repeat (first | exact QQ | exact Zd hg | exact Zd hu | refine QN ?_))))
 ·exact ⟨by simp only [List.length_nil]; omega, by simp⟩
 intro ⟨k, ns, J⟩ hI
 try dsimp only at hI
 try dsimp only
 refine XM ?_ -- 1
 refine Q2 fun K hK => Qb Z (QdH Z Z (hK _ _ (QL (kp5 Z Z Z Z Z) ?_)))
 refine YY Z (fun h1 => ?_) (fun h1 => ?_)
 ·try rw [h1]
  try simp only [qA] at h1
  refine Xe (Q1 (kp4 Z Z Z Z) ?_)
  refine XM ?_ -- 2
  refine Yz (Q2 fun K hK => Qb Z (Qb Z ?_))
  obtain ⟨x1, J1, hx1, hc1⟩ := QjU (I := J) (H := (kg, gB L (J) eg) :: H) Qt hU.cons (hC.pr rfl) hL h2n hn
  refine Ya (hc1 _ _ rfl (YR (B := [_, _]) hB (by repeat (first | exact Qt | refine Qj (by first | decide | omega) ?_)) (by intro p hp h; simp only [List.mem_cons, List.not_mem_nil, or_false] at hp; rcases hp with rfl | rfl <;> first | rfl | (simp only at h; omega)))) ?_
  refine QP Z (by repeat (first | exact hB.none (by decide) | refine Zk (by first | decide | omega) ?_)) ?_
  refine Qb Z (hK _ _ (QL (kp5 Z Z Z Z Z) ?_))
  refine QoL (ι := List WantT × Int) (fun ⟨r, J4⟩ => ⟨[(0, .ref kg 0 0), (1, .osl ku us.length), (7, .osl 7 ns.length), (8, .int .i64 k), (9, Q0 r)], [(7, ⟨(ns).map (fun r => [Q0 r]), 1, 51, true⟩), (kg, gB L J4 eg)] ++ H⟩) (fun ⟨r, J4⟩ => Qht us.length r) ?_ ?_
  ·skip
   refine Q2 fun K hK => Qb Z (Ya (QaD (I := J1) Z (Qj (by omega) Qt) hL (by omega)) (Yd Z Z (hK _ _ (QL (kp6 Z Z Z Z Z Z) ?_))))
   refine YY Z (fun h2 => ?_) (fun h2 => ?_)
   ·try rw [h2]
    try simp only [qA] at h2
    refine ZR fun K hK => Qb Z (Qb Z (Qb Z ?_))
    obtain ⟨x2, J2, hx2, hc2⟩ := QjU (I := nxI J1) (H := (kg, gB L (nxI J1) eg) :: H) Qt hU.cons (hC.pr rfl) hL h2n hn
    refine Ya (hc2 _ _ rfl (YR (B := [_, _, _, _, _]) hB (by repeat (first | exact Qt | refine Qj (by first | decide | omega) ?_)) (by intro p hp h; simp only [List.mem_cons, List.not_mem_nil, or_false] at hp; rcases hp with rfl | rfl | rfl | rfl | rfl <;> first | rfl | (simp only at h; omega)))) ?_
    refine QP Z (by repeat (first | exact hB.none (by decide) | refine Zk (by first | decide | omega) ?_)) ?_
    refine Qnq Z Z (by simp [D.ids, D.sid]) ⟨_, rfl, rfl, rfl, rfl, rfl⟩ (by repeat (first | exact hB.none (by decide) | refine Zk (by first | decide | omega) ?_)) (Qj (by decide) (Qj (by omega) (Qj (by omega) Z))) Z Z Z (by simp) (by simp) ?_
    refine Qb Z (hK _ ?_)
    refine XB ([x1, x2], J2) ?_ ?_
    ·exact le_trans (QiP (l := [0, 1, 7, 8]) (B := [_, _, _, _, _, _, _, _, _]) (A := [(7, ⟨(ns).map (fun r => [Q0 r]), 1, 51, true⟩), (kg, gB L J2 eg)]) 30 9 (kp4 rfl rfl rfl rfl) rfl rfl rfl (by first | (simp; done) | (simp; omega)) (by intro p hp hk; simp only [List.mem_cons, List.not_mem_nil, or_false] at hp; rcases hp with rfl | rfl | rfl | rfl <;> first | (simp [D.ids, D.sid, Q0, QS, ZL] at hk; done) | (simp [D.ids, D.sid, Q0, QS, ZL] at hk; omega)) (by intro p hp; simp only [List.mem_cons, List.not_mem_nil, or_false] at hp; rcases hp with rfl | rfl <;> exact ⟨by first | decide | (simp only; omega), by repeat (first | exact Qt | refine Qj (by first | decide | omega) ?_), rfl⟩) (by intro p hp h; simp only [List.mem_cons, List.not_mem_nil, or_false] at hp; rcases hp with rfl | rfl | rfl | rfl | rfl | rfl | rfl | rfl | rfl <;> first | (simp only at h; omega) | (repeat (first | exact QQ | refine QN ?_))) hB hC (by intro p hp k hk; simp only [List.mem_cons, List.not_mem_nil, or_false] at hp; rcases hp with rfl | rfl | rfl | rfl <;> first | (simp [D.ids, D.sid, Q0, QS, ZL] at hk; done) | (simp [D.ids, D.sid, Q0, QS, ZL] at hk; subst hk; repeat (first | exact QQ | exact Zd hg | exact Zd hu | refine QN ?_)))) (QcF (l := [0, 1, 7, 8, 9]) (B := [_, _]) (kp5 rfl rfl rfl rfl rfl) rfl (by intro p hp; simp only [List.mem_cons, List.not_mem_nil, or_false] at hp; rcases hp with rfl | rfl <;> exact ⟨by repeat (first | exact Qt | refine Qj (by first | decide | omega) ?_), rfl⟩) rfl (by intro p hp h; simp only [List.mem_cons, List.not_mem_nil, or_false] at hp; rcases hp with rfl | rfl <;> first | (simp only at h; omega) | (repeat (first | exact QQ | refine QN ?_))) hB hC (by intro p hp k hk; simp only [List.mem_cons, List.not_mem_nil, or_false] at hp; rcases hp with rfl | rfl | rfl | rfl | rfl <;> first | (simp [D.ids, D.sid, Q0, QS, ZL] at hk; done) | (simp [D.ids, D.sid, Q0, QS, ZL] at hk; subst hk; repeat (first | exact QQ | exact Zd hg | exact Zd hu | refine QN ?_))))
    ·exact Qn8 hx1 hx2
   ·try rw [h2]
    try simp only [qA] at h2
    refine Xe ?_
    refine XB ([x1], nxI J1) ?_ ?_
    ·exact le_trans (QiP (l := [0, 1, 7, 8]) (B := [_, _, _, _, _]) (A := [(7, ⟨(ns).map (fun r => [Q0 r]), 1, 51, true⟩), (kg, gB L (nxI J1) eg)]) 21 9 (kp4 rfl rfl rfl rfl) rfl (Qj (by omega) rfl) rfl (by first | (simp; done) | (simp; omega)) (by intro p hp hk; simp only [List.mem_cons, List.not_mem_nil, or_false] at hp; rcases hp with rfl | rfl | rfl | rfl <;> first | (simp [D.ids, D.sid, Q0, QS, ZL] at hk; done) | (simp [D.ids, D.sid, Q0, QS, ZL] at hk; omega)) (by intro p hp; simp only [List.mem_cons, List.not_mem_nil, or_false] at hp; rcases hp with rfl | rfl <;> exact ⟨by first | decide | (simp only; omega), by repeat (first | exact Qt | refine Qj (by first | decide | omega) ?_), rfl⟩) (by intro p hp h; simp only [List.mem_cons, List.not_mem_nil, or_false] at hp; rcases hp with rfl | rfl | rfl | rfl | rfl <;> first | (simp only at h; omega) | (repeat (first | exact QQ | refine QN ?_))) hB hC (by intro p hp k hk; simp only [List.mem_cons, List.not_mem_nil, or_false] at hp; rcases hp with rfl | rfl | rfl | rfl <;> first | (simp [D.ids, D.sid, Q0, QS, ZL] at hk; done) | (simp [D.ids, D.sid, Q0, QS, ZL] at hk; subst hk; repeat (first | exact QQ | exact Zd hg | exact Zd hu | refine QN ?_)))) (QcF (l := [0, 1, 7, 8, 9]) (B := [_, _]) (kp5 rfl rfl rfl rfl rfl) rfl (by intro p hp; simp only [List.mem_cons, List.not_mem_nil, or_false] at hp; rcases hp with rfl | rfl <;> exact ⟨by repeat (first | exact Qt | refine Qj (by first | decide | omega) ?_), rfl⟩) rfl (by intro p hp h; simp only [List.mem_cons, List.not_mem_nil, or_false] at hp; rcases hp with rfl | rfl <;> first | (simp only at h; omega) | (repeat (first | exact QQ | refine QN ?_))) hB hC (by intro p hp k hk; simp only [List.mem_cons, List.not_mem_nil, or_false] at hp; rcases hp with rfl | rfl | rfl | rfl | rfl <;> first | (simp [D.ids, D.sid, Q0, QS, ZL] at hk; done) | (simp [D.ids, D.sid, Q0, QS, ZL] at hk; subst hk; repeat (first | exact QQ | exact Zd hg | exact Zd hu | refine QN ?_))))
    ·exact Qn7 hx1
  intro ⟨r, J4⟩ hJ
  try dsimp only at hJ
  try dsimp only
  refine ZR fun K hK => Qb Z (Qb Z ?_)
  refine QP Z (by repeat (first | exact hB.none (by decide) | refine Zk (by first | decide | omega) ?_)) ?_
  refine Qcz Z Z (fun _ h => Qb6 Z Z Z h) Z (by simp) Z Z Z (by simp; omega) (by simp; omega) (Qb Z (hK _ ?_))
  refine Ql (Q1 (kp4 Z Z Z Z) (ZR fun K hK => Qb Z (Qc1 Z Z (by first | exact Qu (by omega) (by omega) | rfl) (Qb Z (hK _ ?_)))))
  refine Qo (k - 1, ns ++ [r], J4) ?_ ?_ ?_
  ·exact le_trans (Qo4 (B := [_, _, _, _]) 7 hB hC) (QcF (l := [0, 1, 7, 8]) (A := [(7, ⟨ns.map (fun r => [Q0 r]) ++ [[Q0 r]], 1, 51, true⟩), (kg, gB L J4 eg)]) (B := [_, _, _, _]) (kp4 rfl rfl rfl rfl) (by simp [D.scrub, show ¬ kg = 7 by omega, show ¬ ku = 7 by omega] <;> omega) (by intro p hp; simp only [List.mem_cons, List.not_mem_nil, or_false] at hp; rcases hp with rfl | rfl <;> exact ⟨by repeat (first | exact Qt | refine Qj (by first | decide | omega) ?_), rfl⟩) (by simp) (by intro p hp h; simp only [List.mem_cons, List.not_mem_nil, or_false] at hp; rcases hp with rfl | rfl | rfl | rfl <;> first | (simp only at h; omega) | (repeat (first | exact QQ | refine QN ?_))) hB hC (by intro p hp k hk; simp only [List.mem_cons, List.not_mem_nil, or_false] at hp; rcases hp with rfl | rfl | rfl | rfl <;> first | (simp [D.ids, D.sid, Q0, QS, ZL] at hk; done) | (simp [D.ids, D.sid, Q0, QS, ZL] at hk; subst hk; repeat (first | exact QQ | exact Zd hg | exact Zd hu | refine QN ?_))))
  ·exact ⟨by simp only [List.length_append, List.length_singleton]; omega, QlE hI.2 hJ⟩
  ·show k - 1 < k; omega
 ·try rw [h1]
  try simp only [qA] at h1
  refine Qc2 (Xw (QD (QK (Q1 (kp1 Z) (Q2 fun K hK => Qb Z (Qb Z (hK _ _ (QL (kp1 Z) ?_))))))))
  refine QdJ ?_
  refine ⟨QS ns, (kg, gB L J eg) :: H, ⟨ns, _, ⟨by omega, hI.2⟩, rfl, rfl⟩, (Z6 hB hC hkg rfl).1, (Z6 hB hC hkg rfl).2, ?_⟩
  refine Qam Z (by simp [QlS, D.fz, D.fzS, QfS, lk, D.can, D.canS, QS]) ?_
  exact YR (B := [_, _]) hB (by repeat (first | exact Qt | refine Qj (by first | decide | omega) ?_)) (by intro p hp h; simp only [List.mem_cons, List.not_mem_nil, or_false] at hp; rcases hp with rfl | rfl <;> first | rfl | (simp only at h; omega))
end Go.Proofs
