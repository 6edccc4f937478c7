/- Part 4 of the means of the proof: a verified abstract evaluator, the prepared functions, and contracts of functions. It states nothing of the claim by itself. -/
import Derived.Test.YtaclbcdfaokmjaaDoorB3
set_option maxRecDepth 4000
set_option linter.unusedSimpArgs false
set_option linter.unusedVariables false
namespace Go.Proofs
open Go Go.Abs M3
set_option linter.unusedVariables false
set_option linter.unusedSimpArgs false
theorem Qau {s : List UInt8} (hl : s.length <= 1000000) : Ok Tryd.prog 96 [.str s] (.tup [.int .i64 (Z9 s).1, .bool (Z9 s).2]) := by
 refine Ok.ofT Z5 Tryd.func96 Qro (Nat.le_of_ble_eq_true Z) ?_
 show TW _ _ tf96.body _ _
 refine Qe fun K hK => Qb Z (Qb Z (hK _ _ (Qa (kp1 Z) ?_)))
 refine Qkn (ι := Unit) (fun _u => ⟨[(0, .str s)], []⟩) (fun _u => ¬ (s = [] \/ 4 < s.length \/ (1 < s.length /\ s.head? = some 48))) ?_ ?_
 ·skip
  refine Qe fun K hK => Qb Z (Qb7 Z Z (Qb Z ?_))
  refine Qw (g := 9) Z (fun h1 => ?_) (fun h1 => ?_)
  ·try rw [h1]
   try simp only [qB, Bool.and_eq_true, Bool.and_eq_false_iff, decide_eq_true_eq] at h1
   refine Qr Z (Qr Z (Qr Z (Qi Z Z (Qb Z (Qr Z (Qr Z (Qr Z (Qr Z (QG Z (QG Z (QG Z ?_)))))))))))
   refine Qr Z (Qi Z Z (hK _ _ (Qa (kp2 Z Z) ?_)))
   refine Zl Z (Qe fun K hK => Qb Z (Qb Z (hK _ _ (Qa (kp2 Z Z) ?_))))
   refine Qq (QbY (ZN Z Z ?_))
   first | (rw [Qaq (s := s) (by first | (left; assumption) | (right; omega))]; exact ⟨rfl, rfl⟩) | (rw [Yw (s := s) (by omega) (by assumption)]; exact ⟨rfl, rfl⟩) | (rw [Xl (s := s) (i := i) (by omega) (by simp [Yj]; omega)]; exact ⟨rfl, rfl⟩) | (rw [QbK (s := s) (i := i) hJ (by omega) hI.2.1]; exact ⟨rfl, by simp [Qas, D.fz, D.fzS, D.can, D.canS]; omega⟩)
  ·try rw [h1]
   try simp only [qB, Bool.and_eq_true, Bool.and_eq_false_iff, decide_eq_true_eq] at h1
   refine Qg Z (Qb Z (Qg Z (Yk Z (Qg Z (Qdx Z Z (Qi Z Z (Qb Z ?_)))))))
   refine Qw (g := 14) Z (fun h2 => ?_) (fun h2 => ?_)
   ·try rw [h2]
    try simp only [qB, Bool.and_eq_true, Bool.and_eq_false_iff, decide_eq_true_eq] at h2
    refine Qr Z (Qr Z (Qr Z (Qr Z (QG Z (QG Z (QG Z (Qr Z (Qi Z Z (hK _ _ (Qa (kp2 Z Z) ?_))))))))))
    refine Zl Z (Qe fun K hK => Qb Z (Qb Z (hK _ _ (Qa (kp2 Z Z) ?_))))
    refine Qq (QbY (ZN Z Z ?_))
    first | (rw [Qaq (s := s) (by first | (left; assumption) | (right; omega))]; exact ⟨rfl, rfl⟩) | (rw [Yw (s := s) (by omega) (by assumption)]; exact ⟨rfl, rfl⟩) | (rw [Xl (s := s) (i := i) (by omega) (by simp [Yj]; omega)]; exact ⟨rfl, rfl⟩) | (rw [QbK (s := s) (i := i) hJ (by omega) hI.2.1]; exact ⟨rfl, by simp [Qas, D.fz, D.fzS, D.can, D.canS]; omega⟩)
   ·try rw [h2]
    try simp only [qB, Bool.and_eq_true, Bool.and_eq_false_iff, decide_eq_true_eq] at h2
    refine Qg Z (Qb Z (Qg Z (Ye Z Z (by omega) (Qby (i := 0) (List.length_pos_iff.2 (by assumption))) (Qg Z (Yy Z Z (Qg Z (Qb Z ?_)))))))
    refine Qw (g := 18) Z (fun h3 => ?_) (fun h3 => ?_)
    ·try rw [h3]
     try simp only [qB, Bool.and_eq_true, Bool.and_eq_false_iff, decide_eq_true_eq] at h3
     refine Qg Z (Qb Z (Qg Z (Yk Z (Qg Z (Qdx Z Z (Qg Z (Qi Z Z (Qi Z Z (hK _ _ (Qa (kp2 Z Z) ?_))))))))))
     refine QB Z (fun h4 => ?_) (fun h4 => ?_)
     ·try rw [h4]
      try simp only [qB, Bool.and_eq_true, Bool.and_eq_false_iff, decide_eq_true_eq] at h4
      refine Qe fun K hK => Qb Z (Qb Z (hK _ _ (Qa (kp2 Z Z) ?_)))
      refine Qq (QbY (ZN Z Z ?_))
      first | (rw [Qaq (s := s) (by first | (left; assumption) | (right; omega))]; exact ⟨rfl, rfl⟩) | (rw [Yw (s := s) (by omega) (by assumption)]; exact ⟨rfl, rfl⟩) | (rw [Xl (s := s) (i := i) (by omega) (by simp [Yj]; omega)]; exact ⟨rfl, rfl⟩) | (rw [QbK (s := s) (i := i) hJ (by omega) hI.2.1]; exact ⟨rfl, by simp [Qas, D.fz, D.fzS, D.can, D.canS]; omega⟩)
     ·try rw [h4]
      try simp only [qB, Bool.and_eq_true, Bool.and_eq_false_iff, decide_eq_true_eq] at h4
      refine Qx ?_
      refine Xr () ?_ ?_
      ·exact Q6 (kp1 rfl)
      ·rintro (q | q | q) <;> first | (simp_all; done) | omega | exact Qgz (s := s) (by omega) (by assumption) q.2
    ·try rw [h3]
     try simp only [qB, Bool.and_eq_true, Bool.and_eq_false_iff, decide_eq_true_eq] at h3
     refine Qr Z (Qr Z (Qr Z (Qg Z (Qi Z Z (Qi Z Z (hK _ _ (Qa (kp2 Z Z) ?_)))))))
     refine ZF Z (Qx ?_)
     refine Xr () ?_ ?_
     ·exact Q6 (kp1 rfl)
     ·rintro (q | q | q) <;> first | (simp_all; done) | omega | exact Qgz (s := s) (by omega) (by assumption) q.2
 intro _u hJ
 try dsimp only
 refine Qe fun K hK => Qb Z (hK _ _ (Qa (kp2 Z Z) ?_))
 refine QH ?_ -- 1
 refine Qe fun K hK => Qb Z (Qkl Z Z (hK _ _ (Qa (kp2 Z Z) ?_)))
 refine QM ?_
 refine Ya (ι := Nat) (fun i => ⟨[(4, .int .i64 (val (s.take i))), (25, .ref 25 0 0)], [(25, ⟨[], 0, Zn s i, false⟩)]⟩) (fun i => i <= s.length /\ (s.take i).all Yj = true /\ s.length <= 4 /\ 0 < s.length) (fun i => s.length - i) 0 ?_ ?_ ?_
 ·exact ZC (l := [4, 25]) (lH := [25]) (kp2 rfl rfl) (Qz rfl QC) (by simp [val]) rfl rfl
 ·exact ⟨Nat.zero_le _, rfl, Nat.le_of_not_lt fun h => hJ (.inr (.inl h)), List.length_pos_iff.2 fun h => hJ (.inl h)⟩
 intro i hI
 have hv := QlH (s := s.take i) hI.2.1
 have hp : 10 ^ (s.take i).length <= 10 ^ 4 := Nat.pow_le_pow_right (by omega) (by simp; omega)
 have hI1 := hI.1
 have hI3 := hI.2.2.1
 try dsimp only
 refine Qe fun K hK => ?_
 rcases Nat.lt_or_ge (i) (s).length with h5 | h5
 ·rcases Nat.lt_or_ge (((s)[i]).toNat) 128 with h6 | h6
  ·refine Qi3 Z Z h5 (Qht h5 h6) (Zc Z Z (hK _ _ (Qa (kp4 Z Z Z Z) ?_)))
   refine QH ?_ -- 2
   refine Zl Z (Qx (Qf (kp3 Z Z Z) (QM (Qe fun K hK => Zc Z Z (Qb Z (hK _ _ (Qa (kp3 Z Z Z) ?_)))))))
   refine QM (Qe fun K hK => Qb Z (Qi2 Z Z (Qb Z ?_)))
   refine Qw (g := 32) Z (fun h7 => ?_) (fun h7 => ?_)
   ·try rw [h7]
    try simp only [qB, Bool.and_eq_true, Bool.and_eq_false_iff, decide_eq_true_eq] at h7
    refine Qg Z (Qb Z (Qg Z (QlT Z Z (Qi Z Z (Qb Z (hK _ _ (Qa (kp4 Z Z Z Z) ?_)))))))
    refine QB Z (fun h8 => ?_) (fun h8 => ?_)
    ·try rw [h8]
     try simp only [qB, Bool.and_eq_true, Bool.and_eq_false_iff, decide_eq_true_eq] at h8
     refine Zf fun K hK => Qb Z (QlU Z Z (by first | exact Qt (by omega) (by omega) | exact QW (by omega) (by omega) | exact Za (by omega) (by omega) | rfl) (Qb Z (QcP Z Z (by first | exact Qt (by omega) (by omega) | exact QW (by omega) (by omega) | exact Za (by omega) (by omega) | rfl) (Qha Z (by first | exact Qt (by omega) (by omega) | exact QW (by omega) (by omega) | exact Za (by omega) (by omega) | rfl) (Zk Z Z (by first | exact Qt (by omega) (by omega) | exact QW (by omega) (by omega) | exact Za (by omega) (by omega) | rfl) (Qb Z (hK _ ?_)))))))
     refine Ql (Ql ?_)
     refine Qp (i + 1) ?_ ?_ ?_
     ·first | exact ZC (l := [4, 25]) (lH := [25]) (kp2 rfl rfl) (Qz rfl QC) rfl rfl rfl | exact ZC (l := [4, 25]) (lH := [25]) (kp2 rfl rfl) (Qz rfl QC) (by rw [Qer (by omega)]; simp; omega) rfl rfl | (exfalso; omega)
     ·first | exact ⟨by omega, Zb (by omega) hI.2.1 (by simp [Yj]; omega), hI.2.2⟩ | (exfalso; omega)
     ·first | omega | (simp only; omega) | (dsimp only; omega)
    ·try rw [h8]
     try simp only [qB, Bool.and_eq_true, Bool.and_eq_false_iff, decide_eq_true_eq] at h8
     refine Qe fun K hK => Qb Z (Qb Z (hK _ _ (Qa (kp2 Z Z) ?_)))
     refine Qq (Qu (Qu (Q7 (Qu (Qj (ZN Z Z ?_))))))
     first | (rw [Qaq (s := s) (by first | (left; assumption) | (right; omega))]; exact ⟨rfl, rfl⟩) | (rw [Yw (s := s) (by omega) (by assumption)]; exact ⟨rfl, rfl⟩) | (rw [Xl (s := s) (i := i) (by omega) (by simp [Yj]; omega)]; exact ⟨rfl, rfl⟩) | (rw [QbK (s := s) (i := i) hJ (by omega) hI.2.1]; exact ⟨rfl, by simp [Qas, D.fz, D.fzS, D.can, D.canS]; omega⟩)
   ·try rw [h7]
    try simp only [qB, Bool.and_eq_true, Bool.and_eq_false_iff, decide_eq_true_eq] at h7
    refine Qr Z (Qr Z (Qi Z Z (Qb Z (hK _ _ (Qa (kp4 Z Z Z Z) ?_)))))
    refine ZF Z (Qe fun K hK => Qb Z (Qb Z (hK _ _ (Qa (kp2 Z Z) ?_))))
    refine Qq (Qu (Qu (Q7 (Qu (Qj (ZN Z Z ?_))))))
    first | (rw [Qaq (s := s) (by first | (left; assumption) | (right; omega))]; exact ⟨rfl, rfl⟩) | (rw [Yw (s := s) (by omega) (by assumption)]; exact ⟨rfl, rfl⟩) | (rw [Xl (s := s) (i := i) (by omega) (by simp [Yj]; omega)]; exact ⟨rfl, rfl⟩) | (rw [QbK (s := s) (i := i) hJ (by omega) hI.2.1]; exact ⟨rfl, by simp [Qas, D.fz, D.fzS, D.can, D.canS]; omega⟩)
  ·obtain ⟨cwh6, nwh6, hch6, hdh6⟩ := Qi7 h5 h6
   refine Qi3 Z Z h5 hdh6 (Zc Z Z (hK _ _ (Qa (kp4 Z Z Z Z) ?_)))
   refine QH ?_ -- 2
   refine Zl Z (Qx (Qf (kp3 Z Z Z) (QM (Qe fun K hK => Zc Z Z (Qb Z (hK _ _ (Qa (kp3 Z Z Z) ?_)))))))
   refine QM (Qe fun K hK => Qb Z (Qi2 Z Z (Qb Z ?_)))
   refine Qw (g := 32) Z (fun h9 => ?_) (fun h9 => ?_)
   ·try rw [h9]
    try simp only [qB, Bool.and_eq_true, Bool.and_eq_false_iff, decide_eq_true_eq] at h9
    refine Qg Z (Qb Z (Qg Z (QlT Z Z (Qi Z Z (Qb Z (hK _ _ (Qa (kp4 Z Z Z Z) ?_)))))))
    refine QB Z (fun h10 => ?_) (fun h10 => ?_)
    ·try rw [h10]
     try simp only [qB, Bool.and_eq_true, Bool.and_eq_false_iff, decide_eq_true_eq] at h10
     refine Zf fun K hK => Qb Z (QlU Z Z (by first | exact Qt (by omega) (by omega) | exact QW (by omega) (by omega) | exact Za (by omega) (by omega) | rfl) (Qb Z (QcP Z Z (by first | exact Qt (by omega) (by omega) | exact QW (by omega) (by omega) | exact Za (by omega) (by omega) | rfl) (Qha Z (by first | exact Qt (by omega) (by omega) | exact QW (by omega) (by omega) | exact Za (by omega) (by omega) | rfl) (Zk Z Z (by first | exact Qt (by omega) (by omega) | exact QW (by omega) (by omega) | exact Za (by omega) (by omega) | rfl) (Qb Z (hK _ ?_)))))))
     refine Ql (Ql ?_)
     refine Qp (i + 1) ?_ ?_ ?_
     ·first | exact ZC (l := [4, 25]) (lH := [25]) (kp2 rfl rfl) (Qz rfl QC) rfl rfl rfl | exact ZC (l := [4, 25]) (lH := [25]) (kp2 rfl rfl) (Qz rfl QC) (by rw [Qer (by omega)]; simp; omega) rfl rfl | (exfalso; omega)
     ·first | exact ⟨by omega, Zb (by omega) hI.2.1 (by simp [Yj]; omega), hI.2.2⟩ | (exfalso; omega)
     ·first | omega | (simp only; omega) | (dsimp only; omega)
    ·try rw [h10]
     try simp only [qB, Bool.and_eq_true, Bool.and_eq_false_iff, decide_eq_true_eq] at h10
     refine Qe fun K hK => Qb Z (Qb Z (hK _ _ (Qa (kp2 Z Z) ?_)))
     refine Qq (Qu (Qu (Q7 (Qu (Qj (ZN Z Z ?_))))))
     first | (rw [Qaq (s := s) (by first | (left; assumption) | (right; omega))]; exact ⟨rfl, rfl⟩) | (rw [Yw (s := s) (by omega) (by assumption)]; exact ⟨rfl, rfl⟩) | (rw [Xl (s := s) (i := i) (by omega) (by simp [Yj]; omega)]; exact ⟨rfl, rfl⟩) | (rw [QbK (s := s) (i := i) hJ (by omega) hI.2.1]; exact ⟨rfl, by simp [Qas, D.fz, D.fzS, D.can, D.canS]; omega⟩)
   ·try rw [h9]
    try simp only [qB, Bool.and_eq_true, Bool.and_eq_false_iff, decide_eq_true_eq] at h9
    refine Qr Z (Qr Z (Qi Z Z (Qb Z (hK _ _ (Qa (kp4 Z Z Z Z) ?_)))))
    refine ZF Z (Qe fun K hK => Qb Z (Qb Z (hK _ _ (Qa (kp2 Z Z) ?_))))
    refine Qq (Qu (Qu (Q7 (Qu (Qj (ZN Z Z ?_))))))
    first | (rw [Qaq (s := s) (by first | (left; assumption) | (right; omega))]; exact ⟨rfl, rfl⟩) | (rw [Yw (s := s) (by omega) (by assumption)]; exact ⟨rfl, rfl⟩) | (rw [Xl (s := s) (i := i) (by omega) (by simp [Yj]; omega)]; exact ⟨rfl, rfl⟩) | (rw [QbK (s := s) (i := i) hJ (by omega) hI.2.1]; exact ⟨rfl, by simp [Qas, D.fz, D.fzS, D.can, D.canS]; omega⟩)
 ·refine Qhc Z Z (by omega) (Zc Z Z (hK _ _ (Qa (kp4 Z Z Z Z) ?_)))
  refine QH ?_ -- 2
  refine ZF Z (ZG (QR (QD (QJ (Qf (kp1 Z) (Qe fun K hK => Qb Z (Qb Z (QlT Z Z (Qb Z (Qb Z ?_))))))))))
  refine hK _ _ (Qa (kp2 Z Z) ?_)
  refine Qq (ZN Z Z ?_)
  first | (rw [Qaq (s := s) (by first | (left; assumption) | (right; omega))]; exact ⟨rfl, rfl⟩) | (rw [Yw (s := s) (by omega) (by assumption)]; exact ⟨rfl, rfl⟩) | (rw [Xl (s := s) (i := i) (by omega) (by simp [Yj]; omega)]; exact ⟨rfl, rfl⟩) | (rw [QbK (s := s) (i := i) hJ (by omega) hI.2.1]; exact ⟨rfl, by simp [Qas, D.fz, D.fzS, D.can, D.canS]; omega⟩)
theorem Qaw {s : List UInt8} (hl : s.length <= 1000000) : Ok Tryd.prog 81 [.str s] (.bool (Qcr s)) := by
 refine Ok.ofT Z5 Tryd.func81 Qra (Nat.le_of_ble_eq_true Z) ?_
 show TW _ _ tf81.body _ _
 refine Qe fun K hK => Qb Z (hK _ _ (Qa (kp1 Z) ?_))
 refine Qnq (Qe fun K hK => Qb Z (Qy (XQ (by omega)) Z Z (.inl Z) (Qb Z (hK _ _ (Qa (kp1 Z) ?_)))))
 refine Qe fun K hK => Qb Z (ZJ Z Z (QlT Z Z (Qb Z (hK _ _ (Qa (kp2 Z Z) ?_)))))
 refine QH ?_ -- 0
 refine Qx (Qf (kp2 Z Z) ?_)
 refine QH ?_ -- 1
 refine Qe fun K hK => Qb Z (ZJ Z Z (Qb Z (hK _ _ (Qa (kp4 Z Z Z Z) ?_))))
 refine QM ?_
 refine Ya (ι := Nat) (fun i => ⟨[(4, .bool (decide ((QZ s 46).length <= 4))), (14, .sl (YH (QZ s 46))), (15, .int .i64 (QZ s 46).length), (16, .int .i64 i)], []⟩) (fun i => i <= (QZ s 46).length /\ ((QZ s 46).take i).all Qbm = true) (fun i => (QZ s 46).length - i) 0 ?_ ?_ ?_
 ·exact ZC (l := [4, 14, 15, 16]) (kp4 rfl rfl rfl rfl) QC (by simp [Qo]; omega) rfl rfl
 ·exact ⟨Nat.zero_le _, rfl⟩
 intro i hI
 have sl := Qdu (s := s) (c := 46)
 try dsimp only
 refine Qe fun K hK => Y0 Z Z (hK _ _ (Qa (kp5 Z Z Z Z Z) ?_))
 refine QH ?_ -- 2
 refine QB Z (fun h1 => ?_) (fun h1 => ?_)
 ·try rw [h1]
  try simp only [qB, Qo] at h1
  refine Qx (Qf (kp4 Z Z Z Z) ?_)
  refine QH ?_ -- 3
  refine QM (Qe fun K hK => Q2 Z Z Z (by omega) (XT (by omega)) Z (QE Z Z Z (Qb Z (hK _ _ (Qa (kp5 Z Z Z Z Z) ?_)))))
  refine QH ?_ -- 4
  refine Qe fun K hK => Qb Z (Qb7 Z Z (Qb Z ?_))
  refine Qw (g := 22) Z (fun h2 => ?_) (fun h2 => ?_)
  ·try rw [h2]
   try simp only [qB, Qo] at h2
   refine Qr Z (Qr Z (Qr Z (Qi Z Z (hK _ _ (Qa (kp6 Z Z Z Z Z Z) ?_)))))
   refine Zl Z (Qe fun K hK => Qb Z (hK _ _ (Qa (kp1 Z) ?_)))
   refine ZG (QR (Q9 (by decide) (QR (QD (QJ (Qf (kp1 Z) (Qe fun K hK => Qb Z (Qb Z (hK _ _ (Qa (kp1 Z) ?_))))))))))
   refine Qq (Qn Z ?_)
   first | exact (ZL (i := i) (by omega) (Xk (by first | (left; assumption) | (right; omega)))).symm | exact (ZL (i := i) (by omega) (Xj (Yf (i := j) (by omega) (by simp [ZK]; omega)))).symm | exact (YF (by omega) hI.2).symm
  ·try rw [h2]
   try simp only [qB, Qo] at h2
   refine Qg Z (Qb Z (Qg Z (Yk Z (Qg Z (Qdx Z Z (Qi Z Z (hK _ _ (Qa (kp6 Z Z Z Z Z Z) ?_))))))))
   refine QB Z (fun h3 => ?_) (fun h3 => ?_)
   ·try rw [h3]
    try simp only [qB, Qo] at h3
    refine Qe fun K hK => Qb Z (hK _ _ (Qa (kp1 Z) ?_))
    refine ZG (QR (Q9 (by decide) (QR (QD (QJ (Qf (kp1 Z) (Qe fun K hK => Qb Z (Qb Z (hK _ _ (Qa (kp1 Z) ?_))))))))))
    refine Qq (Qn Z ?_)
    first | exact (ZL (i := i) (by omega) (Xk (by first | (left; assumption) | (right; omega)))).symm | exact (ZL (i := i) (by omega) (Xj (Yf (i := j) (by omega) (by simp [ZK]; omega)))).symm | exact (YF (by omega) hI.2).symm
   ·try rw [h3]
    try simp only [qB, Qo] at h3
    refine Qx (Qf (kp5 Z Z Z Z Z) (Qe fun K hK => Qb Z (Qkl Z Z (hK _ _ (Qa (kp5 Z Z Z Z Z) ?_)))))
    refine QM ?_
    have hlt : i < (QZ s 46).length := by omega
    refine Ya (ι := Nat) (fun j => ⟨[(4, .bool (decide ((QZ s 46).length <= 4))), (14, .sl (YH (QZ s 46))), (15, .int .i64 (QZ s 46).length), (16, .int .i64 i), (28, .ref 28 0 0)], [(28, ⟨[], 0, Zn ((QZ s 46)[i]'hlt) j, false⟩)]⟩) (fun j => j <= ((QZ s 46)[i]'hlt).length /\ (((QZ s 46)[i]'hlt).take j).all ZK = true) (fun j => ((QZ s 46)[i]'hlt).length - j) 0 ?_ ?_ ?_
    ·first | exact ZC (l := [4, 14, 15, 16, 28]) (lH := [28]) (kp5 rfl rfl rfl rfl rfl) (Qz rfl QC) rfl rfl rfl | (exfalso; omega)
    ·exact ⟨Nat.zero_le _, rfl⟩
    intro j hJ
    have hJ1 := hJ.1
    try dsimp only
    refine Qe fun K hK => ?_
    rcases Nat.lt_or_ge (j) (((QZ s 46)[i]'hlt)).length with h4 | h4
    ·rcases Nat.lt_or_ge (((((QZ s 46)[i]'hlt))[j]).toNat) 128 with h5 | h5
     ·refine Qi3 Z Z h4 (Qht h4 h5) (Zc Z Z (hK _ _ (Qa (kp7 Z Z Z Z Z Z Z) ?_)))
      refine QH ?_ -- 5
      refine Zl Z (Qx (Qf (kp6 Z Z Z Z Z Z) (QM (Qe fun K hK => Zc Z Z (Qb Z (hK _ _ (Qa (kp6 Z Z Z Z Z Z) ?_)))))))
      refine Qe fun K hK => Qb Z (Y0 Z Z (Qb Z ?_))
      refine Qw (g := 34) Z (fun h6 => ?_) (fun h6 => ?_)
      ·try rw [h6]
       try simp only [qB, Qo] at h6
       refine Qr Z (Qr Z (Qi Z Z (Qb Z (Qg Z (Qb Z (Qg Z (Y0 Z Z (Qg Z (Qb Z ?_)))))))))
       refine Qw (g := 41) Z (fun h7 => ?_) (fun h7 => ?_)
       ·try rw [h7]
        try simp only [qB, Qo] at h7
        refine Qr Z (Qr Z (Qg Z (Qi Z Z (Qi Z Z (Qb Z (Qg Z (Qb Z (Qg Z (YP Z Z (Qi Z Z (hK _ _ (Qa (kp6 Z Z Z Z Z Z) ?_))))))))))))
        refine QB Z (fun h8 => ?_) (fun h8 => ?_)
        ·try rw [h8]
         try simp only [qB, Qo] at h8
         refine Qe fun K hK => Qb Z (hK _ _ (Qa (kp1 Z) ?_))
         refine ZG (Q9 (by decide) (QD (Q9 (by decide) (Q9 (by decide) (QR (QD (QJ (Qf (kp1 Z) (Qe fun K hK => Qb Z (Qb Z ?_))))))))))
         refine hK _ _ (Qa (kp1 Z) ?_)
         refine Qq (Qn Z ?_)
         first | exact (ZL (i := i) (by omega) (Xk (by first | (left; assumption) | (right; omega)))).symm | exact (ZL (i := i) (by omega) (Xj (Yf (i := j) (by omega) (by simp [ZK]; omega)))).symm | exact (YF (by omega) hI.2).symm
        ·try rw [h8]
         try simp only [qB, Qo] at h8
         refine Qx (Ql ?_)
         refine Qp (j + 1) ?_ ?_ ?_
         ·first | exact ZC (l := [4, 14, 15, 16, 28]) (lH := [28]) (kp5 rfl rfl rfl rfl rfl) (Qz rfl QC) rfl rfl rfl | (exfalso; omega)
         ·first | exact ⟨by omega, Zb (by omega) hJ.2 (by simp [ZK]; omega)⟩ | (exfalso; omega)
         ·first | omega | (simp only; omega) | (dsimp only; omega)
       ·try rw [h7]
        try simp only [qB, Qo] at h7
        refine Qg Z (Qb Z (Qg Z (Qdx Z Z (Qg Z (Qi Z Z (Qi Z Z (Qb Z ?_)))))))
        refine Qw (g := 46) Z (fun h9 => ?_) (fun h9 => ?_)
        ·try rw [h9]
         try simp only [qB, Qo] at h9
         refine Qg Z (Qb Z (Qg Z (YP Z Z (Qi Z Z (hK _ _ (Qa (kp6 Z Z Z Z Z Z) ?_))))))
         refine QB Z (fun h10 => ?_) (fun h10 => ?_)
         ·try rw [h10]
          try simp only [qB, Qo] at h10
          refine Qe fun K hK => Qb Z (hK _ _ (Qa (kp1 Z) ?_))
          refine ZG (Q9 (by decide) (QD (Q9 (by decide) (Q9 (by decide) (QR (QD (QJ (Qf (kp1 Z) (Qe fun K hK => Qb Z (Qb Z ?_))))))))))
          refine hK _ _ (Qa (kp1 Z) ?_)
          refine Qq (Qn Z ?_)
          first | exact (ZL (i := i) (by omega) (Xk (by first | (left; assumption) | (right; omega)))).symm | exact (ZL (i := i) (by omega) (Xj (Yf (i := j) (by omega) (by simp [ZK]; omega)))).symm | exact (YF (by omega) hI.2).symm
         ·try rw [h10]
          try simp only [qB, Qo] at h10
          refine Qx (Ql ?_)
          refine Qp (j + 1) ?_ ?_ ?_
          ·first | exact ZC (l := [4, 14, 15, 16, 28]) (lH := [28]) (kp5 rfl rfl rfl rfl rfl) (Qz rfl QC) rfl rfl rfl | (exfalso; omega)
          ·first | exact ⟨by omega, Zb (by omega) hJ.2 (by simp [ZK]; omega)⟩ | (exfalso; omega)
          ·first | omega | (simp only; omega) | (dsimp only; omega)
        ·try rw [h9]
         try simp only [qB, Qo] at h9
         refine Qr Z (Qr Z (Qi Z Z (hK _ _ (Qa (kp6 Z Z Z Z Z Z) ?_))))
         refine ZF Z (Qx (Ql ?_))
         refine Qp (j + 1) ?_ ?_ ?_
         ·first | exact ZC (l := [4, 14, 15, 16, 28]) (lH := [28]) (kp5 rfl rfl rfl rfl rfl) (Qz rfl QC) rfl rfl rfl | (exfalso; omega)
         ·first | exact ⟨by omega, Zb (by omega) hJ.2 (by simp [ZK]; omega)⟩ | (exfalso; omega)
         ·first | omega | (simp only; omega) | (dsimp only; omega)
      ·try rw [h6]
       try simp only [qB, Qo] at h6
       refine Qg Z (Qb Z (Qg Z (Qdx Z Z (Qi Z Z (Qb Z ?_)))))
       refine Qw (g := 38) Z (fun h11 => ?_) (fun h11 => ?_)
       ·try rw [h11]
        try simp only [qB, Qo] at h11
        refine Qg Z (Qb Z (Qg Z (Y0 Z Z (Qg Z (Qb Z ?_)))))
        refine Qw (g := 41) Z (fun h12 => ?_) (fun h12 => ?_)
        ·try rw [h12]
         try simp only [qB, Qo] at h12
         refine Qr Z (Qr Z (Qg Z (Qi Z Z (Qi Z Z (Qb Z (Qg Z (Qb Z (Qg Z (YP Z Z (Qi Z Z (hK _ _ (Qa (kp6 Z Z Z Z Z Z) ?_))))))))))))
         refine QB Z (fun h13 => ?_) (fun h13 => ?_)
         ·try rw [h13]
          try simp only [qB, Qo] at h13
          refine Qe fun K hK => Qb Z (hK _ _ (Qa (kp1 Z) ?_))
          refine ZG (Q9 (by decide) (QD (Q9 (by decide) (Q9 (by decide) (QR (QD (QJ (Qf (kp1 Z) (Qe fun K hK => Qb Z (Qb Z ?_))))))))))
          refine hK _ _ (Qa (kp1 Z) ?_)
          refine Qq (Qn Z ?_)
          first | exact (ZL (i := i) (by omega) (Xk (by first | (left; assumption) | (right; omega)))).symm | exact (ZL (i := i) (by omega) (Xj (Yf (i := j) (by omega) (by simp [ZK]; omega)))).symm | exact (YF (by omega) hI.2).symm
         ·try rw [h13]
          try simp only [qB, Qo] at h13
          refine Qx (Ql ?_)
          refine Qp (j + 1) ?_ ?_ ?_
          ·first | exact ZC (l := [4, 14, 15, 16, 28]) (lH := [28]) (kp5 rfl rfl rfl rfl rfl) (Qz rfl QC) rfl rfl rfl | (exfalso; omega)
          ·first | exact ⟨by omega, Zb (by omega) hJ.2 (by simp [ZK]; omega)⟩ | (exfalso; omega)
          ·first | omega | (simp only; omega) | (dsimp only; omega)
        ·try rw [h12]
         try simp only [qB, Qo] at h12
         refine Qg Z (Qb Z (Qg Z (Qdx Z Z (Qg Z (Qi Z Z (Qi Z Z (Qb Z ?_)))))))
         refine Qw (g := 46) Z (fun h14 => ?_) (fun h14 => ?_)
         ·try rw [h14]
          try simp only [qB, Qo] at h14
          refine Qg Z (Qb Z (Qg Z (YP Z Z (Qi Z Z (hK _ _ (Qa (kp6 Z Z Z Z Z Z) ?_))))))
          refine QB Z (fun h15 => ?_) (fun h15 => ?_)
          ·try rw [h15]
           try simp only [qB, Qo] at h15
           refine Qe fun K hK => Qb Z (hK _ _ (Qa (kp1 Z) ?_))
           refine ZG (Q9 (by decide) (QD (Q9 (by decide) (Q9 (by decide) (QR (QD (QJ (Qf (kp1 Z) (Qe fun K hK => Qb Z (Qb Z ?_))))))))))
           refine hK _ _ (Qa (kp1 Z) ?_)
           refine Qq (Qn Z ?_)
           first | exact (ZL (i := i) (by omega) (Xk (by first | (left; assumption) | (right; omega)))).symm | exact (ZL (i := i) (by omega) (Xj (Yf (i := j) (by omega) (by simp [ZK]; omega)))).symm | exact (YF (by omega) hI.2).symm
          ·try rw [h15]
           try simp only [qB, Qo] at h15
           refine Qx (Ql ?_)
           refine Qp (j + 1) ?_ ?_ ?_
           ·first | exact ZC (l := [4, 14, 15, 16, 28]) (lH := [28]) (kp5 rfl rfl rfl rfl rfl) (Qz rfl QC) rfl rfl rfl | (exfalso; omega)
           ·first | exact ⟨by omega, Zb (by omega) hJ.2 (by simp [ZK]; omega)⟩ | (exfalso; omega)
           ·first | omega | (simp only; omega) | (dsimp only; omega)
         ·try rw [h14]
          try simp only [qB, Qo] at h14
          refine Qr Z (Qr Z (Qi Z Z (hK _ _ (Qa (kp6 Z Z Z Z Z Z) ?_))))
          refine ZF Z (Qx (Ql ?_))
          refine Qp (j + 1) ?_ ?_ ?_
          ·first | exact ZC (l := [4, 14, 15, 16, 28]) (lH := [28]) (kp5 rfl rfl rfl rfl rfl) (Qz rfl QC) rfl rfl rfl | (exfalso; omega)
          ·first | exact ⟨by omega, Zb (by omega) hJ.2 (by simp [ZK]; omega)⟩ | (exfalso; omega)
          ·first | omega | (simp only; omega) | (dsimp only; omega)
       ·try rw [h11]
        try simp only [qB, Qo] at h11
        refine Qr Z (Qr Z (Qr Z (QG Z (QG Z (Qr Z (Qi Z Z (Qb Z (Qr Z (Qr Z (Qi Z Z (hK _ _ (Qa (kp6 Z Z Z Z Z Z) ?_))))))))))))
        refine ZF Z (Qx (Ql ?_))
        refine Qp (j + 1) ?_ ?_ ?_
        ·first | exact ZC (l := [4, 14, 15, 16, 28]) (lH := [28]) (kp5 rfl rfl rfl rfl rfl) (Qz rfl QC) rfl rfl rfl | (exfalso; omega)
        ·first | exact ⟨by omega, Zb (by omega) hJ.2 (by simp [ZK]; omega)⟩ | (exfalso; omega)
        ·first | omega | (simp only; omega) | (dsimp only; omega)
     ·obtain ⟨cwh5, nwh5, hch5, hdh5⟩ := Qi7 h4 h5
      refine Qi3 Z Z h4 hdh5 (Zc Z Z (hK _ _ (Qa (kp7 Z Z Z Z Z Z Z) ?_)))
      refine QH ?_ -- 5
      refine Zl Z (Qx (Qf (kp6 Z Z Z Z Z Z) (QM (Qe fun K hK => Zc Z Z (Qb Z (hK _ _ (Qa (kp6 Z Z Z Z Z Z) ?_)))))))
      refine Qe fun K hK => Qb Z (Y0 Z Z (Qb Z ?_))
      refine Qw (g := 34) Z (fun h16 => ?_) (fun h16 => ?_)
      ·try rw [h16]
       try simp only [qB, Qo] at h16
       refine Qr Z (Qr Z (Qi Z Z (Qb Z (Qg Z (Qb Z (Qg Z (Y0 Z Z (Qg Z (Qb Z ?_)))))))))
       refine Qw (g := 41) Z (fun h17 => ?_) (fun h17 => ?_)
       ·try rw [h17]
        try simp only [qB, Qo] at h17
        refine Qr Z (Qr Z (Qg Z (Qi Z Z (Qi Z Z (Qb Z (Qg Z (Qb Z (Qg Z (YP Z Z (Qi Z Z (hK _ _ (Qa (kp6 Z Z Z Z Z Z) ?_))))))))))))
        refine QB Z (fun h18 => ?_) (fun h18 => ?_)
        ·try rw [h18]
         try simp only [qB, Qo] at h18
         refine Qe fun K hK => Qb Z (hK _ _ (Qa (kp1 Z) ?_))
         refine ZG (Q9 (by decide) (QD (Q9 (by decide) (Q9 (by decide) (QR (QD (QJ (Qf (kp1 Z) (Qe fun K hK => Qb Z (Qb Z ?_))))))))))
         refine hK _ _ (Qa (kp1 Z) ?_)
         refine Qq (Qn Z ?_)
         first | exact (ZL (i := i) (by omega) (Xk (by first | (left; assumption) | (right; omega)))).symm | exact (ZL (i := i) (by omega) (Xj (Yf (i := j) (by omega) (by simp [ZK]; omega)))).symm | exact (YF (by omega) hI.2).symm
        ·try rw [h18]
         try simp only [qB, Qo] at h18
         refine Qx (Ql ?_)
         refine Qp (j + 1) ?_ ?_ ?_
         ·first | exact ZC (l := [4, 14, 15, 16, 28]) (lH := [28]) (kp5 rfl rfl rfl rfl rfl) (Qz rfl QC) rfl rfl rfl | (exfalso; omega)
         ·first | exact ⟨by omega, Zb (by omega) hJ.2 (by simp [ZK]; omega)⟩ | (exfalso; omega)
         ·first | omega | (simp only; omega) | (dsimp only; omega)
       ·try rw [h17]
        try simp only [qB, Qo] at h17
        refine Qg Z (Qb Z (Qg Z (Qdx Z Z (Qg Z (Qi Z Z (Qi Z Z (Qb Z ?_)))))))
        refine Qw (g := 46) Z (fun h19 => ?_) (fun h19 => ?_)
        ·try rw [h19]
         try simp only [qB, Qo] at h19
         refine Qg Z (Qb Z (Qg Z (YP Z Z (Qi Z Z (hK _ _ (Qa (kp6 Z Z Z Z Z Z) ?_))))))
         refine QB Z (fun h20 => ?_) (fun h20 => ?_)
         ·try rw [h20]
          try simp only [qB, Qo] at h20
          refine Qe fun K hK => Qb Z (hK _ _ (Qa (kp1 Z) ?_))
          refine ZG (Q9 (by decide) (QD (Q9 (by decide) (Q9 (by decide) (QR (QD (QJ (Qf (kp1 Z) (Qe fun K hK => Qb Z (Qb Z ?_))))))))))
          refine hK _ _ (Qa (kp1 Z) ?_)
          refine Qq (Qn Z ?_)
          first | exact (ZL (i := i) (by omega) (Xk (by first | (left; assumption) | (right; omega)))).symm | exact (ZL (i := i) (by omega) (Xj (Yf (i := j) (by omega) (by simp [ZK]; omega)))).symm | exact (YF (by omega) hI.2).symm
         ·try rw [h20]
          try simp only [qB, Qo] at h20
          refine Qx (Ql ?_)
          refine Qp (j + 1) ?_ ?_ ?_
          ·first | exact ZC (l := [4, 14, 15, 16, 28]) (lH := [28]) (kp5 rfl rfl rfl rfl rfl) (Qz rfl QC) rfl rfl rfl | (exfalso; omega)
          ·first | exact ⟨by omega, Zb (by omega) hJ.2 (by simp [ZK]; omega)⟩ | (exfalso; omega)
          ·first | omega | (simp only; omega) | (dsimp only; omega)
        ·try rw [h19]
         try simp only [qB, Qo] at h19
         refine Qr Z (Qr Z (Qi Z Z (hK _ _ (Qa (kp6 Z Z Z Z Z Z) ?_))))
         refine ZF Z (Qx (Ql ?_))
         refine Qp (j + 1) ?_ ?_ ?_
         ·first | exact ZC (l := [4, 14, 15, 16, 28]) (lH := [28]) (kp5 rfl rfl rfl rfl rfl) (Qz rfl QC) rfl rfl rfl | (exfalso; omega)
         ·first | exact ⟨by omega, Zb (by omega) hJ.2 (by simp [ZK]; omega)⟩ | (exfalso; omega)
         ·first | omega | (simp only; omega) | (dsimp only; omega)
      ·try rw [h16]
       try simp only [qB, Qo] at h16
       refine Qg Z (Qb Z (Qg Z (Qdx Z Z (Qi Z Z (Qb Z ?_)))))
       refine Qw (g := 38) Z (fun h21 => ?_) (fun h21 => ?_)
       ·try rw [h21]
        try simp only [qB, Qo] at h21
        refine Qg Z (Qb Z (Qg Z (Y0 Z Z (Qg Z (Qb Z ?_)))))
        refine Qw (g := 41) Z (fun h22 => ?_) (fun h22 => ?_)
        ·try rw [h22]
         try simp only [qB, Qo] at h22
         refine Qr Z (Qr Z (Qg Z (Qi Z Z (Qi Z Z (Qb Z (Qg Z (Qb Z (Qg Z (YP Z Z (Qi Z Z (hK _ _ (Qa (kp6 Z Z Z Z Z Z) ?_))))))))))))
         refine QB Z (fun h23 => ?_) (fun h23 => ?_)
         ·try rw [h23]
          try simp only [qB, Qo] at h23
          refine Qe fun K hK => Qb Z (hK _ _ (Qa (kp1 Z) ?_))
          refine ZG (Q9 (by decide) (QD (Q9 (by decide) (Q9 (by decide) (QR (QD (QJ (Qf (kp1 Z) (Qe fun K hK => Qb Z (Qb Z ?_))))))))))
          refine hK _ _ (Qa (kp1 Z) ?_)
          refine Qq (Qn Z ?_)
          first | exact (ZL (i := i) (by omega) (Xk (by first | (left; assumption) | (right; omega)))).symm | exact (ZL (i := i) (by omega) (Xj (Yf (i := j) (by omega) (by simp [ZK]; omega)))).symm | exact (YF (by omega) hI.2).symm
         ·try rw [h23]
          try simp only [qB, Qo] at h23
          refine Qx (Ql ?_)
          refine Qp (j + 1) ?_ ?_ ?_
          ·first | exact ZC (l := [4, 14, 15, 16, 28]) (lH := [28]) (kp5 rfl rfl rfl rfl rfl) (Qz rfl QC) rfl rfl rfl | (exfalso; omega)
          ·first | exact ⟨by omega, Zb (by omega) hJ.2 (by simp [ZK]; omega)⟩ | (exfalso; omega)
          ·first | omega | (simp only; omega) | (dsimp only; omega)
        ·try rw [h22]
         try simp only [qB, Qo] at h22
         refine Qg Z (Qb Z (Qg Z (Qdx Z Z (Qg Z (Qi Z Z (Qi Z Z (Qb Z ?_)))))))
         refine Qw (g := 46) Z (fun h24 => ?_) (fun h24 => ?_)
         ·try rw [h24]
          try simp only [qB, Qo] at h24
          refine Qg Z (Qb Z (Qg Z (YP Z Z (Qi Z Z (hK _ _ (Qa (kp6 Z Z Z Z Z Z) ?_))))))
          refine QB Z (fun h25 => ?_) (fun h25 => ?_)
          ·try rw [h25]
           try simp only [qB, Qo] at h25
           refine Qe fun K hK => Qb Z (hK _ _ (Qa (kp1 Z) ?_))
           refine ZG (Q9 (by decide) (QD (Q9 (by decide) (Q9 (by decide) (QR (QD (QJ (Qf (kp1 Z) (Qe fun K hK => Qb Z (Qb Z ?_))))))))))
           refine hK _ _ (Qa (kp1 Z) ?_)
           refine Qq (Qn Z ?_)
           first | exact (ZL (i := i) (by omega) (Xk (by first | (left; assumption) | (right; omega)))).symm | exact (ZL (i := i) (by omega) (Xj (Yf (i := j) (by omega) (by simp [ZK]; omega)))).symm | exact (YF (by omega) hI.2).symm
          ·try rw [h25]
           try simp only [qB, Qo] at h25
           refine Qx (Ql ?_)
           refine Qp (j + 1) ?_ ?_ ?_
           ·first | exact ZC (l := [4, 14, 15, 16, 28]) (lH := [28]) (kp5 rfl rfl rfl rfl rfl) (Qz rfl QC) rfl rfl rfl | (exfalso; omega)
           ·first | exact ⟨by omega, Zb (by omega) hJ.2 (by simp [ZK]; omega)⟩ | (exfalso; omega)
           ·first | omega | (simp only; omega) | (dsimp only; omega)
         ·try rw [h24]
          try simp only [qB, Qo] at h24
          refine Qr Z (Qr Z (Qi Z Z (hK _ _ (Qa (kp6 Z Z Z Z Z Z) ?_))))
          refine ZF Z (Qx (Ql ?_))
          refine Qp (j + 1) ?_ ?_ ?_
          ·first | exact ZC (l := [4, 14, 15, 16, 28]) (lH := [28]) (kp5 rfl rfl rfl rfl rfl) (Qz rfl QC) rfl rfl rfl | (exfalso; omega)
          ·first | exact ⟨by omega, Zb (by omega) hJ.2 (by simp [ZK]; omega)⟩ | (exfalso; omega)
          ·first | omega | (simp only; omega) | (dsimp only; omega)
       ·try rw [h21]
        try simp only [qB, Qo] at h21
        refine Qr Z (Qr Z (Qr Z (QG Z (QG Z (Qr Z (Qi Z Z (Qb Z (Qr Z (Qr Z (Qi Z Z (hK _ _ (Qa (kp6 Z Z Z Z Z Z) ?_))))))))))))
        refine ZF Z (Qx (Ql ?_))
        refine Qp (j + 1) ?_ ?_ ?_
        ·first | exact ZC (l := [4, 14, 15, 16, 28]) (lH := [28]) (kp5 rfl rfl rfl rfl rfl) (Qz rfl QC) rfl rfl rfl | (exfalso; omega)
        ·first | exact ⟨by omega, Zb (by omega) hJ.2 (by simp [ZK]; omega)⟩ | (exfalso; omega)
        ·first | omega | (simp only; omega) | (dsimp only; omega)
    ·refine Qhc Z Z (by omega) (Zc Z Z (hK _ _ (Qa (kp7 Z Z Z Z Z Z Z) ?_)))
     refine QH ?_ -- 5
     refine ZF Z (ZG (QR (QD (QJ (Ql (Qf (kp4 Z Z Z Z) (Zf fun K hK => Zk Z Z (by first | exact Qt (by omega) (by omega) | exact QW (by omega) (by omega) | exact Za (by omega) (by omega) | rfl) (Qb Z (hK _ ?_)))))))))
     refine Qp (i + 1) ?_ ?_ ?_
     ·exact ZC (l := [4, 14, 15, 16]) (kp4 rfl rfl rfl rfl) QC rfl rfl rfl
     ·exact ⟨by omega, Zb (by omega) hI.2 (QnT (by assumption) (by omega) (Y7 (by omega) hJ.2))⟩
     ·first | omega | (simp only; omega) | (dsimp only; omega)
 ·try rw [h1]
  try simp only [qB, Qo] at h1
  refine ZG (QR (QD (QJ (Qf (kp1 Z) (Qe fun K hK => Qb Z (Qb Z (hK _ _ (Qa (kp1 Z) ?_))))))))
  refine Qq (Qn Z ?_)
  first | exact (ZL (i := i) (by omega) (Xk (by first | (left; assumption) | (right; omega)))).symm | exact (ZL (i := i) (by omega) (Xj (Yf (i := j) (by omega) (by simp [ZK]; omega)))).symm | exact (YF (by omega) hI.2).symm
end Go.Proofs
namespace Go.Proofs
open Go Go.Abs M3
set_option linter.unusedVariables false
set_option linter.unusedSimpArgs false
theorem Qgj {a b : List UInt8} (ha : a.length <= 1000000) (hb : b.length <= 1000000) : Ok Tryd.prog 110 [.str a, .str b] (.int .i64 (Qfz a b)) := by
 refine Ok.ofT Z5 Tryd.func110 QpW (Nat.le_of_ble_eq_true Z) ?_
 show TW _ _ tf110.body _ _
 refine Qe fun K hK => Qb Z (hK _ _ (Qa (kp2 Z Z) ?_))
 refine Qe fun K hK => Qb Z (Qy (Xq (by omega)) Z Z (.inr Z) (Qb Z (Qy (Xq (by omega)) Z Z (.inr Z) (Qb Z (Qb Z (hK _ _ (Qa (kp4 Z Z Z Z) ?_)))))))
 refine QH ?_ -- 0
 refine Qe fun K hK => Qb Z (Qb Z ?_)
 refine Qw (g := 16) Z (fun h1 => ?_) (fun h1 => ?_)
 ·try rw [h1]
  try simp only [qB] at h1
  refine Qg Z (Qb Z (Qi Z Z (hK _ _ (Qa (kp5 Z Z Z Z Z) ?_))))
  refine QB Z (fun h2 => ?_) (fun h2 => ?_)
  ·try rw [h2]
   try simp only [qB] at h2
   refine Qe fun K hK => Qb Z (Qy (Qau (by omega)) Z Z (.inr Z) (Qb Z (Zc Z Z (Zc Z Z (Qb Z (Qb Z (hK _ _ (Qa (kp2 Z Z) ?_))))))))
   refine Qe fun K hK => Qb Z (Qy (Qau (by omega)) Z Z (.inr Z) (Qb Z (Zc Z Z (Zc Z Z (Qb Z (Qb Z (hK _ _ (Qa (kp2 Z Z) ?_))))))))
   refine Qe fun K hK => Qb Z (Qb Z (Qy (ZH) Z Z (.inr Z) (Qb Z (hK _ _ (Qa (kp1 Z) ?_)))))
   refine Qq (Qj (Qs Z ?_))
   (repeat clear hK K); first | (simp [Qfz, h1, h2]; done) | (simp_all [Qfz]; done)
  ·try rw [h2]
   try simp only [qB] at h2
   refine Qx (Qf (kp4 Z Z Z Z) ?_)
   refine QH ?_ -- 1
   refine Qe fun K hK => Qb Z (Qb Z (Qoy Z Z (hK _ _ (Qa (kp4 Z Z Z Z) ?_))))
   refine QB Z (fun h3 => ?_) (fun h3 => ?_)
   ·try rw [h3]
    try simp only [qB] at h3
    refine QH ?_ -- 2
    refine Qe fun K hK => Qb Z (hK _ _ (Qa (kp1 Z) ?_))
    refine Zl Z (Qe fun K hK => Qb Z (hK _ _ (Qa (kp1 Z) ?_)))
    refine Qq (Qj (Qj (Qs Z ?_)))
    (repeat clear hK K); first | (simp [Qfz, h1, h2, h3]; done) | (simp_all [Qfz]; done)
   ·try rw [h3]
    try simp only [qB] at h3
    refine Qx (Qf (kp2 Z Z) (Qe fun K hK => Qb Z (Qb Z (Qy (XK) Z Z (.inr Z) (Qb Z (hK _ _ (Qa (kp1 Z) ?_)))))))
    refine Qq (Qs Z ?_)
    (repeat clear hK K); first | (simp [Qfz, h1, h2, h3]; done) | (simp_all [Qfz]; done)
 ·try rw [h1]
  try simp only [qB] at h1
  refine Qr Z (Qi Z Z (hK _ _ (Qa (kp5 Z Z Z Z Z) ?_)))
  refine ZF Z (Qx (Qf (kp4 Z Z Z Z) ?_))
  refine QH ?_ -- 1
  refine Qe fun K hK => Qb Z (Qb Z (Qoy Z Z (hK _ _ (Qa (kp4 Z Z Z Z) ?_))))
  refine QB Z (fun h4 => ?_) (fun h4 => ?_)
  ·try rw [h4]
   try simp only [qB] at h4
   refine QH ?_ -- 2
   refine Qe fun K hK => Qb Z (hK _ _ (Qa (kp1 Z) ?_))
   refine ZF Z (Qx (Qf (QV) (Qe fun K hK => Qb Z (hK _ _ (Qa (kp1 Z) ?_)))))
   refine Qq (Qj (Qs Z ?_))
   (repeat clear hK K); first | (simp [Qfz, h1, h4]; done) | (simp_all [Qfz]; done)
  ·try rw [h4]
   try simp only [qB] at h4
   refine Qx (Qf (kp2 Z Z) (Qe fun K hK => Qb Z (Qb Z (Qy (XK) Z Z (.inr Z) (Qb Z (hK _ _ (Qa (kp1 Z) ?_)))))))
   refine Qq (Qs Z ?_)
   (repeat clear hK K); first | (simp [Qfz, h1, h4]; done) | (simp_all [Qfz]; done)
theorem Qgi {s : List UInt8} (hl : s.length <= 1000000) : Ok Tryd.prog 80 [.str s] (.bool (QfA s)) := by
 refine Ok.ofT Z5 Tryd.func80 Qq9 (Nat.le_of_ble_eq_true Z) ?_
 show TW _ _ tf80.body _ _
 refine Qe fun K hK => Qb Z (hK _ _ (Qa (kp1 Z) ?_))
 refine QH ?_ -- 0
 refine Qe fun K hK => Qb Z (Qy (Qaw (by omega)) Z Z (.inr Z) (ZP Z (hK _ _ (Qa (kp2 Z Z) ?_))))
 refine QB Z (fun h1 => ?_) (fun h1 => ?_)
 ·try rw [h1]
  try simp only [qB, Qo] at h1
  refine Qe fun K hK => Qb Z (hK _ _ (Qa (kp1 Z) ?_))
  refine Qq (Qj (Qn Z ?_))
  first | (simp [QfA, h1]; done) | exact (QiI (i := i) (by omega) (by simp [Qd8, h1])).symm | exact (QgO (i := i) (by assumption) (by omega) hI.2).symm
 ·try rw [h1]
  try simp only [qB, Qo] at h1
  refine Qx (Qf (kp1 Z) ?_)
  refine QH ?_ -- 1
  refine Qe fun K hK => Qb Z (Qy (XQ (by omega)) Z Z (.inl Z) (ZJ Z Z (Qb Z (hK _ _ (Qa (kp3 Z Z Z) ?_)))))
  refine QM ?_
  refine Ya (ι := Nat) (fun i => ⟨[(11, .sl (YH (QZ s 46))), (12, .int .i64 (QZ s 46).length), (13, .int .i64 i)], []⟩) (fun i => i <= (QZ s 46).length /\ ((QZ s 46).take i).all Qd8 = true) (fun i => (QZ s 46).length - i) 0 ?_ ?_ ?_
  ·exact ZC (l := [11, 12, 13]) (kp3 rfl rfl rfl) QC (by simp [Qo]) rfl rfl
  ·exact ⟨Nat.zero_le _, rfl⟩
  intro i hI
  have sl := Qdu (s := s) (c := 46)
  try dsimp only
  refine Qe fun K hK => Y0 Z Z (hK _ _ (Qa (kp4 Z Z Z Z) ?_))
  refine QH ?_ -- 2
  refine QB Z (fun h2 => ?_) (fun h2 => ?_)
  ·try rw [h2]
   try simp only [qB, Qo] at h2
   refine Qx (Qf (kp3 Z Z Z) ?_)
   refine QH ?_ -- 3
   refine QM (Qe fun K hK => Q2 Z Z Z (by omega) (XT (by omega)) Z (QE Z Z Z (Qb Z (hK _ _ (Qa (kp4 Z Z Z Z) ?_)))))
   refine Qe fun K hK => Qb Z (Qy (Qau (XX (by omega) hl)) Z Z (.inr Z) (Qb Z (Zc Z Z (Zc Z Z (Qb Z (Qb Z (hK _ _ (Qa (kp5 Z Z Z Z Z) ?_))))))))
   refine Qe fun K hK => Qb Z (Qy (Xq (XX (by omega) hl)) Z Z (.inr Z) (Qb Z ?_))
   refine Qw (g := 24) Z (fun h3 => ?_) (fun h3 => ?_)
   ·try rw [h3]
    try simp only [qB, Qo] at h3
    refine Qg Z (Qb Z (Qg Z (ZP Z (Qi Z Z (hK _ _ (Qa (kp4 Z Z Z Z) ?_))))))
    refine QB Z (fun h4 => ?_) (fun h4 => ?_)
    ·try rw [h4]
     try simp only [qB, Qo] at h4
     refine Qe fun K hK => Qb Z (hK _ _ (Qa (kp1 Z) ?_))
     refine Qq (Qu (Qj (Q7 (Qu (Qj (Qn Z ?_))))))
     first | (simp [QfA, h1, h2, h3, h4]; done) | exact (QiI (i := i) (by omega) (by simp [Qd8, h1, h2, h3, h4])).symm | exact (QgO (i := i) (by assumption) (by omega) hI.2).symm
    ·try rw [h4]
     try simp only [qB, Qo] at h4
     refine Qx (Ql (Qf (kp3 Z Z Z) (Zf fun K hK => Zk Z Z (by first | exact Qt (by omega) (by omega) | exact QW (by omega) (by omega) | exact Za (by omega) (by omega) | rfl) (Qb Z (hK _ ?_)))))
     refine Qp (i + 1) ?_ ?_ ?_
     ·exact Q6 (kp3 rfl rfl rfl)
     ·exact ⟨by omega, Zb (by omega) hI.2 (by simp [Qd8, h1, h2, h3, h4])⟩
     ·first | omega | (simp only; omega) | (dsimp only; omega)
   ·try rw [h3]
    try simp only [qB, Qo] at h3
    refine Qr Z (Qr Z (Qi Z Z (hK _ _ (Qa (kp4 Z Z Z Z) ?_))))
    refine ZF Z (Qx (Ql (Qf (kp3 Z Z Z) (Zf fun K hK => Zk Z Z (by first | exact Qt (by omega) (by omega) | exact QW (by omega) (by omega) | exact Za (by omega) (by omega) | rfl) (Qb Z (hK _ ?_))))))
    refine Qp (i + 1) ?_ ?_ ?_
    ·exact Q6 (kp3 rfl rfl rfl)
    ·exact ⟨by omega, Zb (by omega) hI.2 (by simp [Qd8, h1, h2, h3])⟩
    ·first | omega | (simp only; omega) | (dsimp only; omega)
  ·try rw [h2]
   try simp only [qB, Qo] at h2
   refine ZG (QR (QD (QJ (Qf (QV) (Qe fun K hK => Qb Z (hK _ _ (Qa (kp1 Z) ?_)))))))
   refine Qq (Qn Z ?_)
   first | (simp [QfA, h1, h2]; done) | exact (QiI (i := i) (by omega) (by simp [Qd8, h1, h2])).symm | exact (QgO (i := i) (by assumption) (by omega) hI.2).symm
theorem YG {a b c : Int} {p q : List UInt8} (hp : p.length <= 1000000) (hq : q.length <= 1000000) : Ok Tryd.prog 60 [.agg [.int .i64 a, .int .i64 b, .int .i64 c, .str p, .str q]] (.bool (Qa6 a b c p q)) := by
 refine Ok.ofT Z5 Tryd.func60 QqQ (Nat.le_of_ble_eq_true Z) ?_
 show TW _ _ tf60.body _ _
 refine Qe fun K hK => ZO Z Z Z (Qb Z (hK _ _ (Qa (kp1 Z) ?_)))
 refine Qe fun K hK => Qh Z Z (QE Z Z Z (Qy (Qav) Z Z (.inr Z) (Qb Z ?_)))
 refine Qw (g := 6) Z (fun h1 => ?_) (fun h1 => ?_)
 ·try rw [h1]
  try simp only [qB] at h1
  refine Qg Z (Qh Z Z (Qg Z (QE Z Z Z (Qg Z (Qy (Qav) Z Z (.inr Z) (Qi Z Z (Qb Z ?_)))))))
  refine Qw (g := 11) Z (fun h2 => ?_) (fun h2 => ?_)
  ·try rw [h2]
   try simp only [qB] at h2
   refine Qg Z (Qh Z Z (Qg Z (QE Z Z Z (Qg Z (Qy (Qav) Z Z (.inr Z) (Qi Z Z (Qb Z ?_)))))))
   refine Qw (g := 16) Z (fun h3 => ?_) (fun h3 => ?_)
   ·try rw [h3]
    try simp only [qB] at h3
    refine Qg Z (Qh Z Z (Qg Z (QE Z Z Z (Qg Z (Qb7 Z Z (Qg Z (Qb Z ?_)))))))
    refine Qw (g := 20) Z (fun h4 => ?_) (fun h4 => ?_)
    ·try rw [h4]
     try simp only [qB] at h4
     refine Qr Z (Qr Z (Qr Z (Qg Z (Qi Z Z (Qi Z Z (Qb Z (Qg Z (Qh Z Z (Qg Z (QE Z Z Z (Qg Z ?_)))))))))))
     refine Qb7 Z Z (Qg Z (Qb Z ?_))
     refine Qw (g := 30) Z (fun h5 => ?_) (fun h5 => ?_)
     ·try rw [h5]
      try simp only [qB] at h5
      refine Qr Z (Qr Z (Qr Z (Qg Z (Qi Z Z (Qi Z Z (Qb Z (hK _ _ (Qa (kp1 Z) ?_))))))))
      refine Qq (Qn Z ?_)
      simp [Qa6, YE, Xa, h1, h2, h3, h4, h5]
     ·try rw [h5]
      try simp only [qB] at h5
      refine Qg Z (Qh Z Z (Qg Z (QE Z Z Z (Qg Z (Qy (Qaw (by omega)) Z Z (.inr Z) (Qg Z (Qi Z Z (Qi Z Z (Qb Z (hK _ _ (Qa (kp1 Z) ?_)))))))))))
      refine Qq (Qn Z ?_)
      simp [Qa6, YE, Xa, h1, h2, h3, h4, h5]
    ·try rw [h4]
     try simp only [qB] at h4
     refine Qg Z (Qh Z Z (Qg Z (QE Z Z Z (Qg Z (Qy (Qgi (by omega)) Z Z (.inr Z) (Qg Z (Qi Z Z (Qi Z Z (Qb Z ?_)))))))))
     refine Qw (g := 26) Z (fun h6 => ?_) (fun h6 => ?_)
     ·try rw [h6]
      try simp only [qB] at h6
      refine Qg Z (Qh Z Z (Qg Z (QE Z Z Z (Qg Z (Qb7 Z Z (Qg Z (Qb Z ?_)))))))
      refine Qw (g := 30) Z (fun h7 => ?_) (fun h7 => ?_)
      ·try rw [h7]
       try simp only [qB] at h7
       refine Qr Z (Qr Z (Qr Z (Qg Z (Qi Z Z (Qi Z Z (Qb Z (hK _ _ (Qa (kp1 Z) ?_))))))))
       refine Qq (Qn Z ?_)
       simp [Qa6, YE, Xa, h1, h2, h3, h4, h6, h7]
      ·try rw [h7]
       try simp only [qB] at h7
       refine Qg Z (Qh Z Z (Qg Z (QE Z Z Z (Qg Z (Qy (Qaw (by omega)) Z Z (.inr Z) (Qg Z (Qi Z Z (Qi Z Z (Qb Z (hK _ _ (Qa (kp1 Z) ?_)))))))))))
       refine Qq (Qn Z ?_)
       simp [Qa6, YE, Xa, h1, h2, h3, h4, h6, h7]
     ·try rw [h6]
      try simp only [qB] at h6
      refine Qr Z (Qr Z (Qr Z (Qr Z (QG Z (QG Z (QG Z (Qr Z (Qi Z Z (Qb Z (hK _ _ (Qa (kp1 Z) ?_)))))))))))
      refine Qq (Qn Z ?_)
      simp [Qa6, YE, Xa, h1, h2, h3, h4, h6]
   ·try rw [h3]
    try simp only [qB] at h3
    refine Qr Z (Qr Z (Qr Z (Qr Z (QG Z (QG Z (QG Z (Qr Z (Qi Z Z (Qb Z (Qr Z (Qr Z ?_)))))))))))
    refine Qr Z (Qr Z (QG Z (QG Z (QG Z (Qr Z (Qi Z Z (Qb Z (hK _ _ (Qa (kp1 Z) ?_)))))))))
    refine Qq (Qn Z ?_)
    simp [Qa6, YE, Xa, h1, h2, h3]
  ·try rw [h2]
   try simp only [qB] at h2
   refine Qr Z (Qr Z (Qr Z (Qi Z Z (Qb Z (Qr Z (Qr Z (Qr Z (Qr Z (QG Z (QG Z (QG Z ?_)))))))))))
   refine Qr Z (Qi Z Z (Qb Z (Qr Z (Qr Z (Qr Z (Qr Z (QG Z (QG Z (QG Z (Qr Z (Qi Z Z ?_)))))))))))
   refine Qb Z (hK _ _ (Qa (kp1 Z) ?_))
   refine Qq (Qn Z ?_)
   simp [Qa6, YE, Xa, h1, h2]
 ·try rw [h1]
  try simp only [qB] at h1
  refine Qr Z (Qr Z (Qr Z (Qi Z Z (Qb Z (Qr Z (Qr Z (Qr Z (Qi Z Z (Qb Z (Qr Z (Qr Z ?_)))))))))))
  refine Qr Z (Qr Z (QG Z (QG Z (QG Z (Qr Z (Qi Z Z (Qb Z (Qr Z (Qr Z (Qr Z (Qr Z ?_)))))))))))
  refine QG Z (QG Z (QG Z (Qr Z (Qi Z Z (Qb Z (hK _ _ (Qa (kp1 Z) ?_)))))))
  refine Qq (Qn Z ?_)
  simp [Qa6, YE, Xa, h1]
theorem QaF {a b c : Int} {p q : List UInt8} (hp : p.length <= 1000000) (hq : q.length <= 1000000) {a' b' c' : Int} {p' q' : List UInt8} (hp' : p'.length <= 1000000) (hq' : q'.length <= 1000000) : Ok Tryd.prog 105 [.agg [.int .i64 a, .int .i64 b, .int .i64 c, .str p, .str q], .agg [.int .i64 a', .int .i64 b', .int .i64 c', .str p', .str q']] (.int .i64 (QcE a b c p q a' b' c' p' q')) := by
 refine Ok.ofT Z5 Tryd.func105 QpR (Nat.le_of_ble_eq_true Z) ?_
 show TW _ _ tf105.body _ _
 refine Qe fun K hK => ZO Z Z Z (ZO Z Z Z (Qb Z (hK _ _ (Qa (kp2 Z Z) ?_))))
 refine QH ?_ -- 0
 refine Qe fun K hK => QS (ds0 := [13, 12, 11, 10, 9, 8, 7, 6, 5, 4, 3, 2, 1, 0]) (cs := [_, _, _, _, _]) Z Z Z Z Z Z (Q1 (ds0 := [12, 11, 10, 9, 8, 7, 6, 5, 4, 3, 2, 1, 0]) (YG (by omega) (by omega)) Z Z (.inr Z) Z Z (ZP Z (Qb Z ?_)))
 refine Qw (g := 13) Z (fun h1 => ?_) (fun h1 => ?_)
 ·try rw [h1]
  try simp only [qB, Qo] at h1
  refine Qr Z (Qr Z (Qr Z (Qi Z Z (Qb Z (Qr Z (Qr Z (Qr Z (Qr Z (Qr Z (Qi Z Z (hK _ _ (Qa (kp3 Z Z Z) ?_))))))))))))
  refine Zl Z (Qe fun K hK => Qb Z (hK _ _ (Qa (kp1 Z) ?_)))
  refine Qq (Qj (Qs Z ?_))
  first | (simp [QcE, h1]; done) | (exact (Qc5 (by assumption) (by assumption) (by assumption)).symm) | (exact QaT (by assumption) (by assumption) (by assumption)) | (exact (XR (by assumption) (by assumption) (by assumption) (by assumption) (by assumption)).symm) | (exact (XS (by assumption) (by assumption) (by assumption) (by assumption) (by assumption)).symm) | (rw [hI.2.2, Yo (by omega) (by omega) (by assumption)]) | (rw [hI.2.2, Yn (by omega) (by omega) (by omega)]; simp [Qo])
 ·try rw [h1]
  try simp only [qB, Qo] at h1
  refine Qg Z (QS (ds0 := [9, 8, 7, 6, 5, 4, 3, 2, 1, 0]) (cs := [_, _, _, _, _]) Z Z Z Z Z Z (Qg Z (Q1 (ds0 := [8, 7, 6, 5, 4, 3, 2, 1, 0]) (YG (by omega) (by omega)) Z Z (.inr Z) Z Z (Qg Z (ZP Z (Qi Z Z (Qb Z ?_)))))))
  refine Qw (g := 18) Z (fun h2 => ?_) (fun h2 => ?_)
  ·try rw [h2]
   try simp only [qB, Qo] at h2
   refine Qr Z (Qr Z (Qr Z (Qr Z (Qr Z (Qi Z Z (hK _ _ (Qa (kp3 Z Z Z) ?_)))))))
   refine Zl Z (Qe fun K hK => Qb Z (hK _ _ (Qa (kp1 Z) ?_)))
   refine Qq (Qj (Qs Z ?_))
   first | (simp [QcE, h1, h2]; done) | (exact (Qc5 (by assumption) (by assumption) (by assumption)).symm) | (exact QaT (by assumption) (by assumption) (by assumption)) | (exact (XR (by assumption) (by assumption) (by assumption) (by assumption) (by assumption)).symm) | (exact (XS (by assumption) (by assumption) (by assumption) (by assumption) (by assumption)).symm) | (rw [hI.2.2, Yo (by omega) (by omega) (by assumption)]) | (rw [hI.2.2, Yn (by omega) (by omega) (by omega)]; simp [Qo])
  ·try rw [h2]
   try simp only [qB, Qo] at h2
   refine Qg Z (QS (ds0 := [4, 1, 0]) (cs := [_, _, _, _, _]) Z Z Z Z Z Z (Qg Z (Q1 (ds0 := [1, 0]) (Qck) Z Z (.inl Z) Z Z (Qg Z (QS (ds0 := [2, 1, 0]) (cs := [_, _, _, _, _]) Z Z Z Z Z Z (Qg Z (Q1 (ds0 := [1, 0]) (Qck) Z Z (.inl Z) Z Z (Qg Z (Qhb Z Z Z (Qi Z Z (hK _ _ (Qa (kp3 Z Z Z) ?_))))))))))))
   refine QB Z (fun h3 => ?_) (fun h3 => ?_)
   ·try rw [h3]
    try simp only [qB, Qo] at h3
    refine Qe fun K hK => Qb Z (hK _ _ (Qa (kp1 Z) ?_))
    refine Qq (Qj (Qs Z ?_))
    first | (simp [QcE, h1, h2, h3]; done) | (exact (Qc5 (by assumption) (by assumption) (by assumption)).symm) | (exact QaT (by assumption) (by assumption) (by assumption)) | (exact (XR (by assumption) (by assumption) (by assumption) (by assumption) (by assumption)).symm) | (exact (XS (by assumption) (by assumption) (by assumption) (by assumption) (by assumption)).symm) | (rw [hI.2.2, Yo (by omega) (by omega) (by assumption)]) | (rw [hI.2.2, Yn (by omega) (by omega) (by omega)]; simp [Qo])
   ·try rw [h3]
    try simp only [qB, Qo] at h3
    refine Qx (Qf (kp2 Z Z) ?_)
    refine QH ?_ -- 1
    refine Qe fun K hK => Qh Z Z (Zr (ds0 := [13, 2, 1, 0]) Z Z Z Z Z (Qh Z Z (Zr (ds0 := [13, 2, 1, 0]) Z Z Z Z Z (Q1 (ds0 := [2, 1, 0]) (ZH) Z Z (.inr Z) Z Z (Qh Z Z (Zr (ds0 := [8, 2, 1, 0]) Z Z Z Z Z (Qh Z Z (Zr (ds0 := [8, 2, 1, 0]) Z Z Z Z Z (Q1 (ds0 := [2, 1, 0]) (ZH) Z Z (.inr Z) Z Z (Qh Z Z ?_))))))))))
    refine Zr (ds0 := [3, 2, 1, 0]) Z Z Z Z Z (Qh Z Z (Zr (ds0 := [3, 2, 1, 0]) Z Z Z Z Z (Q1 (ds0 := [2, 1, 0]) (ZH) Z Z (.inr Z) Z Z (QL Z Z (Q1 (ds0 := [0]) (Qhm (l := [ZR a a', ZR b b', ZR c c']) (by simp)) Z Z (.inr Z) Z Z (Qb Z (hK _ _ (Qa (kp3 Z Z Z) ?_))))))))
    refine Qe fun K hK => Qb Z (YP Z Z (hK _ _ (Qa (kp4 Z Z Z Z) ?_)))
    refine QB Z (fun h4 => ?_) (fun h4 => ?_)
    ·try rw [h4]
     try simp only [qB, Qo] at h4
     refine Qe fun K hK => Qb Z (Qb Z (hK _ _ (Qa (kp1 Z) ?_)))
     refine Qq (Qj (Qs Z ?_))
     first | (simp [QcE, h1, h2, h3, h4]; done) | (exact (Qc5 (by assumption) (by assumption) (by assumption)).symm) | (exact QaT (by assumption) (by assumption) (by assumption)) | (exact (XR (by assumption) (by assumption) (by assumption) (by assumption) (by assumption)).symm) | (exact (XS (by assumption) (by assumption) (by assumption) (by assumption) (by assumption)).symm) | (rw [hI.2.2, Yo (by omega) (by omega) (by assumption)]) | (rw [hI.2.2, Yn (by omega) (by omega) (by omega)]; simp [Qo])
    ·try rw [h4]
     try simp only [qB, Qo] at h4
     refine Qx (Qf (kp2 Z Z) ?_)
     refine QH ?_ -- 2
     refine Qe fun K hK => Qh Z Z (QE Z Z Z (Qb7 Z Z (hK _ _ (Qa (kp3 Z Z Z) ?_))))
     refine QB Z (fun h5 => ?_) (fun h5 => ?_)
     ·try rw [h5]
      try simp only [qB, Qo] at h5
      refine Qe fun K hK => Qb Z (hK _ _ (Qa (kp1 Z) ?_))
      refine Qq (Qj (Qs Z ?_))
      first | (simp [QcE, h1, h2, h3, h4, h5]; done) | (exact (Qc5 (by assumption) (by assumption) (by assumption)).symm) | (exact QaT (by assumption) (by assumption) (by assumption)) | (exact (XR (by assumption) (by assumption) (by assumption) (by assumption) (by assumption)).symm) | (exact (XS (by assumption) (by assumption) (by assumption) (by assumption) (by assumption)).symm) | (rw [hI.2.2, Yo (by omega) (by omega) (by assumption)]) | (rw [hI.2.2, Yn (by omega) (by omega) (by omega)]; simp [Qo])
     ·try rw [h5]
      try simp only [qB, Qo] at h5
      refine Qx (Qf (kp2 Z Z) ?_)
      refine QH ?_ -- 3
      refine Qe fun K hK => Qh Z Z (QE Z Z Z (Qb7 Z Z (hK _ _ (Qa (kp3 Z Z Z) ?_))))
      refine QB Z (fun h6 => ?_) (fun h6 => ?_)
      ·try rw [h6]
       try simp only [qB, Qo] at h6
       refine Qe fun K hK => Qb Z (hK _ _ (Qa (kp1 Z) ?_))
       refine Qq (Qj (Qs Z ?_))
       first | (simp [QcE, h1, h2, h3, h4, h5, h6]; done) | (exact (Qc5 (by assumption) (by assumption) (by assumption)).symm) | (exact QaT (by assumption) (by assumption) (by assumption)) | (exact (XR (by assumption) (by assumption) (by assumption) (by assumption) (by assumption)).symm) | (exact (XS (by assumption) (by assumption) (by assumption) (by assumption) (by assumption)).symm) | (rw [hI.2.2, Yo (by omega) (by omega) (by assumption)]) | (rw [hI.2.2, Yn (by omega) (by omega) (by omega)]; simp [Qo])
      ·try rw [h6]
       try simp only [qB, Qo] at h6
       refine Qx (Qf (kp2 Z Z) (Qe fun K hK => Qh Z Z (Zr (ds0 := [5, 1]) Z Z Z Z Z (Q1 (ds0 := [1]) (XQ (by omega)) Z Z (.inl Z) Z Z (Qh Z Z (Zr (ds0 := [2, 0]) Z Z Z Z Z (Q1 (ds0 := [0]) (XQ (by omega)) Z Z (.inl Z) Z Z (Qb Z (Qb Z (hK _ _ (Qa (kp2 Z Z) ?_)))))))))))
       refine QH ?_ -- 4
       refine Qe fun K hK => Qb Z (hK _ _ (Qa (kp3 Z Z Z) ?_))
       refine QM ?_
       refine Ya (ι := Nat) (fun i => ⟨[(6, .sl (YH (QZ p 46))), (7, .sl (YH (QZ p' 46))), (8, .int .i64 i)], []⟩) (fun i => i <= (QZ p 46).length /\ i <= (QZ p' 46).length /\ QcE a b c p q a' b' c' p' q' = Qjw ((QZ p 46).drop i) ((QZ p' 46).drop i)) (fun i => (QZ p 46).length - i) 0 ?_ ?_ ?_
       ·exact ZC (l := [6, 7, 8]) (kp3 rfl rfl rfl) QC rfl rfl rfl
       ·exact ⟨Nat.zero_le _, Nat.zero_le _, QnD (by assumption) (by assumption) (by assumption) (by assumption) (by assumption) (by assumption)⟩
       intro i hI
       have sl := Qdu (s := p) (c := 46)
       try dsimp only
       refine QH ?_ -- 5
       refine Qe fun K hK => Qb Z (Qb Z (ZJ Z Z (Y0 Z Z (Qb Z ?_))))
       refine Qw (g := 61) Z (fun h7 => ?_) (fun h7 => ?_)
       ·try rw [h7]
        try simp only [qB, Qo] at h7
        refine Qg Z (Qb Z (Qg Z (Qb Z (Qg Z (ZJ Z Z (Qg Z (Y0 Z Z (Qi Z Z (hK _ _ (Qa (kp4 Z Z Z Z) ?_))))))))))
        refine QB Z (fun h8 => ?_) (fun h8 => ?_)
        ·try rw [h8]
         try simp only [qB, Qo] at h8
         refine Qx (Qf (kp3 Z Z Z) ?_)
         refine QH ?_ -- 6
         refine QM (Qe fun K hK => Qb Z (Qb Z (Q2 Z Z Z (by omega) (XT (by omega)) Z (Zr (ds0 := [1, 0]) Z Z Z Z Z (Qb Z (Qb Z (Q2 Z Z Z (by omega) (XT (by omega)) Z (Zr (ds0 := [1, 0]) Z Z Z Z Z (Q1 (ds0 := [0]) (Qgj (XX (by omega) hp) (XX (by omega) hp')) Z Z (.inr Z) Z Z (Qb Z ?_))))))))))
         refine hK _ _ (Qa (kp4 Z Z Z Z) ?_)
         refine Qe fun K hK => Qb Z (YP Z Z (hK _ _ (Qa (kp5 Z Z Z Z Z) ?_)))
         refine QB Z (fun h9 => ?_) (fun h9 => ?_)
         ·try rw [h9]
          try simp only [qB, Qo] at h9
          refine Qe fun K hK => Qb Z (Qb Z (hK _ _ (Qa (kp1 Z) ?_)))
          refine Qq (Qu (Qj (Q7 (Qu (Qj (Qs Z ?_))))))
          first | (simp [QcE, h1, h2, h3, h4, h5, h6, h7, h8, h9]; done) | (exact (Qc5 (by assumption) (by assumption) (by assumption)).symm) | (exact QaT (by assumption) (by assumption) (by assumption)) | (exact (XR (by assumption) (by assumption) (by assumption) (by assumption) (by assumption)).symm) | (exact (XS (by assumption) (by assumption) (by assumption) (by assumption) (by assumption)).symm) | (rw [hI.2.2, Yo (by omega) (by omega) (by assumption)]) | (rw [hI.2.2, Yn (by omega) (by omega) (by omega)]; simp [Qo])
         ·try rw [h9]
          try simp only [qB, Qo] at h9
          refine Qx (Ql (Qf (kp3 Z Z Z) (Zf fun K hK => Qb Z (Zk Z Z (by first | exact Qt (by omega) (by omega) | exact QW (by omega) (by omega) | exact Za (by omega) (by omega) | rfl) (Qb Z (hK _ ?_))))))
          refine Qp (i + 1) ?_ ?_ ?_
          ·exact Q6 (kp3 rfl rfl rfl)
          ·exact ⟨by omega, by omega, by rw [hI.2.2, QhP (by omega) (by omega) (by assumption)]⟩
          ·first | omega | (simp only; omega) | (dsimp only; omega)
        ·try rw [h8]
         try simp only [qB, Qo] at h8
         refine ZG (QR (QD (QJ (Qf (kp2 Z Z) (Qe fun K hK => Qb Z (ZJ Z Z (Qb Z (ZJ Z Z (Qy (ZH) Z Z (.inr Z) (Qb Z ?_))))))))))
         refine hK _ _ (Qa (kp1 Z) ?_)
         refine Qq (Qs Z ?_)
         first | (simp [QcE, h1, h2, h3, h4, h5, h6, h7, h8]; done) | (exact (Qc5 (by assumption) (by assumption) (by assumption)).symm) | (exact QaT (by assumption) (by assumption) (by assumption)) | (exact (XR (by assumption) (by assumption) (by assumption) (by assumption) (by assumption)).symm) | (exact (XS (by assumption) (by assumption) (by assumption) (by assumption) (by assumption)).symm) | (rw [hI.2.2, Yo (by omega) (by omega) (by assumption)]) | (rw [hI.2.2, Yn (by omega) (by omega) (by omega)]; simp [Qo])
       ·try rw [h7]
        try simp only [qB, Qo] at h7
        refine Qr Z (Qr Z (Qr Z (Qr Z (Qi Z Z (hK _ _ (Qa (kp4 Z Z Z Z) ?_))))))
        refine ZF Z (ZG (QR (QD (QJ (Qf (kp2 Z Z) (Qe fun K hK => Qb Z (ZJ Z Z (Qb Z (ZJ Z Z (Qy (ZH) Z Z (.inr Z) ?_))))))))))
        refine Qb Z (hK _ _ (Qa (kp1 Z) ?_))
        refine Qq (Qs Z ?_)
        first | (simp [QcE, h1, h2, h3, h4, h5, h6, h7]; done) | (exact (Qc5 (by assumption) (by assumption) (by assumption)).symm) | (exact QaT (by assumption) (by assumption) (by assumption)) | (exact (XR (by assumption) (by assumption) (by assumption) (by assumption) (by assumption)).symm) | (exact (XS (by assumption) (by assumption) (by assumption) (by assumption) (by assumption)).symm) | (rw [hI.2.2, Yo (by omega) (by omega) (by assumption)]) | (rw [hI.2.2, Yn (by omega) (by omega) (by omega)]; simp [Qo])
theorem Qbq {e a b c : Int} {p q : List UInt8} {f : Bool} (hp : p.length <= 1000000) (hq : q.length <= 1000000) : Ok Tryd.prog 103 [.agg [.int .i64 e, .int .i64 a, .int .i64 b, .int .i64 c, .str p, .str q, .bool f]] (.bool (YW e a b c p q f)) := by
 refine Ok.ofT Z5 Tryd.func103 QpP (Nat.le_of_ble_eq_true Z) ?_
 show TW _ _ tf103.body _ _
 refine Qe fun K hK => ZO Z Z Z (Qb Z (hK _ _ (Qa (kp1 Z) ?_)))
 refine QH ?_ -- 0
 refine Qe fun K hK => Qh Z Z (QE Z Z Z (Yy Z Z (Qb Z ?_)))
 refine Qw (g := 6) Z (fun h1 => ?_) (fun h1 => ?_)
 ·try rw [h1]
  try simp only [qB] at h1
  refine Qr Z (Qr Z (Qr Z (Qi Z Z (hK _ _ (Qa (kp2 Z Z) ?_)))))
  refine Zl Z (Qe fun K hK => Qh Z Z (QF (cs := [_, _, _, _, _]) Z Z Z Z (QX Z Z (Qhb Z Z Z (Qb Z ?_)))))
  refine Qw (g := 15) Z (fun h2 => ?_) (fun h2 => ?_)
  ·try rw [h2]
   try simp only [qB] at h2
   refine Qg Z (Qh Z Z (Qg Z (QE Z Z Z (Qg Z (ZP Z (Qi Z Z (Qb Z (hK _ _ (Qa (kp1 Z) ?_)))))))))
   refine Qq (Qj (Qn Z ?_))
   (repeat clear hK K); first | (simp_all [YW]; done) | (simp_all [YW]; omega)
  ·try rw [h2]
   try simp only [qB] at h2
   refine Qr Z (Qr Z (Qr Z (Qi Z Z (Qb Z (hK _ _ (Qa (kp1 Z) ?_))))))
   refine Qq (Qj (Qn Z ?_))
   (repeat clear hK K); first | (simp_all [YW]; done) | (simp_all [YW]; omega)
 ·try rw [h1]
  try simp only [qB] at h1
  refine Qg Z (Qh Z Z (Qg Z (QE Z Z Z (Qg Z (Yy Z Z (Qi Z Z (hK _ _ (Qa (kp2 Z Z) ?_))))))))
  refine QB Z (fun h3 => ?_) (fun h3 => ?_)
  ·try rw [h3]
   try simp only [qB] at h3
   refine Qe fun K hK => Qh Z Z (QF (cs := [_, _, _, _, _]) Z Z Z Z (QX Z Z (Qhb Z Z Z (Qb Z ?_))))
   refine Qw (g := 15) Z (fun h4 => ?_) (fun h4 => ?_)
   ·try rw [h4]
    try simp only [qB] at h4
    refine Qg Z (Qh Z Z (Qg Z (QE Z Z Z (Qg Z (ZP Z (Qi Z Z (Qb Z (hK _ _ (Qa (kp1 Z) ?_)))))))))
    refine Qq (Qj (Qn Z ?_))
    (repeat clear hK K); first | (simp_all [YW]; done) | (simp_all [YW]; omega)
   ·try rw [h4]
    try simp only [qB] at h4
    refine Qr Z (Qr Z (Qr Z (Qi Z Z (Qb Z (hK _ _ (Qa (kp1 Z) ?_))))))
    refine Qq (Qj (Qn Z ?_))
    (repeat clear hK K); first | (simp_all [YW]; done) | (simp_all [YW]; omega)
  ·try rw [h3]
   try simp only [qB] at h3
   refine Qe fun K hK => Qh Z Z (QE Z Z Z (YP Z Z (hK _ _ (Qa (kp2 Z Z) ?_))))
   refine QB Z (fun h5 => ?_) (fun h5 => ?_)
   ·try rw [h5]
    try simp only [qB] at h5
    refine Qe fun K hK => Qb Z (hK _ _ (Qa (kp1 Z) ?_))
    refine Qq (Qj (Qn Z ?_))
    (repeat clear hK K); first | (simp_all [YW]; done) | (simp_all [YW]; omega)
   ·try rw [h5]
    try simp only [qB] at h5
    refine Qx (Qf (kp1 Z) (Qe fun K hK => Qh Z Z (QF (cs := [_, _, _, _, _]) Z Z Z Z (Qy (YG (by omega) (by omega)) Z Z (.inr Z) (Qb Z ?_)))))
    refine Qw (g := 26) Z (fun h6 => ?_) (fun h6 => ?_)
    ·try rw [h6]
     try simp only [qB] at h6
     refine Qg Z (Qh Z Z (Qg Z (Qh Z Z (Qg Z (QE Z Z Z (Qg Z (Qb7 Z Z (Qi Z Z (Qb Z (hK _ _ (Qa (kp1 Z) ?_)))))))))))
     refine Qq (Qn Z ?_)
     (repeat clear hK K); first | (simp_all [YW]; done) | (simp_all [YW]; omega)
    ·try rw [h6]
     try simp only [qB] at h6
     refine Qr Z (Qr Z (Qr Z (Qr Z (Qi Z Z (Qb Z (hK _ _ (Qa (kp1 Z) ?_)))))))
     refine Qq (Qn Z ?_)
     (repeat clear hK K); first | (simp_all [YW]; done) | (simp_all [YW]; omega)
theorem QcU {e a b c : Int} {p q : List UInt8} {f : Bool} (hp : p.length <= 1000000) (hq : q.length <= 1000000) {e' a' b' c' : Int} {p' q' : List UInt8} {f' : Bool} (hp' : p'.length <= 1000000) (hq' : q'.length <= 1000000) : Ok Tryd.prog 94 [.agg [.int .i64 e, .int .i64 a, .int .i64 b, .int .i64 c, .str p, .str q, .bool f], .agg [.int .i64 e', .int .i64 a', .int .i64 b', .int .i64 c', .str p', .str q', .bool f']] (.int .i64 (Yr e a b c p q f e' a' b' c' p' q' f')) := by
 refine Ok.ofT Z5 Tryd.func94 Qrm (Nat.le_of_ble_eq_true Z) ?_
 show TW _ _ tf94.body _ _
 refine Qe fun K hK => ZO Z Z Z (ZO Z Z Z (Qb Z (hK _ _ (Qa (kp2 Z Z) ?_))))
 refine QH ?_ -- 0
 refine Qe fun K hK => QF (cs := [_, _, _, _, _, _, _]) Z Z Z Z (Qy (Qbq (by omega) (by omega)) Z Z (.inr Z) (ZP Z (Qb Z ?_)))
 refine Qw (g := 9) Z (fun h1 => ?_) (fun h1 => ?_)
 ·try rw [h1]
  try simp only [qB] at h1
  refine Qr Z (Qr Z (Qr Z (Qi Z Z (hK _ _ (Qa (kp3 Z Z Z) ?_)))))
  refine Zl Z (Qe fun K hK => Qb Z (hK _ _ (Qa (kp1 Z) ?_)))
  refine Qq (Qj (Qs Z ?_))
  (repeat clear hK K); first | (simp [Yr, h1]; done) | exact (Qak (by assumption) (by assumption) (by first | (left; assumption) | (right; assumption))).symm | (simp_all [Yr]; done)
 ·try rw [h1]
  try simp only [qB] at h1
  refine Qg Z (QF (cs := [_, _, _, _, _, _, _]) Z Z Z Z (Qg Z (Qy (Qbq (by omega) (by omega)) Z Z (.inr Z) (Qg Z (ZP Z (Qi Z Z (hK _ _ (Qa (kp3 Z Z Z) ?_))))))))
  refine QB Z (fun h2 => ?_) (fun h2 => ?_)
  ·try rw [h2]
   try simp only [qB] at h2
   refine Qe fun K hK => Qb Z (hK _ _ (Qa (kp1 Z) ?_))
   refine Qq (Qj (Qs Z ?_))
   (repeat clear hK K); first | (simp [Yr, h1, h2]; done) | exact (Qak (by assumption) (by assumption) (by first | (left; assumption) | (right; assumption))).symm | (simp_all [Yr]; done)
  ·try rw [h2]
   try simp only [qB] at h2
   refine Qe fun K hK => Qh Z Z (QE Z Z Z (YP Z Z (Qb Z ?_)))
   refine Qw (g := 17) Z (fun h3 => ?_) (fun h3 => ?_)
   ·try rw [h3]
    try simp only [qB] at h3
    refine Qr Z (Qr Z (Qr Z (Qi Z Z (hK _ _ (Qa (kp3 Z Z Z) ?_)))))
    refine Zl Z (Qe fun K hK => Qh Z Z (QE Z Z Z (Qh Z Z (QE Z Z Z (Qy (ZH) Z Z (.inr Z) (Qb Z (hK _ _ (Qa (kp1 Z) ?_))))))))
    refine Qq (Qj (Qs Z ?_))
    (repeat clear hK K); first | (simp [Yr, h1, h2, h3]; done) | exact (Qak (by assumption) (by assumption) (by first | (left; assumption) | (right; assumption))).symm | (simp_all [Yr]; done)
   ·try rw [h3]
    try simp only [qB] at h3
    refine Qg Z (Qh Z Z (Qg Z (QE Z Z Z (Qg Z (YP Z Z (Qi Z Z (hK _ _ (Qa (kp3 Z Z Z) ?_))))))))
    refine QB Z (fun h4 => ?_) (fun h4 => ?_)
    ·try rw [h4]
     try simp only [qB] at h4
     refine Qe fun K hK => Qh Z Z (QE Z Z Z (Qh Z Z (QE Z Z Z (Qy (ZH) Z Z (.inr Z) (Qb Z (hK _ _ (Qa (kp1 Z) ?_)))))))
     refine Qq (Qj (Qs Z ?_))
     (repeat clear hK K); first | (simp [Yr, h1, h2, h3, h4]; done) | exact (Qak (by assumption) (by assumption) (by first | (left; assumption) | (right; assumption))).symm | (simp_all [Yr]; done)
    ·try rw [h4]
     try simp only [qB] at h4
     refine Qe fun K hK => Qh Z Z (QF (cs := [_, _, _, _, _]) Z Z Z Z (Qh Z Z (QF (cs := [_, _, _, _, _]) Z Z Z Z (Qy (QaF (by omega) (by omega) (by omega) (by omega)) Z Z (.inr Z) (Qb Z (hK _ _ (Qa (kp3 Z Z Z) ?_)))))))
     refine Qe fun K hK => Qb Z (YP Z Z (hK _ _ (Qa (kp4 Z Z Z Z) ?_)))
     refine QB Z (fun h5 => ?_) (fun h5 => ?_)
     ·try rw [h5]
      try simp only [qB] at h5
      refine Qe fun K hK => Qb Z (Qb Z (hK _ _ (Qa (kp1 Z) ?_)))
      refine Qq (Qj (Qs Z ?_))
      (repeat clear hK K); first | (simp [Yr, h1, h2, h3, h4, h5]; done) | exact (Qak (by assumption) (by assumption) (by first | (left; assumption) | (right; assumption))).symm | (simp_all [Yr]; done)
     ·try rw [h5]
      try simp only [qB] at h5
      refine Qe fun K hK => Qh Z Z (QE Z Z Z (Qh Z Z (QE Z Z Z (Qnl Z Z (hK _ _ (Qa (kp2 Z Z) ?_))))))
      refine QB Z (fun h6 => ?_) (fun h6 => ?_)
      ·try rw [h6]
       try simp only [qB] at h6
       refine Qe fun K hK => Qb Z (hK _ _ (Qa (kp1 Z) ?_))
       refine Qq (Qj (Qs Z ?_))
       (repeat clear hK K); first | (simp [Yr, h1, h2, h3, h4, h5, h6]; done) | exact (Qak (by assumption) (by assumption) (by first | (left; assumption) | (right; assumption))).symm | (simp_all [Yr]; done)
      ·try rw [h6]
       try simp only [qB] at h6
       refine Qe fun K hK => Qh Z Z (QE Z Z Z (hK _ _ (Qa (kp1 Z) ?_)))
       refine QB Z (fun h7 => ?_) (fun h7 => ?_)
       ·try rw [h7]
        try simp only [qB] at h7
        refine Qe fun K hK => Qb Z (hK _ _ (Qa (kp1 Z) ?_))
        refine Qq (Qj (Qs Z ?_))
        (repeat clear hK K); first | (simp [Yr, h1, h2, h3, h4, h5, h6, h7]; done) | exact (Qak (by assumption) (by assumption) (by first | (left; assumption) | (right; assumption))).symm | (simp_all [Yr]; done)
       ·try rw [h7]
        try simp only [qB] at h7
        refine Qx (Qf (QV) (Qe fun K hK => Qb Z (hK _ _ (Qa (kp1 Z) ?_))))
        refine Qq (Qs Z ?_)
        (repeat clear hK K); first | (simp [Yr, h1, h2, h3, h4, h5, h6, h7]; done) | exact (Qak (by assumption) (by assumption) (by first | (left; assumption) | (right; assumption))).symm | (simp_all [Yr]; done)
theorem QeG {e a b c : Int} {p q : List UInt8} {f : Bool} (hp : p.length <= 1000000) (hq : q.length <= 1000000) {a' b' c' : Int} {p' q' : List UInt8} (hp' : p'.length <= 1000000) (hq' : q'.length <= 1000000) : Ok Tryd.prog 98 [.agg [.int .i64 e, .int .i64 a, .int .i64 b, .int .i64 c, .str p, .str q, .bool f], .agg [.int .i64 a', .int .i64 b', .int .i64 c', .str p', .str q']] (.bool (X8 e a b c p q f a' b' c' p' q')) := by
 refine Ok.ofT Z5 Tryd.func98 Qrq (Nat.le_of_ble_eq_true Z) ?_
 show TW _ _ tf98.body _ _
 refine Qe fun K hK => ZO Z Z Z (ZO Z Z Z (Qb Z (hK _ _ (Qa (kp2 Z Z) ?_))))
 refine QH ?_ -- 0
 refine Qe fun K hK => QF (cs := [_, _, _, _, _, _, _]) Z Z Z Z (Qy (Qbq (by omega) (by omega)) Z Z (.inr Z) (ZP Z (Qb Z ?_)))
 refine Qw (g := 9) Z (fun h1 => ?_) (fun h1 => ?_)
 ·try rw [h1]
  try simp only [qB] at h1
  refine Qr Z (Qr Z (Qr Z (Qi Z Z (hK _ _ (Qa (kp3 Z Z Z) ?_)))))
  refine Zl Z (Qe fun K hK => Qb Z (hK _ _ (Qa (kp1 Z) ?_)))
  refine Qq (Qj (Qn Z ?_))
  (repeat clear hK K); first | (simp [X8, h1]; done) | (simp_all [X8]; done)
 ·try rw [h1]
  try simp only [qB] at h1
  refine Qg Z (QF (cs := [_, _, _, _, _]) Z Z Z Z (Qg Z (Qy (YG (by omega) (by omega)) Z Z (.inr Z) (Qg Z (ZP Z (Qi Z Z (hK _ _ (Qa (kp3 Z Z Z) ?_))))))))
  refine QB Z (fun h2 => ?_) (fun h2 => ?_)
  ·try rw [h2]
   try simp only [qB] at h2
   refine Qe fun K hK => Qb Z (hK _ _ (Qa (kp1 Z) ?_))
   refine Qq (Qj (Qn Z ?_))
   (repeat clear hK K); first | (simp [X8, h1, h2]; done) | (simp_all [X8]; done)
  ·try rw [h2]
   try simp only [qB] at h2
   refine Qe fun K hK => Qh Z Z (QE Z Z Z (YP Z Z (hK _ _ (Qa (kp3 Z Z Z) ?_))))
   refine QB Z (fun h3 => ?_) (fun h3 => ?_)
   ·try rw [h3]
    try simp only [qB] at h3
    refine Qe fun K hK => Qh Z Z (QE Z Z Z (Y0 Z Z (Qb Z (hK _ _ (Qa (kp1 Z) ?_)))))
    refine Qq (Qj (Qn Z ?_))
    (repeat clear hK K); first | (simp [X8, h1, h2, h3]; done) | (simp_all [X8]; done)
   ·try rw [h3]
    try simp only [qB] at h3
    refine Qx (Qf (kp2 Z Z) (Qe fun K hK => Qh Z Z (QF (cs := [_, _, _, _, _]) Z Z Z Z (QF (cs := [_, _, _, _, _]) Z Z Z Z (Qy (QaF (by omega) (by omega) (by omega) (by omega)) Z Z (.inr Z) (Qb Z (hK _ _ (Qa (kp2 Z Z) ?_))))))))
    refine Qe fun K hK => Qb Z (Y0 Z Z (Qb Z ?_))
    refine Qw (g := 26) Z (fun h4 => ?_) (fun h4 => ?_)
    ·try rw [h4]
     try simp only [qB] at h4
     refine Qr Z (Qr Z (Qr Z (QG Z (QG Z (QG Z (Qr Z (Qi Z Z (Qb Z (hK _ _ (Qa (kp1 Z) ?_))))))))))
     refine Qq (Qn Z ?_)
     (repeat clear hK K); first | (simp [X8, h1, h2, h3, h4]; done) | (simp_all [X8]; done)
    ·try rw [h4]
     try simp only [qB] at h4
     refine Qg Z (Qb Z (Qg Z (Yy Z Z (Qg Z (Qb Z ?_)))))
     refine Qw (g := 29) Z (fun h5 => ?_) (fun h5 => ?_)
     ·try rw [h5]
      try simp only [qB] at h5
      refine Qg Z (Qh Z Z (Qg Z (QE Z Z Z (Qg Z (ZP Z (Qg Z (Qi Z Z (Qi Z Z (Qb Z (hK _ _ (Qa (kp1 Z) ?_)))))))))))
      refine Qq (Qn Z ?_)
      (repeat clear hK K); first | (simp [X8, h1, h2, h3, h4, h5]; done) | (simp_all [X8]; done)
     ·try rw [h5]
      try simp only [qB] at h5
      refine Qr Z (Qr Z (Qr Z (Qg Z (Qi Z Z (Qi Z Z (Qb Z (hK _ _ (Qa (kp1 Z) ?_))))))))
      refine Qq (Qn Z ?_)
      (repeat clear hK K); first | (simp [X8, h1, h2, h3, h4, h5]; done) | (simp_all [X8]; done)
theorem QcV {e a b c : Int} {p q : List UInt8} {f : Bool} (hp : p.length <= 1000000) (hq : q.length <= 1000000) {e' a' b' c' : Int} {p' q' : List UInt8} {f' : Bool} (hp' : p'.length <= 1000000) (hq' : q'.length <= 1000000) : Ok Tryd.prog 93 [.agg [.int .i64 e, .int .i64 a, .int .i64 b, .int .i64 c, .str p, .str q, .bool f, .int .i64 e', .int .i64 a', .int .i64 b', .int .i64 c', .str p', .str q', .bool f']] (.bool (QbG e a b c p q f e' a' b' c' p' q' f')) := by
 refine Ok.ofT Z5 Tryd.func93 Qrl (Nat.le_of_ble_eq_true Z) ?_
 show TW _ _ tf93.body _ _
 refine Qe fun K hK => ZO Z Z Z (Qb Z (hK _ _ (Qa (kp1 Z) ?_)))
 refine Qe fun K hK => Qh Z Z (QF (cs := [_, _, _, _, _, _, _]) Z Z Z Z (Qy (Qbq (by omega) (by omega)) Z Z (.inr Z) (Qb Z ?_)))
 refine Qw (g := 6) Z (fun h1 => ?_) (fun h1 => ?_)
 ·try rw [h1]
  try simp only [qB] at h1
  refine Qg Z (Qh Z Z (Qg Z (QF (cs := [_, _, _, _, _, _, _]) Z Z Z Z (Qg Z (Qy (Qbq (by omega) (by omega)) Z Z (.inr Z) (Qi Z Z (Qb Z ?_)))))))
  refine Qw (g := 11) Z (fun h2 => ?_) (fun h2 => ?_)
  ·try rw [h2]
   try simp only [qB] at h2
   refine Qg Z (Qh Z Z (Qg Z (QF (cs := [_, _, _, _, _, _, _]) Z Z Z Z (Qg Z (Qh Z Z (Qg Z (QF (cs := [_, _, _, _, _, _, _]) Z Z Z Z (Qg Z (Qy (QcU (by omega) (by omega) (by omega) (by omega)) Z Z (.inr Z) (Qg Z (Y0 Z Z ?_)))))))))))
   refine Qi Z Z (Qb Z (hK _ _ (Qa (kp1 Z) ?_)))
   refine Qq (Qn Z ?_)
   (repeat clear hK K); first | (simp [QbG, h1, h2]; done) | (simp_all [QbG]; done)
  ·try rw [h2]
   try simp only [qB] at h2
   refine Qr Z (Qr Z (Qr Z (Qr Z (Qr Z (Qr Z (Qi Z Z (Qb Z (hK _ _ (Qa (kp1 Z) ?_)))))))))
   refine Qq (Qn Z ?_)
   (repeat clear hK K); first | (simp [QbG, h1, h2]; done) | (simp_all [QbG]; done)
 ·try rw [h1]
  try simp only [qB] at h1
  refine Qr Z (Qr Z (Qr Z (Qi Z Z (Qb Z (Qr Z (Qr Z (Qr Z (Qr Z (Qr Z (Qr Z (Qi Z Z ?_)))))))))))
  refine Qb Z (hK _ _ (Qa (kp1 Z) ?_))
  refine Qq (Qn Z ?_)
  (repeat clear hK K); first | (simp [QbG, h1]; done) | (simp_all [QbG]; done)
theorem Qim {e a b c : Int} {p q : List UInt8} {f : Bool} (hp : p.length <= 1000000) (hq : q.length <= 1000000) {e' a' b' c' : Int} {p' q' : List UInt8} {f' : Bool} (hp' : p'.length <= 1000000) (hq' : q'.length <= 1000000) {x y z : Int} {r s : List UInt8} (hr : r.length <= 1000000) (hs : s.length <= 1000000) : Ok Tryd.prog 82 [.agg [.int .i64 e, .int .i64 a, .int .i64 b, .int .i64 c, .str p, .str q, .bool f, .int .i64 e', .int .i64 a', .int .i64 b', .int .i64 c', .str p', .str q', .bool f'], .agg [.int .i64 x, .int .i64 y, .int .i64 z, .str r, .str s]] (.bool (Qcp e a b c p q f e' a' b' c' p' q' f' x y z r s)) := by
 refine Ok.ofT Z5 Tryd.func82 Qrb (Nat.le_of_ble_eq_true Z) ?_
 show TW _ _ tf82.body _ _
 refine Qe fun K hK => ZO Z Z Z (ZO Z Z Z (Qb Z (hK _ _ (Qa (kp2 Z Z) ?_))))
 refine Qe fun K hK => QF (cs := [_, _, _, _, _, _, _, _, _, _, _, _, _, _]) Z Z Z Z (Qy (QcV (by omega) (by omega) (by omega) (by omega)) Z Z (.inr Z) (Qb Z ?_))
 refine Qw (g := 7) Z (fun h1 => ?_) (fun h1 => ?_)
 ·try rw [h1]
  try simp only [qB] at h1
  refine Qg Z (QF (cs := [_, _, _, _, _]) Z Z Z Z (Qg Z (Qy (YG (by omega) (by omega)) Z Z (.inr Z) (Qi Z Z (Qb Z ?_)))))
  refine Qw (g := 11) Z (fun h2 => ?_) (fun h2 => ?_)
  ·try rw [h2]
   try simp only [qB] at h2
   refine Qg Z (Qh Z Z (Qg Z (QF (cs := [_, _, _, _, _, _, _]) Z Z Z Z (Qg Z (QF (cs := [_, _, _, _, _]) Z Z Z Z (Qg Z (Qy (QeG (by omega) (by omega) (by omega) (by omega)) Z Z (.inr Z) (Qi Z Z (Qb Z ?_)))))))))
   refine Qw (g := 17) Z (fun h3 => ?_) (fun h3 => ?_)
   ·try rw [h3]
    try simp only [qB] at h3
    refine Qg Z (Qh Z Z (Qg Z (QF (cs := [_, _, _, _, _, _, _]) Z Z Z Z (Qg Z (QF (cs := [_, _, _, _, _]) Z Z Z Z (Qg Z (Qy (QeG (by omega) (by omega) (by omega) (by omega)) Z Z (.inr Z) (Qg Z (ZP Z (Qi Z Z (Qb Z ?_)))))))))))
    refine hK _ _ (Qa (kp1 Z) ?_)
    refine Qq (Qn Z ?_)
    (repeat clear hK K); first | (simp [Qcp, h1, h2, h3]; done) | (simp_all [Qcp]; done)
   ·try rw [h3]
    try simp only [qB] at h3
    refine Qr Z (Qr Z (Qr Z (Qr Z (Qr Z (Qi Z Z (Qb Z (hK _ _ (Qa (kp1 Z) ?_))))))))
    refine Qq (Qn Z ?_)
    (repeat clear hK K); first | (simp [Qcp, h1, h2, h3]; done) | (simp_all [Qcp]; done)
  ·try rw [h2]
   try simp only [qB] at h2
   refine Qr Z (Qr Z (Qr Z (Qr Z (Qi Z Z (Qb Z (Qr Z (Qr Z (Qr Z (Qr Z (Qr Z (Qi Z Z ?_)))))))))))
   refine Qb Z (hK _ _ (Qa (kp1 Z) ?_))
   refine Qq (Qn Z ?_)
   (repeat clear hK K); first | (simp [Qcp, h1, h2]; done) | (simp_all [Qcp]; done)
 ·try rw [h1]
  try simp only [qB] at h1
  refine Qr Z (Qr Z (Qi Z Z (Qb Z (Qr Z (Qr Z (Qr Z (Qr Z (Qi Z Z (Qb Z (Qr Z (Qr Z ?_)))))))))))
  refine Qr Z (Qr Z (Qr Z (Qi Z Z (Qb Z (hK _ _ (Qa (kp1 Z) ?_))))))
  refine Qq (Qn Z ?_)
  (repeat clear hK K); first | (simp [Qcp, h1]; done) | (simp_all [Qcp]; done)
end Go.Proofs
namespace M3
open Go Go.Abs
end M3
namespace M3
open Go Go.Abs
end M3
namespace M3
open Go Go.Abs
end M3
namespace M25
open Go Go.Abs M3
def QdX (a b c : Int) : Bool := decide (a = 0) && decide (b = 0) && decide (c = 0)
def XU (a b c : Int) (p q : List UInt8) (part : Int) : Option (Int × Int × Int) :=
 if Qa6 a b c p q = false \/ part < 0 \/ 2 < part then none
 else
  let o := if part = 0 then (a + 1, 0, 0) else if part = 1 then (a, b + 1, 0) else (a, b, c + 1)
  if Qa6 o.1 o.2.1 o.2.2 [] [] = true then some o else none
def dOV (o : Option (Int × Int × Int)) : D := .tup [.agg [.int .i64 (o.getD (0, 0, 0)).1, .int .i64 (o.getD (0, 0, 0)).2.1, .int .i64 (o.getD (0, 0, 0)).2.2, .str [], .str []], .bool o.isSome]
def Xy (a b c : Int) (p q : List UInt8) : Nat -> Option (Int × Int × Int)
 | 0 => none
 | n + 1 => if (XU a b c p q n).isSome = true then XU a b c p q n else Xy a b c p q n
def QhO (a b c : Int) (p q : List UInt8) : Option (Int × Int × Int) :=
 if Qa6 a b c p q = false then none else if p ≠ [] then some (a, b, c) else Xy a b c p q 3
theorem Qb0 {a b c : Int} {p q : List UInt8} (h : Qa6 a b c p q = true) : (0 <= a /\ a <= 9999) /\ (0 <= b /\ b <= 9999) /\ (0 <= c /\ c <= 9999) := by
 simp only [Qa6, Qfx, Bool.and_eq_true, decide_eq_true_eq] at h
 omega
theorem Qil {a b c : Int} {p q : List UInt8} {m : Nat} (hm : 0 < m) (h : (XU a b c p q ((m : Int) - 1)).isSome = false) : Xy a b c p q m = Xy a b c p q (m - 1) := by
 obtain ⟨n, rfl⟩ : ∃ n, m = n + 1 := ⟨m - 1, by omega⟩
 rw [show ((n + 1 : Nat) : Int) - 1 = (n : Int) by omega] at h
 rw [Xy, if_neg (by rw [h]; simp)]; rfl
theorem Qhl {a b c : Int} {p q : List UInt8} {m : Nat} (hm : 0 < m) (h : (XU a b c p q ((m : Int) - 1)).isSome = true) : Xy a b c p q m = XU a b c p q ((m : Int) - 1) := by
 obtain ⟨n, rfl⟩ : ∃ n, m = n + 1 := ⟨m - 1, by omega⟩
 rw [show ((n + 1 : Nat) : Int) - 1 = (n : Int) by omega] at h ⊢
 rw [Xy, if_pos h]
def dCu (x : Cu) : List D := [.int .i64 x.e, .int .i64 x.a, .int .i64 x.b, .int .i64 x.c, .str x.p, .str x.q, .bool x.f]
def Qd4 (s : Cu × Cu) : List D := dCu s.1 ++ dCu s.2
def Zg (l : List (Cu × Cu)) : D := .sl (l.map Qd4)
def Qfp (s : List (Cu × Cu) × List (Cu × Cu)) : D := .agg [Zg s.1, Zg s.2]
def Qcl : Cu := ⟨-1, 0, 0, 0, [], [], false⟩
def Qfw : Cu := ⟨1, 0, 0, 0, [], [], false⟩
def Qe8 (a b c : Int) : Cu := if QdX a b c = true then Qcl else ⟨0, a, b, c, [], [], false⟩
def Qdg (a b c : Int) : Cu := match QhO a b c [] [] with
 | none => Qfw
 | some o => ⟨0, o.1, o.2.1, o.2.2, [], [], false⟩
def YX (a b c : Int) (p q : List UInt8) : List (Cu × Cu) × List (Cu × Cu) :=
 if Qa6 a b c p q = false then ([], []) else if p ≠ [] then ([], [(⟨0, a, b, c, p, [], false⟩, ⟨0, a, b, c, p, [], true⟩)]) else ([(Qe8 a b c, Qdg a b c)], [])
def QdY (e a b c : Int) (p q : List UInt8) (f : Bool) : Bool := !decide (e = 0) || (!f && decide (p = []) && !QdX a b c)
def Cu.sm (x : Cu) : Prop := x.p.length <= 1000000 /\ x.q.length <= 1000000
def Sm (l : List (Cu × Cu)) : Prop := l.length <= 1000000 /\ ∀ s ∈ l, Cu.sm s.1 /\ Cu.sm s.2
theorem Sm.at {l : List (Cu × Cu)} (h : Sm l) {i : Nat} (hi : i < l.length) : (l[i].1.p.length <= 1000000 /\ l[i].1.q.length <= 1000000) /\ (l[i].2.p.length <= 1000000 /\ l[i].2.q.length <= 1000000) := h.2 _ (List.getElem_mem hi)
def Qcq (s : Cu × Cu) : Bool := QbG s.1.e s.1.a s.1.b s.1.c s.1.p s.1.q s.1.f s.2.e s.2.a s.2.b s.2.c s.2.p s.2.q s.2.f
def Qa5 (x y : Cu) : Int := Yr x.e x.a x.b x.c x.p x.q x.f y.e y.a y.b y.c y.p y.q y.f
def QnY (l : List (Cu × Cu)) (i : Nat) : Bool := match l[i]? with
 | none => true
 | some s => Qcq s && (decide (i = 0) || match l[i - 1]? with | none => true | some r => decide (Qa5 r.2 s.1 < 0))
theorem QiE {l : List (Cu × Cu)} {i : Nat} (h : i < l.length) : QnY l i = (Qcq l[i] && (decide (i = 0) || decide (Qa5 (l[i - 1]'(by omega)).2 l[i].1 < 0))) := by
 unfold QnY
 rw [List.getElem?_eq_getElem h, List.getElem?_eq_getElem (show i - 1 < l.length by omega)]
theorem QjA {l : List (Cu × Cu)} {i : Nat} (h : i < l.length) (h1 : Qcq l[i] = true) (h2 : i = 0 \/ Qa5 (l[i - 1]'(by omega)).2 l[i].1 < 0) : QnY l i = true := by
 rw [QiE h, h1]; simpa using h2
theorem Qbf {l : List (Cu × Cu)} {i : Nat} (h : i < l.length) (h1 : Qcq l[i] = false \/ (i ≠ 0 /\ 0 <= Qa5 (l[i - 1]'(by omega)).2 l[i].1)) : QnY l i = false := by
 rw [QiE h]
 rcases h1 with h1 | ⟨h1, h2⟩
 ·rw [h1]; rfl
 ·simp only [Bool.and_eq_false_iff, Bool.or_eq_false_iff, decide_eq_false_iff_not]
  exact .inr ⟨h1, by omega⟩
def Qbk (l : List (Cu × Cu)) : Bool := (List.range l.length).all (QnY l)
theorem Y4 {n i : Nat} {p : Nat -> Bool} (h : i < n) (hp : p i = false) : (List.range n).all p = false := by
 rw [Bool.eq_false_iff]; intro ha
 rw [List.all_eq_true] at ha
 rw [ha i (List.mem_range.2 h)] at hp; cases hp
theorem Qeq {i : Nat} {p : Nat -> Bool} (h : (List.range i).all p = true) (hp : p i = true) : (List.range (i + 1)).all p = true := by
 rw [List.range_succ, List.all_append, h]; simp [hp]
theorem Qb3 {i : Nat} {p : Nat -> Bool} {n : Nat} (h : (List.range i).all p = true) (hn : n <= i) : (List.range n).all p = true := by
 rw [List.all_eq_true] at h ⊢
 exact fun x hx => h x (List.mem_range.2 (Nat.lt_of_lt_of_le (List.mem_range.1 hx) hn))
def QgH (s : Cu × Cu) (a b c : Int) (p q : List UInt8) : Bool := Qcp s.1.e s.1.a s.1.b s.1.c s.1.p s.1.q s.1.f s.2.e s.2.a s.2.b s.2.c s.2.p s.2.q s.2.f a b c p q
def QgG (l : List (Cu × Cu)) (a b c : Int) (p q : List UInt8) : Bool := Qbk l && l.any fun s => QgH s a b c p q
theorem Qgw {l : List (Cu × Cu)} {a b c : Int} {p q : List UInt8} {i : Nat} (hi : l.length <= i) (h : (l.take i).any (fun s => QgH s a b c p q) = false) : QgG l a b c p q = false := by
 rw [List.take_of_length_le hi] at h; rw [QgG, h, Bool.and_false]
theorem Qgx {l : List (Cu × Cu)} {a b c : Int} {p q : List UInt8} (h : Qbk l = false) : QgG l a b c p q = false := by rw [QgG, h]; rfl
theorem Qgy {l : List (Cu × Cu)} {a b c : Int} {p q : List UInt8} {i : Nat} (h : Qbk l = true) (hi : i < l.length) (hp : QgH l[i] a b c p q = true) : QgG l a b c p q = true := by
 rw [QgG, h, Bool.true_and]; exact List.any_eq_true.2 ⟨_, List.getElem_mem hi, hp⟩
def inC (x y : Cu) (s : Cu × Cu) : Bool := decide (Qa5 s.1 x <= 0) && decide (Qa5 y s.2 <= 0)
theorem QoP {x y : Cu} {s : Cu × Cu} (h1 : Qa5 s.1 x <= 0) (h2 : Qa5 y s.2 <= 0) : inC x y s = true := by simp [inC, h1, h2]
theorem QoO {x y : Cu} {s : Cu × Cu} (h : ¬ Qa5 s.1 x <= 0 \/ ¬ Qa5 y s.2 <= 0) : inC x y s = false := by
 simp only [inC, Bool.and_eq_false_iff, decide_eq_false_iff_not]; exact h
def mIn (l : List (Cu × Cu)) (x y : Cu) : Bool := l.any (inC x y)
theorem Qkt {α : Type} {s : List α} {p : α -> Bool} {i : Nat} (h : i < s.length) (hp : p s[i] = true) : s.any p = true := List.any_eq_true.2 ⟨_, List.getElem_mem h, hp⟩
theorem QmO {α : Type} {s : List α} {p : α -> Bool} {i : Nat} (hi : s.length <= i) (h : (s.take i).any p = false) : s.any p = false := by rwa [List.take_of_length_le hi] at h
theorem Qks {α : Type} {s : List α} {p : α -> Bool} {i : Nat} (h : i < s.length) (ha : (s.take i).any p = false) (hp : p s[i] = false) : (s.take (i + 1)).any p = false := by
 rw [List.take_succ_eq_append_getElem h, List.any_append, ha]; simp [hp]
def Xb (x : Cu) : Bool := QdY x.e x.a x.b x.c x.p x.q x.f
def QcF (s : List (Cu × Cu) × List (Cu × Cu)) : Bool := Qbk s.1 && Qbk s.2 && s.1.all fun x => Xb x.1 && Xb x.2
def Qj7 (s : List (Cu × Cu) × List (Cu × Cu)) (a b c : Int) (p q : List UInt8) : Bool :=
 QcF s && Qa6 a b c p q && (if p = [] then QgG s.1 a b c p q else QgG s.2 a b c p q)
theorem Qaz {s : List (Cu × Cu) × List (Cu × Cu)} (h : Qbk s.1 = false \/ Qbk s.2 = false) : QcF s = false := by
 rw [QcF]; rcases h with h | h <;> simp [h]
theorem X9 {s : List (Cu × Cu) × List (Cu × Cu)} {i : Nat} (hi : i < s.1.length) (h : Xb s.1[i].1 = false \/ Xb s.1[i].2 = false) : QcF s = false := by
 have : (s.1.all fun x => Xb x.1 && Xb x.2) = false := Yf hi (by rcases h with h | h <;> simp [h])
 rw [QcF, this, Bool.and_false]
theorem Qdl {s : List (Cu × Cu) × List (Cu × Cu)} {i : Nat} (h1 : Qbk s.1 = true) (h2 : Qbk s.2 = true) (hi : s.1.length <= i) (h : (s.1.take i).all (fun x => Xb x.1 && Xb x.2) = true) : QcF s = true := by
 rw [List.take_of_length_le hi] at h
 rw [QcF, h1, h2, h]; rfl
def Qgk (l : List Cu) : D := .sl (l.map dCu)
theorem QhZ {l : List Cu} : ∀ r ∈ l.map dCu, r.length = 7 := fun r hr => by obtain ⟨x, _, rfl⟩ := List.mem_map.1 hr; rfl
theorem QmB {l : List Cu} {a b : Nat} : ∀ r ∈ ((l.map dCu).take a).drop b, r.length = 7 := fun r hr => QhZ r (List.mem_of_mem_take (List.mem_of_mem_drop hr))
def QbF : List Cu -> Cu -> List Cu
 | [], c => [c]
 | x :: r, c => if Qa5 x c < 0 then x :: QbF r c else if Qa5 x c = 0 then x :: r else c :: x :: r
theorem Qlf {l : List Cu} {c : Cu} {k : Nat} (hk : k < l.length) (h : Qa5 l[k] c < 0) (hi : QbF l c = l.take k ++ QbF (l.drop k) c) : QbF l c = l.take (k + 1) ++ QbF (l.drop (k + 1)) c := by
 rw [hi, List.drop_eq_getElem_cons hk, QbF, if_pos h, List.take_succ_eq_append_getElem hk, List.append_assoc]; rfl
theorem Qle {l : List Cu} {c : Cu} {k : Nat} (hk : k < l.length) (h : Qa5 l[k] c = 0) (hi : QbF l c = l.take k ++ QbF (l.drop k) c) : QbF l c = l := by
 rw [hi, List.drop_eq_getElem_cons hk, QbF, if_neg (by omega), if_pos h, <- List.drop_eq_getElem_cons hk, List.take_append_drop]
theorem Qjv {l : List Cu} {c : Cu} {k : Nat} (h : l.length <= k \/ ∃ hk : k < l.length, ¬ Qa5 l[k] c < 0 /\ Qa5 l[k] c ≠ 0) (hi : QbF l c = l.take k ++ QbF (l.drop k) c) : QbF l c = l.take k ++ c :: l.drop k := by
 rw [hi]
 rcases h with h | ⟨hk, h1, h2⟩
 ·rw [List.drop_eq_nil_of_le h, QbF]
 ·rw [List.drop_eq_getElem_cons hk, QbF, if_neg h1, if_neg h2]
theorem Qek : ∀ (l : List Cu) (c : Cu), (QbF l c).length <= l.length + 1
 | [], c => by simp [QbF]
 | x :: r, c => by
  have := Qek r c
  simp only [QbF]
  (repeat' split) <;> simp <;> omega
theorem QgJ : ∀ {l : List Cu} {c : Cu}, (∀ x ∈ l, Cu.sm x) -> Cu.sm c -> ∀ x ∈ QbF l c, Cu.sm x
 | [], c, _, hc, x, hx => by simp [QbF] at hx; exact hx ▸ hc
 | y :: r, c, hl, hc, x, hx => by
  simp only [QbF] at hx
  split at hx
  ·rcases List.mem_cons.1 hx with rfl | hx
   ·exact hl _ (by simp)
   ·exact QgJ (fun z hz => hl z (by simp [hz])) hc x hx
  ·split at hx
   ·exact hl x hx
   ·rcases List.mem_cons.1 hx with rfl | hx
    ·exact hc
    ·exact hl x hx
def YK (l : List (Cu × Cu)) : List Cu := l.foldl (fun out s => QbF (QbF out s.1) s.2) [Qcl, Qfw]
theorem Qmo {l : List (Cu × Cu)} {i : Nat} (h : i < l.length) : YK (l.take (i + 1)) = QbF (QbF (YK (l.take i)) l[i].1) l[i].2 := by
 rw [List.take_succ_eq_append_getElem h, YK, List.foldl_append]; rfl
theorem QfX : ∀ (l : List (Cu × Cu)) (out : List Cu), (l.foldl (fun out s => QbF (QbF out s.1) s.2) out).length <= out.length + 2 * l.length
 | [], out => by simp
 | s :: l, out => by
  have h1 := Qek out s.1
  have h2 := Qek (QbF out s.1) s.2
  have := QfX l (QbF (QbF out s.1) s.2)
  simp only [List.foldl_cons, List.length_cons]; omega
theorem QbC (l : List (Cu × Cu)) : (YK l).length <= 2 + 2 * l.length := QfX l _
theorem QhL : ∀ {l : List (Cu × Cu)} {out : List Cu}, (∀ s ∈ l, Cu.sm s.1 /\ Cu.sm s.2) -> (∀ x ∈ out, Cu.sm x) -> ∀ x ∈ l.foldl (fun out s => QbF (QbF out s.1) s.2) out, Cu.sm x
 | [], _, _, h => h
 | s :: l, out, hl, h => by
  rw [List.foldl_cons]
  exact QhL (fun t ht => hl t (by simp [ht])) (QgJ (QgJ h (hl s (by simp)).1) (hl s (by simp)).2)
theorem Qjt {l : List (Cu × Cu)} (hl : ∀ s ∈ l, Cu.sm s.1 /\ Cu.sm s.2) : ∀ x ∈ YK l, Cu.sm x := QhL hl (by
 intro x hx
 simp only [List.mem_cons, List.not_mem_nil, or_false] at hx
 rcases hx with rfl | rfl <;> exact ⟨Nat.zero_le _, Nat.zero_le _⟩)
theorem Qei {l : List (Cu × Cu)} (hl : Sm l) (i : Nat) : (YK (l.take i)).length <= 2000002 /\ ∀ x ∈ YK (l.take i), Cu.sm x := by
 refine ⟨?_, Qjt fun s hs => hl.2 s (List.mem_of_mem_take hs)⟩
 have := QbC (l.take i)
 have h2 : (l.take i).length <= l.length := List.length_take_le' ..
 have := hl.1
 omega
def QbE (l : List (Cu × Cu)) (x y : Cu) : List (Cu × Cu) := match l.getLast? with
 | some s => if Qa5 s.2 x = 0 then l.dropLast ++ [(s.1, y)] else l ++ [(x, y)]
 | none => l ++ [(x, y)]
theorem QhM {l : List (Cu × Cu)} {x y : Cu} {i : Nat} (hi : i + 1 = l.length) (h : Qa5 (l[i]'(by omega)).2 x = 0) : QbE l x y = l.set i ((l[i]'(by omega)).1, y) := by
 have hg : l.getLast? = some (l[i]'(by omega)) := by
  rw [List.getLast?_eq_getElem?, show l.length - 1 = i by omega, List.getElem?_eq_getElem]
 rw [QbE, hg]
 simp only [h, if_true]
 rw [List.dropLast_eq_take, show l.length - 1 = i by omega, List.set_eq_take_append_cons_drop, if_pos (by omega), List.drop_eq_nil_of_le (by omega)]
theorem Qdj {l : List (Cu × Cu)} {x y : Cu} (h : l = [] \/ ∃ i, ∃ hi : i + 1 = l.length, Qa5 (l[i]'(by omega)).2 x ≠ 0) : QbE l x y = l ++ [(x, y)] := by
 rcases h with rfl | ⟨i, hi, h⟩
 ·rfl
 ·have hg : l.getLast? = some (l[i]'(by omega)) := by
   rw [List.getLast?_eq_getElem?, show l.length - 1 = i by omega, List.getElem?_eq_getElem]
  rw [QbE, hg]
  simp only [if_neg h]
theorem QhN (l : List (Cu × Cu)) (x y : Cu) : (QbE l x y).length <= l.length + 1 := by
 unfold QbE
 split
 ·split
  ·simp
  ·simp
 ·simp
theorem Qju {l : List (Cu × Cu)} {x y : Cu} (hl : ∀ s ∈ l, Cu.sm s.1 /\ Cu.sm s.2) (hx : Cu.sm x) (hy : Cu.sm y) : ∀ s ∈ QbE l x y, Cu.sm s.1 /\ Cu.sm s.2 := by
 intro s hs
 unfold QbE at hs
 split at hs
 ·rename_i t ht
  have ht' := List.mem_of_getLast? ht
  split at hs
  ·rcases List.mem_append.1 hs with hs | hs
   ·exact hl s (List.dropLast_subset _ hs)
   ·simp at hs; subst hs; exact ⟨(hl t ht').1, hy⟩
  ·rcases List.mem_append.1 hs with hs | hs
   ·exact hl s hs
   ·simp at hs; subst hs; exact ⟨hx, hy⟩
 ·rcases List.mem_append.1 hs with hs | hs
  ·exact hl s hs
  ·simp at hs; subst hs; exact ⟨hx, hy⟩
theorem Qjm {α β : Type} {l : List α} {f : α -> β} {i : Nat} (h : i + 1 < l.length) : (l.map f)[((i : Int) + 1).toNat]? = some (f l[i + 1]) := by
 rw [show ((i : Int) + 1).toNat = i + 1 by omega, List.getElem?_map, List.getElem?_eq_getElem h]; rfl
def QbD (f : Cu -> Cu -> Bool) : List Cu -> List (Cu × Cu) -> List (Cu × Cu)
 | x :: y :: r, out => QbD f (y :: r) (if f x y = true then QbE out x y else out)
 | _, out => out
def QiC (l : List (Cu × Cu)) : List (Cu × Cu) := if l.all Qcq = true then QbD (mIn l) (YK l) [] else []
theorem QfY {f : Cu -> Cu -> Bool} {c : List Cu} {out : List (Cu × Cu)} {i : Nat} (h : i + 1 < c.length) : QbD f (c.drop i) out = QbD f (c.drop (i + 1)) (if f c[i] c[i + 1] = true then QbE out c[i] c[i + 1] else out) := by
 rw [List.drop_eq_getElem_cons (show i < c.length by omega), List.drop_eq_getElem_cons h, QbD]
theorem Qld {f : Cu -> Cu -> Bool} {c : List Cu} {out : List (Cu × Cu)} {i : Nat} (h : c.length <= i + 1) : QbD f (c.drop i) out = out := by
 have : (c.drop i).length <= 1 := by simp; omega
 match hd : c.drop i with
 | [] => rfl
 | [x] => rfl
 | x :: y :: r => rw [hd] at this; simp at this
def FillI (f : Cu -> Cu -> Bool) (c : List Cu) (i : Nat) (out : List (Cu × Cu)) : Prop :=
 out.length <= i /\ (∀ s ∈ out, Cu.sm s.1 /\ Cu.sm s.2) /\ QbD f c [] = QbD f (c.drop i) out
theorem FillI.zero {f : Cu -> Cu -> Bool} {c : List Cu} : FillI f c 0 [] := ⟨Nat.zero_le _, by simp, by simp⟩
theorem FillI.take {f : Cu -> Cu -> Bool} {c : List Cu} {i : Nat} {out : List (Cu × Cu)} (h : FillI f c i out) (hc : ∀ x ∈ c, Cu.sm x) (hi : i + 1 < c.length) (ht : f c[i] c[i + 1] = true) : FillI f c (i + 1) (QbE out c[i] c[i + 1]) := by
 obtain ⟨h1, h2, h3⟩ := h
 refine ⟨Nat.le_trans (QhN ..) (by omega), Qju h2 (hc _ (List.getElem_mem _)) (hc _ (List.getElem_mem _)), ?_⟩
 rw [h3, QfY hi, if_pos ht]
theorem FillI.skip {f : Cu -> Cu -> Bool} {c : List Cu} {i : Nat} {out : List (Cu × Cu)} (h : FillI f c i out) (hi : i + 1 < c.length) (ht : f c[i] c[i + 1] = false) : FillI f c (i + 1) out := by
 obtain ⟨h1, h2, h3⟩ := h
 exact ⟨by omega, h2, by rw [h3, QfY hi, if_neg (by rw [ht]; simp)]⟩
theorem FillI.done {f : Cu -> Cu -> Bool} {c : List Cu} {i : Nat} {out : List (Cu × Cu)} (h : FillI f c i out) (hi : c.length <= i + 1) : QbD f c [] = out := by rw [h.2.2, Qld hi]
theorem Qpc {i : Nat} : ((i : Int) + 1).toNat = i + 1 := by omega
theorem Ys {l : List (Cu × Cu)} (hl : Sm l) : ∀ x ∈ YK l, Cu.sm x := Qjt hl.2
def Qm0 (a b : List (Cu × Cu)) : List (Cu × Cu) := if Qbk a = true /\ Qbk b = true then QiC (a ++ b) else []
def QiD (a : List (Cu × Cu)) : List (Cu × Cu) := if Qbk a = true then QbD (fun x y => !mIn a x y) (YK a) [] else []
theorem Qm5 {l : List (Cu × Cu)} : ∀ r ∈ l.map Qd4, r.length = 14 := fun r hr => by obtain ⟨x, _, rfl⟩ := List.mem_map.1 hr; rfl
theorem Sm.app {a b : List (Cu × Cu)} (ha : Sm a) (hb : Sm b) (h : a.length + b.length <= 1000000) : Sm (a ++ b) := by
 refine ⟨by simp; omega, fun s hs => ?_⟩
 rcases List.mem_append.1 hs with hs | hs
 ·exact ha.2 s hs
 ·exact hb.2 s hs
abbrev Qez := List (Cu × Cu) × List (Cu × Cu)
def Qm1 (a b : Qez) : Qez := if QcF a = true /\ QcF b = true then (Qm0 a.1 b.1, Qm0 a.2 b.2) else ([], [])
def QgI (a : Qez) : Qez := if QcF a = true then (QiD a.1, QiD a.2) else ([], [])
def mPl (v n : Int) : Int := if n < 1 then 0 else Qe9 v n
theorem Qf1 {v n : Int} : 0 <= mPl v n := by
 unfold mPl; split
 ·omega
 ·exact Qmx (by omega)
theorem Qf0 {v n : Int} (h : 1 <= n) : mPl v n < n := by
 rw [mPl, if_neg (by omega)]; exact Qmw (by omega)
def QlO (l : List Int) (i : Int) : Int := if i < 0 \/ (l.length : Int) <= i then i.tmod 3 else l.getD i.toNat 0
theorem Qlc {l : List Int} {i : Int} (h0 : 0 <= i) (h : i < l.length) : QlO l i = l[i.toNat]'(by omega) := by
 rw [QlO, if_neg (by omega), List.getD_eq_getElem?_getD, List.getElem?_eq_getElem (by omega)]; rfl
def I64 (x : Int) : Prop := -9223372036854775808 <= x /\ x <= 9223372036854775807
theorem Qmn {l : List Int} {i : Int} (hl : ∀ x ∈ l, I64 x) (hi : I64 i) : I64 (QlO l i) := by
 by_cases h : i < 0 \/ (l.length : Int) <= i
 ·rw [QlO, if_pos h]
  have h1 := Int.tmod_lt_of_pos i (show (0 : Int) < 3 by omega)
  have h2 := Int.lt_tmod_of_pos i (show (0 : Int) < 3 by omega)
  exact ⟨by omega, by omega⟩
 ·rw [Qlc (by omega) (by omega)]
  exact hl _ (List.getElem_mem _)
theorem Qdw (x : Int) : I64 (IntKind.i64.wrap x) := by
 unfold IntKind.wrap I64
 simp only [IntKind.bits, IntKind.signed, Bool.true_and]
 split
 ·rename_i h
  have := of_decide_eq_true h
  omega
 ·rename_i h
  have : ¬ (x % 2 ^ 64 >= 2 ^ (64 - 1)) := fun hh => h (decide_eq_true hh)
  omega
theorem QdJ {α : Type} {k : Nat} {v : α} {l : List (Nat × α)} : lk ((k, v) :: l) k = some v := by rw [Qm, if_pos rfl]
theorem Qeh {α : Type} {k : Nat} {v : α} {l : List (Nat × α)} : (lk ((k, v) :: l) k).isSome = true := by rw [QdJ]; rfl
def gB (L : List Int) (I : Int) (et : Nat) : Box := ⟨[[ZQ L, .int .i64 I]], 2, et, true⟩
def nxI (I : Int) : Int := IntKind.i64.wrap (I + 1)
def nx (L : List Int) (I n : Int) : Int := mPl (QlO L (IntKind.i64.wrap (nxI I - 1))) n
def QhQ (h m : Int) : Int := if Qa0 .and .i64 h m = h then 2 else if Qa0 .and .i64 h m = 0 then 0 else 1
def QbI (h m : Int) : Int := if Qa0 .andNot .i64 h m = 0 then 2 else if Qa0 .and .i64 h m = 0 then 0 else 1
theorem QiH {i : Nat} (h : i <= 62) : 1 <= (2 : Int) ^ i /\ (2 : Int) ^ i <= 4611686018427387904 := by
 have h1 : (2 : Nat) ^ i <= 2 ^ 62 := Nat.pow_le_pow_right (by omega) h
 have h2 : 1 <= (2 : Nat) ^ i := Nat.one_le_two_pow
 have h3 : ((2 ^ i : Nat) : Int) = (2 : Int) ^ i := by simp
 rw [<- h3]
 have h4 : (2 : Nat) ^ 62 = 4611686018427387904 := by decide
 omega
structure Vr where
 a : Int
 b : Int
 c : Int
 p : List UInt8
 q : List UInt8
def dVr (v : Vr) : List D := [.int .i64 v.a, .int .i64 v.b, .int .i64 v.c, .str v.p, .str v.q]
def Vr.sm (v : Vr) : Prop := v.p.length <= 100 /\ v.q.length <= 100
def versions : List Vr := [⟨1, 0, 0, [], []⟩, ⟨1, 2, 0, [], []⟩, ⟨2, 0, 0, [97, 46, 49], []⟩, ⟨2, 0, 0, [], []⟩]
theorem QiV : ∀ v ∈ versions, v.sm := by
 intro v hv
 simp only [versions, List.mem_cons, List.not_mem_nil, or_false] at hv
 rcases hv with rfl | rfl | rfl | rfl <;> exact ⟨by decide, by decide⟩
theorem XB {i : Nat} : ((i : Int) - 1).toNat = i - 1 := by omega
end M25
namespace Go.Proofs
open Go Go.Abs M3 M25
set_option linter.unusedVariables false
set_option linter.unusedSimpArgs false
theorem XZ {a b c : Int} {p q : List UInt8} : Ok Tryd.prog 71 [.agg [.int .i64 a, .int .i64 b, .int .i64 c, .str p, .str q]] (.agg [.int .i64 a, .int .i64 b, .int .i64 c, .str p, .str []]) := by
 refine Ok.ofT Z5 Tryd.func71 Qq0 (Nat.le_of_ble_eq_true Z) ?_
 show TW _ _ tf71.body _ _
 refine Qe fun K hK => ZO Z Z Z (ZE Z (hK _ _ (Qa (kp2 Z Z) ?_)))
 refine Qe fun K hK => Qh Z Z (QY Z Z Z Z Z Z Z Z (hK _ _ (Qa (kp2 Z Z) ?_)))
 refine Qe fun K hK => QF (cs := [_, _, _, _, _]) Z Z Z Z (QY Z Z Z Z Z Z Z Z (hK _ _ (Qa (kp1 Z) ?_)))
 refine Qq (Zw (cs := [_, _, _, _, _]) Z Z Z Z ?_)
 exact rfl
theorem YS  : Ok Tryd.prog 73 [] (.agg [.int .i64 (-1), .int .i64 0, .int .i64 0, .int .i64 0, .str [], .str [], .bool false]) := by
 refine Ok.ofT Z5 Tryd.func73 Qq2 (Nat.le_of_ble_eq_true Z) ?_
 show TW _ _ tf73.body _ _
 refine Qe fun K hK => ZE Z (hK _ _ (Qa (kp1 Z) ?_))
 refine Qe fun K hK => QX Z Z (QY Z Z Z Z Z Z Z Z (hK _ _ (Qa (kp1 Z) ?_)))
 refine Qq (Zw (cs := [_, _, _, _, _, _, _]) Z Z Z Z ?_)
 exact rfl
theorem Y8  : Ok Tryd.prog 75 [] (.agg [.int .i64 1, .int .i64 0, .int .i64 0, .int .i64 0, .str [], .str [], .bool false]) := by
 refine Ok.ofT Z5 Tryd.func75 Qq4 (Nat.le_of_ble_eq_true Z) ?_
 show TW _ _ tf75.body _ _
 refine Qe fun K hK => ZE Z (hK _ _ (Qa (kp1 Z) ?_))
 refine Qe fun K hK => QX Z Z (QY Z Z Z Z Z Z Z Z (hK _ _ (Qa (kp1 Z) ?_)))
 refine Qq (Zw (cs := [_, _, _, _, _, _, _]) Z Z Z Z ?_)
 exact rfl
theorem YB {a b c : Int} {p q : List UInt8} : Ok Tryd.prog 53 [.agg [.int .i64 a, .int .i64 b, .int .i64 c, .str p, .str q]] (.agg [.int .i64 0, .int .i64 a, .int .i64 b, .int .i64 c, .str p, .str [], .bool false]) := by
 refine Ok.ofT Z5 Tryd.func53 QqJ (Nat.le_of_ble_eq_true Z) ?_
 show TW _ _ tf53.body _ _
 refine Qe fun K hK => ZO Z Z Z (ZE Z (hK _ _ (Qa (kp2 Z Z) ?_)))
 refine Qe fun K hK => QF (cs := [_, _, _, _, _]) Z Z Z Z (Qy (XZ) Z Z (.inl Z) (QX Z Z (QY Z Z Z Z Z Z Z Z (hK _ _ (Qa (kp1 Z) ?_)))))
 refine Qq (Zw (cs := [_, _, _, _, _, _, _]) Z Z Z Z ?_)
 exact rfl
theorem Qbs {a b c : Int} {p q : List UInt8} : Ok Tryd.prog 54 [.agg [.int .i64 a, .int .i64 b, .int .i64 c, .str p, .str q]] (.agg [.int .i64 0, .int .i64 a, .int .i64 b, .int .i64 c, .str p, .str [], .bool true]) := by
 refine Ok.ofT Z5 Tryd.func54 QqK (Nat.le_of_ble_eq_true Z) ?_
 show TW _ _ tf54.body _ _
 refine Qe fun K hK => ZO Z Z Z (ZE Z (hK _ _ (Qa (kp2 Z Z) ?_)))
 refine Qe fun K hK => QF (cs := [_, _, _, _, _]) Z Z Z Z (Qy (XZ) Z Z (.inl Z) (QX Z Z (QY Z Z Z Z Z Z Z Z (hK _ _ (Qa (kp1 Z) ?_)))))
 refine Qq (Zw (cs := [_, _, _, _, _, _, _]) Z Z Z Z ?_)
 exact rfl
theorem XL {a b c : Int} {p q : List UInt8} : Ok Tryd.prog 72 [.agg [.int .i64 a, .int .i64 b, .int .i64 c, .str p, .str q]] (.bool (QdX a b c)) := by
 refine Ok.ofT Z5 Tryd.func72 Qq1 (Nat.le_of_ble_eq_true Z) ?_
 show TW _ _ tf72.body _ _
 refine Qe fun K hK => ZO Z Z Z (Qb Z (hK _ _ (Qa (kp1 Z) ?_)))
 refine Qe fun K hK => Qh Z Z (QE Z Z Z (Yy Z Z (Qb Z ?_)))
 refine Qw (g := 6) Z (fun h1 => ?_) (fun h1 => ?_)
 ·try rw [h1]
  try simp only [qB] at h1
  refine Qg Z (Qh Z Z (Qg Z (QE Z Z Z (Qg Z (Yy Z Z (Qi Z Z (Qb Z ?_)))))))
  refine Qw (g := 11) Z (fun h2 => ?_) (fun h2 => ?_)
  ·try rw [h2]
   try simp only [qB] at h2
   refine Qg Z (Qh Z Z (Qg Z (QE Z Z Z (Qg Z (Yy Z Z (Qi Z Z (Qb Z (hK _ _ (Qa (kp1 Z) ?_)))))))))
   refine Qq (Qn Z ?_)
   (repeat clear hK K); simp_all [QdX]
  ·try rw [h2]
   try simp only [qB] at h2
   refine Qr Z (Qr Z (Qr Z (Qi Z Z (Qb Z (hK _ _ (Qa (kp1 Z) ?_))))))
   refine Qq (Qn Z ?_)
   (repeat clear hK K); simp_all [QdX]
 ·try rw [h1]
  try simp only [qB] at h1
  refine Qr Z (Qr Z (Qr Z (Qi Z Z (Qb Z (Qr Z (Qr Z (Qr Z (Qi Z Z (Qb Z (hK _ _ (Qa (kp1 Z) ?_)))))))))))
  refine Qq (Qn Z ?_)
  (repeat clear hK K); simp_all [QdX]
end Go.Proofs
namespace Go.Proofs
open Go Go.Abs M3 M25
set_option linter.unusedVariables false
set_option linter.unusedSimpArgs false
theorem Qcw {a b c : Int} {p q : List UInt8} (hp : p.length <= 1000000) (hq : q.length <= 1000000) {part : Int} : Ok Tryd.prog 91 [.agg [.int .i64 a, .int .i64 b, .int .i64 c, .str p, .str q], .int .i64 part] (dOV (XU a b c p q part)) := by
 refine Ok.ofT Z5 Tryd.func91 Qrj (Nat.le_of_ble_eq_true Z) ?_
 show TW _ _ tf91.body _ _
 refine Qe fun K hK => ZO Z Z Z (ZE Z (Qb Z (hK _ _ (Qa (kp3 Z Z Z) ?_))))
 refine QH ?_ -- 0
 refine Qe fun K hK => QF (cs := [_, _, _, _, _]) Z Z Z Z (Qy (Zt (by omega) (by omega)) Z Z (.inr Z) (ZP Z (Qb Z ?_)))
 refine Qw (g := 10) Z (fun h1 => ?_) (fun h1 => ?_)
 ·try rw [h1]
  try simp only [qB] at h1
  refine Qr Z (Qr Z (Qi Z Z (Qb Z (Qr Z (Qr Z (Qi Z Z (hK _ _ (Qa (kp4 Z Z Z Z) ?_))))))))
  refine Zl Z (Qe fun K hK => QX Z Z (QY Z Z Z Z Z Z Z Z (Qb Z (hK _ _ (Qa (kp2 Z Z) ?_)))))
  refine Qq (Qj (Post.eq (Xt (ds := [.int .i64 _, .int .i64 _, .int .i64 _, .str _, .str _]) (d' := .bool _) (cs := [_, _, _, _, _]) Z Z Z Z Z ⟨rfl, rfl⟩) ?_))
  (repeat clear hK K); first | (simp [XU, dOV, h1]; done) | (simp_all [XU, dOV]; done)
 ·try rw [h1]
  try simp only [qB] at h1
  refine Qg Z (Qb Z (Qg Z (Y0 Z Z (Qi Z Z (Qb Z ?_)))))
  refine Qw (g := 14) Z (fun h2 => ?_) (fun h2 => ?_)
  ·try rw [h2]
   try simp only [qB] at h2
   refine Qr Z (Qr Z (Qi Z Z (hK _ _ (Qa (kp4 Z Z Z Z) ?_))))
   refine Zl Z (Qe fun K hK => QX Z Z (QY Z Z Z Z Z Z Z Z (Qb Z (hK _ _ (Qa (kp2 Z Z) ?_)))))
   refine Qq (Qj (Post.eq (Xt (ds := [.int .i64 _, .int .i64 _, .int .i64 _, .str _, .str _]) (d' := .bool _) (cs := [_, _, _, _, _]) Z Z Z Z Z ⟨rfl, rfl⟩) ?_))
   (repeat clear hK K); first | (simp [XU, dOV, h1, h2]; done) | (simp_all [XU, dOV]; done)
  ·try rw [h2]
   try simp only [qB] at h2
   refine Qg Z (Qb Z (Qg Z (Qdx Z Z (Qi Z Z (hK _ _ (Qa (kp4 Z Z Z Z) ?_))))))
   refine QB Z (fun h3 => ?_) (fun h3 => ?_)
   ·try rw [h3]
    try simp only [qB] at h3
    refine Qe fun K hK => QX Z Z (QY Z Z Z Z Z Z Z Z (Qb Z (hK _ _ (Qa (kp2 Z Z) ?_))))
    refine Qq (Qj (Post.eq (Xt (ds := [.int .i64 _, .int .i64 _, .int .i64 _, .str _, .str _]) (d' := .bool _) (cs := [_, _, _, _, _]) Z Z Z Z Z ⟨rfl, rfl⟩) ?_))
    (repeat clear hK K); first | (simp [XU, dOV, h1, h2, h3]; done) | (simp_all [XU, dOV]; done)
   ·try rw [h3]
    try simp only [qB] at h3
    refine Qx (Qf (kp3 Z Z Z) (Qe fun K hK => ZE Z (hK _ _ (Qa (kp4 Z Z Z Z) ?_))))
    refine QH ?_ -- 1
    refine Qe fun K hK => Qb Z (hK _ _ (Qa (kp4 Z Z Z Z) ?_))
    refine QM (Qe fun K hK => Yy Z Z (Qb Z (hK _ _ (Qa (kp5 Z Z Z Z Z) ?_))))
    refine QB Z (fun h4 => ?_) (fun h4 => ?_)
    ·try rw [h4]
     try simp only [qB] at h4
     refine Zf fun K hK => Qh Z Z (QE Z Z Z (Zk Z Z (Qt (by have := Qb0 (by simpa using h1); omega) (by have := Qb0 (by simpa using h1); omega)) (QX Z Z (QY Z Z Z Z Z Z Z Z (hK _ ?_)))))
     refine Ql (Qf (kp2 Z Z) ?_)
     refine QH ?_ -- 2
     refine Qe fun K hK => QF (cs := [_, _, _, _, _]) Z Z Z Z (Qy (Zt (by simp) (by simp)) Z Z (.inr Z) (ZP Z (hK _ _ (Qa (kp3 Z Z Z) ?_))))
     refine QB Z (fun h5 => ?_) (fun h5 => ?_)
     ·try rw [h5]
      try simp only [qB] at h5
      refine Qe fun K hK => QX Z Z (QY Z Z Z Z Z Z Z Z (Qb Z (hK _ _ (Qa (kp2 Z Z) ?_))))
      refine Qq (Qj (Post.eq (Xt (ds := [.int .i64 _, .int .i64 _, .int .i64 _, .str _, .str _]) (d' := .bool _) (cs := [_, _, _, _, _]) Z Z Z Z Z ⟨rfl, rfl⟩) ?_))
      (repeat clear hK K); first | (simp [XU, dOV, h1, h2, h3, h4, h5]; done) | (simp_all [XU, dOV]; done)
     ·try rw [h5]
      try simp only [qB] at h5
      refine Qx (Qf (kp2 Z Z) (Qe fun K hK => QF (cs := [_, _, _, _, _]) Z Z Z Z (QY Z Z Z Z Z Z Z Z (Qb Z (hK _ _ (Qa (kp2 Z Z) ?_))))))
      refine Qq (Post.eq (Xt (ds := [.int .i64 _, .int .i64 _, .int .i64 _, .str _, .str _]) (d' := .bool _) (cs := [_, _, _, _, _]) Z Z Z Z Z ⟨rfl, rfl⟩) ?_)
      (repeat clear hK K); first | (simp [XU, dOV, h1, h2, h3, h4, h5]; done) | (simp_all [XU, dOV]; done)
    ·try rw [h4]
     try simp only [qB] at h4
     refine Qe fun K hK => Yy Z Z (Qb Z (hK _ _ (Qa (kp4 Z Z Z Z) ?_)))
     refine QB Z (fun h6 => ?_) (fun h6 => ?_)
     ·try rw [h6]
      try simp only [qB] at h6
      refine Zf fun K hK => Qh Z Z (QE Z Z Z (Qh Z Z (QE Z Z Z (Zk Z Z (Qt (by have := Qb0 (by simpa using h1); omega) (by have := Qb0 (by simpa using h1); omega)) (QX Z Z (QY Z Z Z Z Z Z Z Z (hK _ ?_)))))))
      refine Ql (Qf (kp2 Z Z) ?_)
      refine QH ?_ -- 2
      refine Qe fun K hK => QF (cs := [_, _, _, _, _]) Z Z Z Z (Qy (Zt (by simp) (by simp)) Z Z (.inr Z) (ZP Z (hK _ _ (Qa (kp3 Z Z Z) ?_))))
      refine QB Z (fun h7 => ?_) (fun h7 => ?_)
      ·try rw [h7]
       try simp only [qB] at h7
       refine Qe fun K hK => QX Z Z (QY Z Z Z Z Z Z Z Z (Qb Z (hK _ _ (Qa (kp2 Z Z) ?_))))
       refine Qq (Qj (Post.eq (Xt (ds := [.int .i64 _, .int .i64 _, .int .i64 _, .str _, .str _]) (d' := .bool _) (cs := [_, _, _, _, _]) Z Z Z Z Z ⟨rfl, rfl⟩) ?_))
       (repeat clear hK K); first | (simp [XU, dOV, h1, h2, h3, h4, h6, h7]; done) | (simp_all [XU, dOV]; done)
      ·try rw [h7]
       try simp only [qB] at h7
       refine Qx (Qf (kp2 Z Z) (Qe fun K hK => QF (cs := [_, _, _, _, _]) Z Z Z Z (QY Z Z Z Z Z Z Z Z (Qb Z (hK _ _ (Qa (kp2 Z Z) ?_))))))
       refine Qq (Post.eq (Xt (ds := [.int .i64 _, .int .i64 _, .int .i64 _, .str _, .str _]) (d' := .bool _) (cs := [_, _, _, _, _]) Z Z Z Z Z ⟨rfl, rfl⟩) ?_)
       (repeat clear hK K); first | (simp [XU, dOV, h1, h2, h3, h4, h6, h7]; done) | (simp_all [XU, dOV]; done)
     ·try rw [h6]
      try simp only [qB] at h6
      refine Zf fun K hK => Qh Z Z (QE Z Z Z (Qh Z Z (QE Z Z Z (Qh Z Z (QE Z Z Z (Zk Z Z (Qt (by have := Qb0 (by simpa using h1); omega) (by have := Qb0 (by simpa using h1); omega)) (QX Z Z (QY Z Z Z Z Z Z Z Z (hK _ ?_)))))))))
      refine Ql (Qf (kp2 Z Z) ?_)
      refine QH ?_ -- 2
      refine Qe fun K hK => QF (cs := [_, _, _, _, _]) Z Z Z Z (Qy (Zt (by simp) (by simp)) Z Z (.inr Z) (ZP Z (hK _ _ (Qa (kp3 Z Z Z) ?_))))
      refine QB Z (fun h8 => ?_) (fun h8 => ?_)
      ·try rw [h8]
       try simp only [qB] at h8
       refine Qe fun K hK => QX Z Z (QY Z Z Z Z Z Z Z Z (Qb Z (hK _ _ (Qa (kp2 Z Z) ?_))))
       refine Qq (Qj (Post.eq (Xt (ds := [.int .i64 _, .int .i64 _, .int .i64 _, .str _, .str _]) (d' := .bool _) (cs := [_, _, _, _, _]) Z Z Z Z Z ⟨rfl, rfl⟩) ?_))
       (repeat clear hK K); first | (simp [XU, dOV, h1, h2, h3, h4, h6, h8]; done) | (simp_all [XU, dOV]; done)
      ·try rw [h8]
       try simp only [qB] at h8
       refine Qx (Qf (kp2 Z Z) (Qe fun K hK => QF (cs := [_, _, _, _, _]) Z Z Z Z (QY Z Z Z Z Z Z Z Z (Qb Z (hK _ _ (Qa (kp2 Z Z) ?_))))))
       refine Qq (Post.eq (Xt (ds := [.int .i64 _, .int .i64 _, .int .i64 _, .str _, .str _]) (d' := .bool _) (cs := [_, _, _, _, _]) Z Z Z Z Z ⟨rfl, rfl⟩) ?_)
       (repeat clear hK K); first | (simp [XU, dOV, h1, h2, h3, h4, h6, h8]; done) | (simp_all [XU, dOV]; done)
theorem Qcx {a b c : Int} {p q : List UInt8} (hp : p.length <= 1000000) (hq : q.length <= 1000000) : Ok Tryd.prog 74 [.agg [.int .i64 a, .int .i64 b, .int .i64 c, .str p, .str q]] (dOV (QhO a b c p q)) := by
 refine Ok.ofT Z5 Tryd.func74 Qq3 (Nat.le_of_ble_eq_true Z) ?_
 show TW _ _ tf74.body _ _
 refine Qe fun K hK => ZO Z Z Z (ZE Z (Qb Z (hK _ _ (Qa (kp2 Z Z) ?_))))
 refine QH ?_ -- 0
 refine Qe fun K hK => QF (cs := [_, _, _, _, _]) Z Z Z Z (Qy (Zt (by omega) (by omega)) Z Z (.inr Z) (ZP Z (hK _ _ (Qa (kp3 Z Z Z) ?_))))
 refine QB Z (fun h1 => ?_) (fun h1 => ?_)
 ·try rw [h1]
  try simp only [qB] at h1
  refine Qe fun K hK => QX Z Z (QY Z Z Z Z Z Z Z Z (Qb Z (hK _ _ (Qa (kp2 Z Z) ?_))))
  refine Qq (Qj (Post.eq (Xt (ds := [.int .i64 _, .int .i64 _, .int .i64 _, .str _, .str _]) (d' := .bool _) (cs := [_, _, _, _, _]) Z Z Z Z Z ⟨rfl, rfl⟩) ?_))
  simp [QhO, dOV, h1]
 ·try rw [h1]
  try simp only [qB] at h1
  refine Qx (Qf (kp2 Z Z) ?_)
  refine QH ?_ -- 1
  refine Qe fun K hK => Qh Z Z (QE Z Z Z (QjV Z Z (hK _ _ (Qa (kp3 Z Z Z) ?_))))
  refine QB Z (fun h2 => ?_) (fun h2 => ?_)
  ·try rw [h2]
   try simp only [qB] at h2
   refine Qe fun K hK => Qh Z Z (QE Z Z Z (Qh Z Z (QE Z Z Z (Qh Z Z (QE Z Z Z (QX Z Z (QY Z Z Z Z Z Z Z Z (Qb Z (hK _ _ (Qa (kp2 Z Z) ?_))))))))))
   refine Qq (Qj (Post.eq (Xt (ds := [.int .i64 _, .int .i64 _, .int .i64 _, .str _, .str _]) (d' := .bool _) (cs := [_, _, _, _, _]) Z Z Z Z Z ⟨rfl, rfl⟩) ?_))
   simp [QhO, dOV, h1, h2]
  ·try rw [h2]
   try simp only [qB] at h2
   refine Qx (Qf (kp2 Z Z) ?_)
   refine QH ?_ -- 2
   refine Qe fun K hK => Qb Z (hK _ _ (Qa (kp3 Z Z Z) ?_))
   refine QM ?_
   refine Ya (ι := Nat) (fun m => ⟨[(1, .ref 1 0 0), (2, .ref 2 0 0), (4, .int .i64 ((m : Int) - 1))], [(1, ⟨[[.int .i64 a, .int .i64 b, .int .i64 c, .str p, .str q]], 5, 49, true⟩), (2, ⟨[[.int .i64 0, .int .i64 0, .int .i64 0, .str [], .str []]], 5, 49, true⟩)]⟩) (fun m => m <= 3 /\ Xy a b c p q 3 = Xy a b c p q m) (fun m => m) 3 ?_ ?_ ?_
   ·exact ZC (l := [1, 2, 4]) (lH := [1, 2]) (kp3 rfl rfl rfl) (Qz rfl (Qz rfl QC)) rfl rfl rfl
   ·exact ⟨by omega, rfl⟩
   intro m hI
   obtain ⟨hI1, hI2⟩ := hI
   try dsimp only
   refine QH ?_ -- 3
   refine Qe fun K hK => Qb Z (Qi2 Z Z (hK _ _ (Qa (kp4 Z Z Z Z) ?_)))
   refine QB Z (fun h3 => ?_) (fun h3 => ?_)
   ·try rw [h3]
    try simp only [qB] at h3
    rcases Nat.eq_zero_or_pos m with hm | hm <;> first | omega | skip
    refine Qx (Qf (kp3 Z Z Z) ?_)
    refine QH ?_ -- 4
    refine QM (Qe fun K hK => QF (cs := [_, _, _, _, _]) Z Z Z Z (Qb Z (Qy (Qcw (by omega) (by omega)) Z Z (.inl Z) (Qb Z (Zc Z Z (Zc Z Z (ZE Z (QY Z Z Z Z Z Z Z Z (Qb Z (hK _ _ (Qa (kp5 Z Z Z Z Z) ?_)))))))))))
    refine Qe fun K hK => Qb Z (hK _ _ (Qa (kp5 Z Z Z Z Z) ?_))
    refine QB Z (fun h4 => ?_) (fun h4 => ?_)
    ·try rw [h4]
     try simp only [qB] at h4
     refine Qe fun K hK => QF (cs := [_, _, _, _, _]) Z Z Z Z (QY Z Z Z Z Z Z Z Z (Qb Z (hK _ _ (Qa (kp2 Z Z) ?_))))
     refine Qq (Qu (Qj (Q7 (Qu (Qj (Post.eq (Xt (ds := [.int .i64 _, .int .i64 _, .int .i64 _, .str _, .str _]) (d' := .bool _) (cs := [_, _, _, _, _]) Z Z Z Z Z ⟨rfl, rfl⟩) ?_))))))
     subst h2
     simp [QhO, dOV, h1, hI2, Qhl hm h4, h4]
    ·try rw [h4]
     try simp only [qB] at h4
     refine Qx (Ql (Qf (kp3 Z Z Z) (Zf fun K hK => Qb Z (QcP Z Z (by first | exact Qt (by omega) (by omega) | rfl) (Qb Z (hK _ ?_))))))
     refine Qp (m - 1) ?_ ?_ ?_
     ·refine ZC (l := [1, 2, 4]) (lH := [1, 2]) (kp3 Z Z Z) (Qz Z (Qz Z QC)) ?_ Z rfl; simp only [List.cons.injEq, Prod.mk.injEq, D.int.injEq, and_true, true_and]; omega
     ·exact ⟨by omega, by rw [hI2]; exact Qil hm h4⟩
     ·show m - 1 < m; omega
   ·try rw [h3]
    try simp only [qB] at h3
    rcases Nat.eq_zero_or_pos m with hm | hm <;> first | omega | skip
    refine ZG (QR (QD (QJ (Qf (kp1 Z) (Qe fun K hK => QX Z Z (QY Z Z Z Z Z Z Z Z (Qb Z (hK _ _ (Qa (kp2 Z Z) ?_)))))))))
    refine Qq (Post.eq (Xt (ds := [.int .i64 _, .int .i64 _, .int .i64 _, .str _, .str _]) (d' := .bool _) (cs := [_, _, _, _, _]) Z Z Z Z Z ⟨rfl, rfl⟩) ?_)
    subst h2
    subst hm
    have hb : Xy a b c [] q 3 = none := hI2
    simp [QhO, dOV, h1, hb]
end Go.Proofs
namespace Go.Proofs
open Go Go.Abs M3 M25
set_option linter.unusedVariables false
set_option linter.unusedSimpArgs false
theorem XM {e a b c : Int} {p q : List UInt8} {f : Bool} : Ok Tryd.prog 63 [.agg [.int .i64 e, .int .i64 a, .int .i64 b, .int .i64 c, .str p, .str q, .bool f]] (.bool (QdY e a b c p q f)) := by
 refine Ok.ofT Z5 Tryd.func63 QqT (Nat.le_of_ble_eq_true Z) ?_
 show TW _ _ tf63.body _ _
 refine Qe fun K hK => ZO Z Z Z (Qb Z (hK _ _ (Qa (kp1 Z) ?_)))
 refine Qe fun K hK => Qh Z Z (QE Z Z Z (YP Z Z (Qb Z ?_)))
 refine Qw (g := 6) Z (fun h1 => ?_) (fun h1 => ?_)
 ·try rw [h1]
  try simp only [qB] at h1
  refine Qr Z (Qr Z (Qr Z (Qr Z (QG Z (QG Z (QG Z (QG Z (Qr Z (Qr Z (QG Z (QG Z ?_)))))))))))
  refine QG Z (QG Z (Qr Z (Qi Z Z (Qb Z (hK _ _ (Qa (kp1 Z) ?_))))))
  refine Qq (Qn Z ?_)
  (repeat clear hK K); simp_all [QdY]
 ·try rw [h1]
  try simp only [qB] at h1
  refine Qg Z (Qh Z Z (Qg Z (QE Z Z Z (Qg Z (ZP Z (Qg Z (Qb Z ?_)))))))
  refine Qw (g := 10) Z (fun h2 => ?_) (fun h2 => ?_)
  ·try rw [h2]
   try simp only [qB] at h2
   refine Qg Z (Qh Z Z (Qg Z (Qh Z Z (Qg Z (QE Z Z Z (Qg Z (Qb7 Z Z (Qg Z (Qi Z Z (Qg Z (Qb Z ?_)))))))))))
   refine Qw (g := 16) Z (fun h3 => ?_) (fun h3 => ?_)
   ·try rw [h3]
    try simp only [qB] at h3
    refine Qg Z (Qh Z Z (Qg Z (QF (cs := [_, _, _, _, _]) Z Z Z Z (Qg Z (Qy (XL) Z Z (.inr Z) (Qg Z (ZP Z (Qg Z (Qi Z Z (Qi Z Z (Qb Z ?_)))))))))))
    refine hK _ _ (Qa (kp1 Z) ?_)
    refine Qq (Qn Z ?_)
    (repeat clear hK K); simp_all [QdY]
   ·try rw [h3]
    try simp only [qB] at h3
    refine Qr Z (Qr Z (Qr Z (Qr Z (Qg Z (Qi Z Z (Qi Z Z (Qb Z (hK _ _ (Qa (kp1 Z) ?_)))))))))
    refine Qq (Qn Z ?_)
    (repeat clear hK K); simp_all [QdY]
  ·try rw [h2]
   try simp only [qB] at h2
   refine Qr Z (Qr Z (Qr Z (Qr Z (Qg Z (Qi Z Z (Qg Z (Qb Z (Qr Z (Qr Z (Qr Z (Qr Z ?_)))))))))))
   refine Qg Z (Qi Z Z (Qi Z Z (Qb Z (hK _ _ (Qa (kp1 Z) ?_)))))
   refine Qq (Qn Z ?_)
   (repeat clear hK K); simp_all [QdY]
theorem Qce {a b c : Int} {p q : List UInt8} : Ok Tryd.prog 55 [.agg [.int .i64 a, .int .i64 b, .int .i64 c, .str p, .str q]] (.agg (dCu (Qe8 a b c))) := by
 refine Ok.ofT Z5 Tryd.func55 QqL (Nat.le_of_ble_eq_true Z) ?_
 show TW _ _ tf55.body _ _
 refine Qe fun K hK => ZO Z Z Z (ZE Z (hK _ _ (Qa (kp2 Z Z) ?_)))
 refine QH ?_ -- 0
 refine Qe fun K hK => QF (cs := [_, _, _, _, _]) Z Z Z Z (Qy (XL) Z Z (.inr Z) (hK _ _ (Qa (kp3 Z Z Z) ?_)))
 refine QB Z (fun h1 => ?_) (fun h1 => ?_)
 ·try rw [h1]
  try simp only [qB] at h1
  refine Qe fun K hK => Qy (YS) Z Z (.inl Z) (QY Z Z Z Z Z Z Z Z (hK _ _ (Qa (kp1 Z) ?_)))
  refine Qq (Qj (Post.eq (Zw (ds := [.int .i64 _, .int .i64 _, .int .i64 _, .int .i64 _, .str _, .str _, .bool _]) (cs := [_, _, _, _, _, _, _]) Z Z Z Z Z) ?_))
  simp [Qe8, dCu, Qcl, h1]
 ·try rw [h1]
  try simp only [qB] at h1
  refine Qx (Qf (kp2 Z Z) (Qe fun K hK => Qh Z Z (QE Z Z Z (Qh Z Z (QE Z Z Z (Qh Z Z (QE Z Z Z (QX Z Z (Qy (YB) Z Z (.inl Z) (QY Z Z Z Z Z Z Z Z ?_))))))))))
  refine hK _ _ (Qa (kp1 Z) ?_)
  refine Qq (Post.eq (Zw (ds := [.int .i64 _, .int .i64 _, .int .i64 _, .int .i64 _, .str _, .str _, .bool _]) (cs := [_, _, _, _, _, _, _]) Z Z Z Z Z) ?_)
  simp [Qe8, dCu, Qcl, h1]
theorem Qbt {a b c : Int} {p q : List UInt8} : Ok Tryd.prog 56 [.agg [.int .i64 a, .int .i64 b, .int .i64 c, .str p, .str q]] (.agg (dCu (Qdg a b c))) := by
 refine Ok.ofT Z5 Tryd.func56 QqM (Nat.le_of_ble_eq_true Z) ?_
 show TW _ _ tf56.body _ _
 refine Qe fun K hK => ZO Z Z Z (ZE Z (hK _ _ (Qa (kp2 Z Z) ?_)))
 refine Qe fun K hK => Qh Z Z (QE Z Z Z (Qh Z Z (QE Z Z Z (Qh Z Z (QE Z Z Z (QX Z Z (Qy (Qcx (by simp) (by simp)) Z Z (.inl Z) (Qb Z (Zc Z Z (Zc Z Z ?_))))))))))
 refine ZE Z (QY Z Z Z Z Z Z Z Z (Qb Z (hK _ _ (Qa (kp3 Z Z Z) ?_))))
 refine QH ?_ -- 0
 refine Qe fun K hK => Qb Z (ZP Z (hK _ _ (Qa (kp3 Z Z Z) ?_)))
 refine QB Z (fun h1 => ?_) (fun h1 => ?_)
 ·try rw [h1]
  try simp only [qB] at h1
  refine Qe fun K hK => Qy (Y8) Z Z (.inl Z) (QY Z Z Z Z Z Z Z Z (hK _ _ (Qa (kp1 Z) ?_)))
  refine Qq (Qj (Post.eq (Zw (ds := [.int .i64 _, .int .i64 _, .int .i64 _, .int .i64 _, .str _, .str _, .bool _]) (cs := [_, _, _, _, _, _, _]) Z Z Z Z Z) ?_))
  cases hn : QhO a b c [] [] <;> simp [Qdg, dCu, Qfw, hn] at *
 ·try rw [h1]
  try simp only [qB] at h1
  refine Qx (Qf (kp2 Z Z) (Qe fun K hK => QF (cs := [_, _, _, _, _]) Z Z Z Z (Qy (YB) Z Z (.inl Z) (QY Z Z Z Z Z Z Z Z (hK _ _ (Qa (kp1 Z) ?_))))))
  refine Qq (Post.eq (Zw (ds := [.int .i64 _, .int .i64 _, .int .i64 _, .int .i64 _, .str _, .str _, .bool _]) (cs := [_, _, _, _, _, _, _]) Z Z Z Z Z) ?_)
  cases hn : QhO a b c [] [] <;> simp [Qdg, dCu, Qfw, hn] at *
theorem XN  : Ok Tryd.prog 92 [] (Zg [(Qcl, Qfw)]) := by
 refine Ok.ofT Z5 Tryd.func92 Qrk (Nat.le_of_ble_eq_true Z) ?_
 show TW _ _ tf92.body _ _
 refine Qe fun K hK => Qb Z (hK _ _ (Qa (QV) ?_))
 refine Qe fun K hK => Qy (YS) Z Z (.inl Z) (Qy (Y8) Z Z (.inl Z) (QX Z Z (QL Z Z (Qb Z (hK _ _ (Qa (kp1 Z) ?_))))))
 refine Qq (Z8 Z ?_)
 rfl
theorem ZZ  : Ok Tryd.prog 48 [] (Qfp ([], [])) := by
 refine Ok.ofT Z5 Tryd.func48 QqF (Nat.le_of_ble_eq_true Z) ?_
 show TW _ _ tf48.body _ _
 refine Qe fun K hK => ZE Z (hK _ _ (Qa (kp1 Z) ?_))
 refine Qe fun K hK => QX Z Z (QY Z Z Z Z Z Z Z Z (hK _ _ (Qa (kp1 Z) ?_)))
 refine Qq (Post.eq (Zw (ds := [.sl _, .sl _]) (cs := [_, _]) Z Z Z Z Z) ?_)
 rfl
theorem QcZ  : Ok Tryd.prog 76 [] (Qfp ([(Qcl, Qfw)], [(Qcl, Qfw)])) := by
 refine Ok.ofT Z5 Tryd.func76 Qq5 (Nat.le_of_ble_eq_true Z) ?_
 show TW _ _ tf76.body _ _
 refine Qe fun K hK => ZE Z (hK _ _ (Qa (kp1 Z) ?_))
 refine Qe fun K hK => Qy (XN) Z Z (.inl Z) (Qy (XN) Z Z (.inl Z) (QX Z Z (QY Z Z Z Z Z Z Z Z (hK _ _ (Qa (kp1 Z) ?_)))))
 refine Qq (Post.eq (Zw (ds := [.sl _, .sl _]) (cs := [_, _]) Z Z Z Z Z) ?_)
 rfl
theorem YU {a b c : Int} {p q : List UInt8} (hp : p.length <= 1000000) (hq : q.length <= 1000000) : Ok Tryd.prog 36 [.agg [.int .i64 a, .int .i64 b, .int .i64 c, .str p, .str q]] (Qfp (YX a b c p q)) := by
 refine Ok.ofT Z5 Tryd.func36 Qqu (Nat.le_of_ble_eq_true Z) ?_
 show TW _ _ tf36.body _ _
 refine Qe fun K hK => ZO Z Z Z (ZE Z (hK _ _ (Qa (kp2 Z Z) ?_)))
 refine QH ?_ -- 0
 refine Qe fun K hK => QF (cs := [_, _, _, _, _]) Z Z Z Z (Qy (Zt (by omega) (by omega)) Z Z (.inr Z) (ZP Z (hK _ _ (Qa (kp3 Z Z Z) ?_))))
 refine QB Z (fun h1 => ?_) (fun h1 => ?_)
 ·try rw [h1]
  try simp only [qB] at h1
  refine Qe fun K hK => Qy (ZZ) Z Z (.inl Z) (QY Z Z Z Z Z Z Z Z (hK _ _ (Qa (kp1 Z) ?_)))
  refine Qq (Qj (Post.eq (Zw (ds := [.sl _, .sl _]) (cs := [_, _]) Z Z Z Z Z) ?_))
  simp [YX, Qfp, Zg, Qd4, dCu, h1]
 ·try rw [h1]
  try simp only [qB] at h1
  refine Qx (Qf (kp2 Z Z) ?_)
  refine QH ?_ -- 1
  refine Qe fun K hK => Qh Z Z (QE Z Z Z (QjV Z Z (hK _ _ (Qa (kp3 Z Z Z) ?_))))
  refine QB Z (fun h2 => ?_) (fun h2 => ?_)
  ·try rw [h2]
   try simp only [qB] at h2
   refine Qe fun K hK => QS (ds0 := [6, 3, 2, 1, 0]) (cs := [_, _, _, _, _]) Z Z Z Z Z Z (Q1 (ds0 := [3, 2, 1, 0]) (YB) Z Z (.inl Z) Z Z (QS (ds0 := [4, 3, 2, 1, 0]) (cs := [_, _, _, _, _]) Z Z Z Z Z Z (Q1 (ds0 := [3, 2, 1, 0]) (Qbs) Z Z (.inl Z) Z Z (QX Z Z (QL Z Z (QX Z Z (Xd (ds0 := []) Z Z Z Z Z Z Z Z Z Z (hK _ _ (Qa (kp1 Z) ?_)))))))))
   refine Qq (Qj (Post.eq (Zw (ds := [.sl _, .sl _]) (cs := [_, _]) Z Z Z Z Z) ?_))
   simp [YX, Qfp, Zg, Qd4, dCu, h1, h2]
  ·try rw [h2]
   try simp only [qB] at h2
   refine Qx (Qf (kp2 Z Z) (Qe fun K hK => QS (ds0 := [6, 3, 2, 1, 0]) (cs := [_, _, _, _, _]) Z Z Z Z Z Z (Q1 (ds0 := [3, 2, 1, 0]) (Qce) Z Z (.inl Z) Z Z (QS (ds0 := [4, 3, 2, 1, 0]) (cs := [_, _, _, _, _]) Z Z Z Z Z Z (Q1 (ds0 := [3, 2, 1, 0]) (Qbt) Z Z (.inl Z) Z Z (QX Z Z (QL Z Z (QX Z Z (Xd (ds0 := []) Z Z Z Z Z Z Z Z Z Z (hK _ _ (Qa (kp1 Z) ?_)))))))))))
   refine Qq (Post.eq (Zw (ds := [.sl _, .sl _]) (cs := [_, _]) Z Z Z Z Z) ?_)
   subst h2
   simp [YX, Qfp, Zg, Qd4, dCu, h1]
end Go.Proofs
namespace Go.Proofs
open Go Go.Abs M3 M25
set_option linter.unusedVariables false
set_option linter.unusedSimpArgs false
theorem Z7 {l : List (Cu × Cu)} (hl : Sm l) : Ok Tryd.prog 62 [Zg l] (.bool (Qbk l)) := by
 refine Ok.ofT Z5 Tryd.func62 QqS (Nat.le_of_ble_eq_true Z) ?_
 show TW _ _ tf62.body _ _
 have hn := hl.1
 refine Qe fun K hK => Qb Z (hK _ _ (Qa (kp1 Z) ?_))
 refine QH ?_ -- 0
 refine Qe fun K hK => Qb Z (hK _ _ (Qa (kp2 Z Z) ?_))
 refine QM ?_
 refine Ya (ι := Nat) (fun i => ⟨[(0, Zg l), (3, .int .i64 i)], []⟩) (fun i => i <= l.length /\ (List.range i).all (QnY l) = true) (fun i => l.length - i) 0 ?_ ?_ ?_
 ·exact Q6 (kp2 rfl rfl)
 ·exact ⟨Nat.zero_le _, rfl⟩
 intro i hI
 try dsimp only
 refine QH ?_ -- 1
 refine Qe fun K hK => Qb Z (Qb Z (ZJ Z Z (Y0 Z Z (hK _ _ (Qa (kp3 Z Z Z) ?_)))))
 refine QB Z (fun h1 => ?_) (fun h1 => ?_)
 ·try rw [h1]
  try simp only [qA] at h1
  refine Qx (Qf (kp2 Z Z) ?_)
  refine QH ?_ -- 2
  refine QM (Qe fun K hK => Qb Z (Qb Z (Q2 Z Z Z (by omega) (ZW (by omega)) Z (QS (ds0 := [20, 19, 18, 17, 16, 15, 14, 13, 12, 11, 10, 9, 8, 7, 6, 5, 4, 3, 2, 1, 0]) (cs := [_, _, _, _, _, _, _, _, _, _, _, _, _, _]) Z Z Z Z Z Z (Q1 (ds0 := [19, 18, 17, 16, 15, 14, 13, 12, 11, 10, 9, 8, 7, 6, 5, 4, 3, 2, 1, 0]) (Xp (hl.at (i := i) (by omega)).1.1 (hl.at (i := i) (by omega)).1.2 (hl.at (i := i) (by omega)).2.1 (hl.at (i := i) (by omega)).2.2) Z Z (.inr Z) Z Z (ZP Z (Qb Z ?_)))))))
  refine Qw (g := 16) Z (fun h2 => ?_) (fun h2 => ?_)
  ·try rw [h2]
   try simp only [qA] at h2
   refine Qr Z (Qr Z (Qr Z (QG Z (QG Z (QG Z (QG Z (QG Z (QG Z (QG Z (QG Z (QG Z ?_)))))))))))
   refine QG Z (QG Z (QG Z (QG Z (Qr Z (Qi Z Z (hK _ _ (Qa (kp3 Z Z Z) ?_)))))))
   refine Zl Z (Qe fun K hK => Qb Z (hK _ _ (Qa (kp1 Z) ?_)))
   refine Qq (Qu (Qj (Q7 (Qu (Qj (Qn Z ?_))))))
   first
    | exact (Qb3 hI.2 (by omega)).symm
    | exact (Y4 (i := i) (by omega) (Qbf (by omega) (.inl h2))).symm
    | (simp only [XB] at *; exact (Y4 (i := i) (by omega) (Qbf (by omega) (.inr ⟨by omega, h4⟩))).symm)
  ·try rw [h2]
   try simp only [qA] at h2
   refine Qg Z (Qb Z (Qg Z (Qdx Z Z (Qg Z (Qb Z ?_)))))
   refine Qw (g := 19) Z (fun h3 => ?_) (fun h3 => ?_)
   ·try rw [h3]
    try simp only [qA] at h3
    refine Qg Z (Qb Z (Qg Z (Qb Z (Qg Z (QcP Z Z (by first | exact Qt (by omega) (by omega) | rfl) (Qg Z (Q2 Z Z Z (by omega) (Yv (by omega) (by omega)) Z (Qg Z (Yb Z Z (Qg Z (QS (ds0 := [3, 2, 1, 0]) (cs := [_, _, _, _, _, _, _]) Z Z Z Z Z Z ?_)))))))))))
    refine Qg Z (Qb Z (Qg Z (Qb Z (Qg Z (Q2 Z Z Z (by omega) (ZW (by omega)) Z (Qg Z (Yb Z Z (Qg Z (QS (ds0 := [3, 2, 1, 0]) (cs := [_, _, _, _, _, _, _]) Z Z Z Z Z Z (Qg Z (Q1 (ds0 := [2, 1, 0]) (Zs (hl.at (i := ((i : Int) - 1).toNat) (by omega)).2.1 (hl.at (i := ((i : Int) - 1).toNat) (by omega)).2.2 (hl.at (i := i) (by omega)).1.1 (hl.at (i := i) (by omega)).1.2) Z Z (.inr Z) Z Z ?_)))))))))))
    refine Qg Z (Qi2 Z Z (Qg Z (Qi Z Z (Qi Z Z (hK _ _ (Qa (kp3 Z Z Z) ?_))))))
    refine QB Z (fun h4 => ?_) (fun h4 => ?_)
    ·try rw [h4]
     try simp only [qA] at h4
     refine Qe fun K hK => Qb Z (hK _ _ (Qa (kp1 Z) ?_))
     refine Qq (Qu (Qj (Q7 (Qu (Qj (Qn Z ?_))))))
     first
      | exact (Qb3 hI.2 (by omega)).symm
      | exact (Y4 (i := i) (by omega) (Qbf (by omega) (.inl h2))).symm
      | (simp only [XB] at *; exact (Y4 (i := i) (by omega) (Qbf (by omega) (.inr ⟨by omega, h4⟩))).symm)
    ·try rw [h4]
     try simp only [qA] at h4
     refine Qx (Ql (Qf (kp2 Z Z) (Zf fun K hK => Qb Z (Zk Z Z (by first | exact Qt (by omega) (by omega) | rfl) (Qb Z (hK _ ?_))))))
     refine Qp (i + 1) ?_ ?_ ?_
     ·exact Q6 (kp2 rfl rfl)
     ·exact ⟨by omega, Qeq hI.2 (QjA (by omega) h2 (by first | exact .inl (by omega) | (simp only [XB] at *; exact .inr (Int.not_le.1 h4))))⟩
     ·first | omega | (simp only; omega) | (dsimp only; omega)
   ·try rw [h3]
    try simp only [qA] at h3
    refine Qr Z (Qr Z (Qr Z (Qr Z (Qr Z (Qr Z (Qr Z (Qr Z (Qr Z (Qr Z (Qr Z (Qr Z ?_)))))))))))
    refine Qr Z (Qg Z (Qi Z Z (Qi Z Z (hK _ _ (Qa (kp3 Z Z Z) ?_)))))
    refine ZF Z (Qx (Ql (Qf (kp2 Z Z) (Zf fun K hK => Qb Z (Zk Z Z (by first | exact Qt (by omega) (by omega) | rfl) (Qb Z (hK _ ?_)))))))
    refine Qp (i + 1) ?_ ?_ ?_
    ·exact Q6 (kp2 rfl rfl)
    ·exact ⟨by omega, Qeq hI.2 (QjA (by omega) h2 (by first | exact .inl (by omega) | (simp only [XB] at *; exact .inr (Int.not_le.1 h4))))⟩
    ·first | omega | (simp only; omega) | (dsimp only; omega)
 ·try rw [h1]
  try simp only [qA] at h1
  refine ZG (QR (QD (QJ (Qf (QV) (Qe fun K hK => Qb Z (hK _ _ (Qa (kp1 Z) ?_)))))))
  refine Qq (Qn Z ?_)
  first
   | exact (Qb3 hI.2 (by omega)).symm
   | exact (Y4 (i := i) (by omega) (Qbf (by omega) (.inl h2))).symm
   | (simp only [XB] at *; exact (Y4 (i := i) (by omega) (Qbf (by omega) (.inr ⟨by omega, h4⟩))).symm)
theorem QaE {l : List (Cu × Cu)} (hl : Sm l) {x y : Cu} (hx : Cu.sm x) (hy : Cu.sm y) : Ok Tryd.prog 69 [Zg l, .agg (dCu x), .agg (dCu y)] (.bool (mIn l x y)) := by
 refine Ok.ofT Z5 Tryd.func69 QqY (Nat.le_of_ble_eq_true Z) ?_
 show TW _ _ tf69.body _ _
 have hn := hl.1
 refine Qe fun K hK => ZO Z Z Z (ZO Z Z Z (Qb Z (hK _ _ (Qa (kp3 Z Z Z) ?_))))
 refine QH ?_ -- 0
 refine Qe fun K hK => Qb Z (hK _ _ (Qa (kp4 Z Z Z Z) ?_))
 refine QM ?_
 refine Ya (ι := Nat) (fun i => ⟨[(0, Zg l), (4, .ref 4 0 0), (5, .ref 5 0 0), (7, .int .i64 i)], [(4, ⟨[dCu x], 7, 90, true⟩), (5, ⟨[dCu y], 7, 90, true⟩)]⟩) (fun i => i <= l.length /\ (l.take i).any (inC x y) = false) (fun i => l.length - i) 0 ?_ ?_ ?_
 ·exact ZC (l := [0, 4, 5, 7]) (lH := [4, 5]) (kp4 rfl rfl rfl rfl) (Qz rfl (Qz rfl QC)) rfl rfl rfl
 ·exact ⟨Nat.zero_le _, by simp⟩
 intro i hI
 try dsimp only
 refine QH ?_ -- 1
 refine Qe fun K hK => Qb Z (Qb Z (ZJ Z Z (Y0 Z Z (hK _ _ (Qa (kp5 Z Z Z Z Z) ?_)))))
 refine QB Z (fun h1 => ?_) (fun h1 => ?_)
 ·try rw [h1]
  try simp only [qA] at h1
  refine Qx (Qf (kp4 Z Z Z Z) ?_)
  refine QH ?_ -- 2
  refine QM (Qe fun K hK => Qb Z (Qb Z (Q2 Z Z Z (by omega) (ZW (by omega)) Z (Yb Z Z (QS (ds0 := [11, 10, 9, 8, 7, 6, 5, 4, 3, 2, 1, 0]) (cs := [_, _, _, _, _, _, _]) Z Z Z Z Z Z (QS (ds0 := [11, 10, 9, 8, 7, 6, 5, 4, 3, 2, 1, 0]) (cs := [_, _, _, _, _, _, _]) Z Z Z Z Z Z (Q1 (ds0 := [10, 9, 8, 7, 6, 5, 4, 3, 2, 1, 0]) (Zs (hl.at (i := i) (by omega)).1.1 (hl.at (i := i) (by omega)).1.2 hx.1 hx.2) Z Z (.inr Z) Z Z (QlT Z Z (Qb Z ?_)))))))))
  refine Qw (g := 22) Z (fun h2 => ?_) (fun h2 => ?_)
  ·try rw [h2]
   try simp only [qA] at h2
   refine Qg Z (QS (ds0 := [2, 1, 0]) (cs := [_, _, _, _, _, _, _]) Z Z Z Z Z Z (Qg Z (Qb Z (Qg Z (Qb Z (Qg Z (Q2 Z Z Z (by omega) (ZW (by omega)) Z (Qg Z (Yb Z Z (Qg Z (QS (ds0 := [2, 1, 0]) (cs := [_, _, _, _, _, _, _]) Z Z Z Z Z Z ?_)))))))))))
   refine Qg Z (Q1 (ds0 := [1, 0]) (Zs hy.1 hy.2 (hl.at (i := i) (by omega)).2.1 (hl.at (i := i) (by omega)).2.2) Z Z (.inr Z) Z Z (Qg Z (QlT Z Z (Qi Z Z (hK _ _ (Qa (kp5 Z Z Z Z Z) ?_))))))
   refine QB Z (fun h3 => ?_) (fun h3 => ?_)
   ·try rw [h3]
    try simp only [qA] at h3
    refine Qe fun K hK => Qb Z (hK _ _ (Qa (kp1 Z) ?_))
    refine Qq (Qu (Qj (Q7 (Qu (Qj (Qn Z ?_))))))
    first
     | exact (QmO (i := i) (by omega) hI.2).symm
     | exact (Qkt (i := i) (by omega) (QoP h2 h3)).symm
   ·try rw [h3]
    try simp only [qA] at h3
    refine Qx (Ql (Qf (kp4 Z Z Z Z) (Zf fun K hK => Qb Z (Zk Z Z (by first | exact Qt (by omega) (by omega) | rfl) (Qb Z (hK _ ?_))))))
    refine Qp (i + 1) ?_ ?_ ?_
    ·exact ZC (l := [0, 4, 5, 7]) (lH := [4, 5]) (kp4 rfl rfl rfl rfl) (Qz rfl (Qz rfl QC)) rfl rfl rfl
    ·exact ⟨by omega, Qks (by omega) hI.2 (QoO (by first | exact .inl h2 | exact .inr h3))⟩
    ·first | omega | (simp only; omega) | (dsimp only; omega)
  ·try rw [h2]
   try simp only [qA] at h2
   refine Qr Z (Qr Z (Qr Z (Qr Z (Qr Z (Qr Z (Qr Z (Qr Z (Qi Z Z (hK _ _ (Qa (kp5 Z Z Z Z Z) ?_))))))))))
   refine ZF Z (Qx (Ql (Qf (kp4 Z Z Z Z) (Zf fun K hK => Qb Z (Zk Z Z (by first | exact Qt (by omega) (by omega) | rfl) (Qb Z (hK _ ?_)))))))
   refine Qp (i + 1) ?_ ?_ ?_
   ·exact ZC (l := [0, 4, 5, 7]) (lH := [4, 5]) (kp4 rfl rfl rfl rfl) (Qz rfl (Qz rfl QC)) rfl rfl rfl
   ·exact ⟨by omega, Qks (by omega) hI.2 (QoO (by first | exact .inl h2 | exact .inr h3))⟩
   ·first | omega | (simp only; omega) | (dsimp only; omega)
 ·try rw [h1]
  try simp only [qA] at h1
  refine ZG (QR (QD (QJ (Qf (QV) (Qe fun K hK => Qb Z (hK _ _ (Qa (kp1 Z) ?_)))))))
  refine Qq (Qn Z ?_)
  first
   | exact (QmO (i := i) (by omega) hI.2).symm
   | exact (Qkt (i := i) (by omega) (QoP h2 h3)).symm
end Go.Proofs
namespace Go.Proofs
open Go Go.Abs M3 M25
set_option linter.unusedVariables false
set_option linter.unusedSimpArgs false
theorem Xh {s : List (Cu × Cu) × List (Cu × Cu)} (h1s : Sm s.1) (h2s : Sm s.2) : Ok Tryd.prog 45 [Qfp s] (.bool (QcF s)) := by
 refine Ok.ofT Z5 Tryd.func45 QqD (Nat.le_of_ble_eq_true Z) ?_
 show TW _ _ tf45.body _ _
 have hn := h1s.1
 refine Qe fun K hK => ZO Z Z Z (Qb Z (hK _ _ (Qa (kp1 Z) ?_)))
 refine QH ?_ -- 0
 refine Qe fun K hK => Qh Z Z (QE Z Z Z (Qy (Z7 h1s) Z Z (.inr Z) (ZP Z (Qb Z ?_))))
 refine Qw (g := 8) Z (fun h1 => ?_) (fun h1 => ?_)
 ·try rw [h1]
  try simp only [qA] at h1
  refine Qr Z (Qr Z (Qr Z (Qr Z (Qi Z Z (hK _ _ (Qa (kp2 Z Z) ?_))))))
  refine Zl Z (Qe fun K hK => Qb Z (hK _ _ (Qa (kp1 Z) ?_)))
  refine Qq (Qj (Qn Z ?_))
  first
   | exact (Qdl (i := i) h1 h2 (by omega) hI.2).symm
   | exact (X9 (i := i) (by omega) (.inl h4)).symm
   | exact (X9 (i := i) (by omega) (.inr h5)).symm
   | exact (Qaz (.inl h1)).symm
   | exact (Qaz (.inr h2)).symm
 ·try rw [h1]
  try simp only [qA] at h1
  refine Qg Z (Qh Z Z (Qg Z (QE Z Z Z (Qg Z (Qy (Z7 h2s) Z Z (.inr Z) (Qg Z (ZP Z (Qi Z Z (hK _ _ (Qa (kp2 Z Z) ?_))))))))))
  refine QB Z (fun h2 => ?_) (fun h2 => ?_)
  ·try rw [h2]
   try simp only [qA] at h2
   refine Qe fun K hK => Qb Z (hK _ _ (Qa (kp1 Z) ?_))
   refine Qq (Qj (Qn Z ?_))
   first
    | exact (Qdl (i := i) h1 h2 (by omega) hI.2).symm
    | exact (X9 (i := i) (by omega) (.inl h4)).symm
    | exact (X9 (i := i) (by omega) (.inr h5)).symm
    | exact (Qaz (.inl h1)).symm
    | exact (Qaz (.inr h2)).symm
  ·try rw [h2]
   try simp only [qA] at h2
   refine Qx (Qf (kp1 Z) ?_)
   refine QH ?_ -- 1
   refine Qe fun K hK => Qb Z (hK _ _ (Qa (kp2 Z Z) ?_))
   refine QM ?_
   refine Ya (ι := Nat) (fun i => ⟨[(1, .ref 1 0 0), (3, .int .i64 i)], [(1, ⟨[[Zg s.1, Zg s.2]], 2, 30, true⟩)]⟩) (fun i => i <= s.1.length /\ (s.1.take i).all (fun x => Xb x.1 && Xb x.2) = true) (fun i => s.1.length - i) 0 ?_ ?_ ?_
   ·exact ZC (l := [1, 3]) (lH := [1]) (kp2 rfl rfl) (Qz rfl QC) rfl rfl rfl
   ·exact ⟨Nat.zero_le _, by simp⟩
   intro i hI
   try dsimp only
   refine QH ?_ -- 2
   refine Qe fun K hK => Qb Z (Qh Z Z (QE Z Z Z (ZJ Z Z (Y0 Z Z (hK _ _ (Qa (kp3 Z Z Z) ?_))))))
   refine QB Z (fun h3 => ?_) (fun h3 => ?_)
   ·try rw [h3]
    try simp only [qA] at h3
    refine Qx (Qf (kp2 Z Z) ?_)
    refine QH ?_ -- 3
    refine QM (Qe fun K hK => Qh Z Z (QE Z Z Z (Qb Z (Q2 Z Z Z (by omega) (ZW (by omega)) Z (Yb Z Z (QF (cs := [_, _, _, _, _, _, _]) Z Z Z Z (Qy (XM) Z Z (.inr Z) (ZP Z (Qb Z ?_)))))))))
    refine Qw (g := 29) Z (fun h4 => ?_) (fun h4 => ?_)
    ·try rw [h4]
     try simp only [qA] at h4
     refine Qr Z (Qr Z (Qr Z (Qr Z (Qr Z (Qr Z (Qr Z (Qr Z (Qi Z Z (hK _ _ (Qa (kp3 Z Z Z) ?_))))))))))
     refine Zl Z (Qe fun K hK => Qb Z (hK _ _ (Qa (kp1 Z) ?_)))
     refine Qq (Qu (Qj (Q7 (Qu (Qj (Qn Z ?_))))))
     first
      | exact (Qdl (i := i) h1 h2 (by omega) hI.2).symm
      | exact (X9 (i := i) (by omega) (.inl h4)).symm
      | exact (X9 (i := i) (by omega) (.inr h5)).symm
      | exact (Qaz (.inl h1)).symm
      | exact (Qaz (.inr h2)).symm
    ·try rw [h4]
     try simp only [qA] at h4
     refine Qg Z (Qh Z Z (Qg Z (QE Z Z Z (Qg Z (Qb Z (Qg Z (Q2 Z Z Z (by omega) (ZW (by omega)) Z (Qg Z (Yb Z Z (Qg Z (QF (cs := [_, _, _, _, _, _, _]) Z Z Z Z ?_)))))))))))
     refine Qg Z (Qy (XM) Z Z (.inr Z) (Qg Z (ZP Z (Qi Z Z (hK _ _ (Qa (kp3 Z Z Z) ?_))))))
     refine QB Z (fun h5 => ?_) (fun h5 => ?_)
     ·try rw [h5]
      try simp only [qA] at h5
      refine Qe fun K hK => Qb Z (hK _ _ (Qa (kp1 Z) ?_))
      refine Qq (Qu (Qj (Q7 (Qu (Qj (Qn Z ?_))))))
      first
       | exact (Qdl (i := i) h1 h2 (by omega) hI.2).symm
       | exact (X9 (i := i) (by omega) (.inl h4)).symm
       | exact (X9 (i := i) (by omega) (.inr h5)).symm
       | exact (Qaz (.inl h1)).symm
       | exact (Qaz (.inr h2)).symm
     ·try rw [h5]
      try simp only [qA] at h5
      refine Qx (Ql (Qf (kp2 Z Z) (Zf fun K hK => Qb Z (Zk Z Z (by first | exact Qt (by omega) (by omega) | rfl) (Qb Z (hK _ ?_))))))
      refine Qp (i + 1) ?_ ?_ ?_
      ·exact ZC (l := [1, 3]) (lH := [1]) (kp2 rfl rfl) (Qz rfl QC) rfl rfl rfl
      ·exact ⟨by omega, Zb (by omega) hI.2 (by rw [show Xb s.1[i].1 = true from h4, show Xb s.1[i].2 = true from h5]; rfl)⟩
      ·first | omega | (simp only; omega) | (dsimp only; omega)
   ·try rw [h3]
    try simp only [qA] at h3
    refine ZG (QR (QD (QJ (Qf (QV) (Qe fun K hK => Qb Z (hK _ _ (Qa (kp1 Z) ?_)))))))
    refine Qq (Qn Z ?_)
    first
     | exact (Qdl (i := i) h1 h2 (by omega) hI.2).symm
     | exact (X9 (i := i) (by omega) (.inl h4)).symm
     | exact (X9 (i := i) (by omega) (.inr h5)).symm
     | exact (Qaz (.inl h1)).symm
     | exact (Qaz (.inr h2)).symm
end Go.Proofs
namespace Go.Proofs
open Go Go.Abs M3 M25
set_option linter.unusedVariables false
set_option linter.unusedSimpArgs false
theorem Qai {l : List Cu} {c : Cu} (hl : l.length <= 3000000) (hs : ∀ x ∈ l, Cu.sm x) (hc : Cu.sm c) : Ok Tryd.prog 90 [Qgk l, .agg (dCu c)] (Qgk (QbF l c)) := by
 refine Ok.ofT Z5 Tryd.func90 Qri (Nat.le_of_ble_eq_true Z) ?_
 show TW _ _ tf90.body _ _
 refine Qe fun K hK => ZO Z Z Z (Qb Z (hK _ _ (Qa (kp2 Z Z) ?_)))
 refine Qe fun K hK => Qb Z (hK _ _ (Qa (kp3 Z Z Z) ?_))
 refine QH ?_ -- 0
 refine QM ?_
 refine Ya (ι := Nat) (fun k => ⟨[(0, Qgk l), (3, .ref 3 0 0), (5, .int .i64 k)], [(3, ⟨[dCu c], 7, 90, true⟩)]⟩) (fun k => k <= l.length /\ QbF l c = l.take k ++ QbF (l.drop k) c) (fun k => l.length - k) 0 ?_ ?_ ?_
 ·exact ZC (l := [0, 3, 5]) (lH := [3]) (kp3 rfl rfl rfl) (Qz rfl QC) rfl rfl rfl
 ·exact ⟨Nat.zero_le _, by simp⟩
 intro k hI
 try dsimp only
 refine QH ?_ -- 1
 refine Qe fun K hK => Qb Z (Qb Z (ZJ Z Z (Y0 Z Z (Qb Z ?_))))
 refine Qw (g := 10) Z (fun h1 => ?_) (fun h1 => ?_)
 ·try rw [h1]
  try simp only [qA] at h1
  refine Qg Z (Qb Z (Qg Z (Qb Z (Qg Z (Q2 Z Z Z (by omega) (ZW (by omega)) Z (Qg Z (QS (ds0 := [2, 1, 0]) (cs := [_, _, _, _, _, _, _]) Z Z Z Z Z Z (Qg Z (QS (ds0 := [2, 1, 0]) (cs := [_, _, _, _, _, _, _]) Z Z Z Z Z Z (Qg Z (Q1 (ds0 := [1, 0]) (Zs (hs _ (List.getElem_mem (by omega))).1 (hs _ (List.getElem_mem (by omega))).2 hc.1 hc.2) Z Z (.inr Z) Z Z ?_)))))))))))
  refine Qg Z (Y0 Z Z (Qi Z Z (hK _ _ (Qa (kp4 Z Z Z Z) ?_))))
  refine QB Z (fun h2 => ?_) (fun h2 => ?_)
  ·try rw [h2]
   try simp only [qA] at h2
   refine Qx (Qf (kp3 Z Z Z) (QM (Zf fun K hK => Qb Z (Zk Z Z (by first | exact Qt (by omega) (by omega) | rfl) (Qb Z (hK _ ?_))))))
   refine Ql ?_
   refine Qp (k + 1) ?_ ?_ ?_
   ·exact ZC (l := [0, 3, 5]) (lH := [3]) (kp3 rfl rfl rfl) (Qz rfl QC) rfl rfl rfl
   ·exact ⟨by omega, Qlf (by omega) h2 hI.2⟩
   ·first | omega | (simp only; omega) | (dsimp only; omega)
  ·try rw [h2]
   try simp only [qA] at h2
   refine ZG (QR (QD (QJ (Qf (kp3 Z Z Z) ?_))))
   refine QH ?_ -- 2
   refine Qe fun K hK => Qb Z (Qb Z (ZJ Z Z (Y0 Z Z (Qb Z ?_))))
   refine Qw (g := 25) Z (fun h3 => ?_) (fun h3 => ?_)
   ·try rw [h3]
    try simp only [qA] at h3
    refine Qg Z (Qb Z (Qg Z (Qb Z (Qg Z (Q2 Z Z Z (by omega) (ZW (by omega)) Z (Qg Z (QS (ds0 := [2, 1, 0]) (cs := [_, _, _, _, _, _, _]) Z Z Z Z Z Z (Qg Z (QS (ds0 := [2, 1, 0]) (cs := [_, _, _, _, _, _, _]) Z Z Z Z Z Z (Qg Z (Q1 (ds0 := [1, 0]) (Zs (hs _ (List.getElem_mem (by omega))).1 (hs _ (List.getElem_mem (by omega))).2 hc.1 hc.2) Z Z (.inr Z) Z Z ?_)))))))))))
    refine Qg Z (Yy Z Z (Qi Z Z (hK _ _ (Qa (kp4 Z Z Z Z) ?_))))
    refine QB Z (fun h4 => ?_) (fun h4 => ?_)
    ·try rw [h4]
     try simp only [qA] at h4
     refine Qe fun K hK => Qb Z (Qb Z (hK _ _ (Qa (kp1 Z) ?_)))
     refine Qq (Qj (Z8 Z ?_))
     rw [Qle (k := k) (by omega) (by assumption) hI.2]; rfl
    ·try rw [h4]
     try simp only [qA] at h4
     refine Qx (Qf (kp3 Z Z Z) (Qe fun K hK => Qb Z (Qb Z (Qgc Z Z Z Z (by omega) (by omega) (by simp; omega) QhZ Z (Qig (ds0 := [5, 1, 0]) Z Z (fun _ h => ⟨QmB, h⟩) Z (.inl Z) (by simp) (by simp; omega) (by simp; omega) Z Z (QS (ds0 := [6, 5, 1, 0]) (cs := [_, _, _, _, _, _, _]) Z Z Z Z Z Z (QL Z Z (Qey (ds0 := [1, 0]) Z Z (by simp [D.ids, D.sid]) ⟨_, rfl, rfl, rfl, rfl, rfl⟩ Z Z (by simp) Z Z (by simp; omega) (by simp; omega) Z Z (Qb Z (Qb Z ?_))))))))))
     refine Qgc Z Z Z Z (by omega) (by simp; omega) (by simp) QhZ Z (Qey (ds0 := [0]) Z Z (by simp [D.ids, D.sid]) ⟨rfl, QmB, rfl⟩ Z Z (by simp) Z Z (by simp; omega) (by simp; omega) Z Z (Qb Z (hK _ _ (Qa (kp1 Z) ?_))))
     refine Qq (Z8 Z ?_)
     rw [Qjv (k := k) (by first | exact .inl (by omega) | exact .inr ⟨by omega, by assumption, by assumption⟩) hI.2]; simp [Qas, D.fz, D.fzS, Qdy, lk, D.can, D.canS, Qgk, D.sid, (show ∀ a b : Nat, a + 1 + b = a + (b + 1) from fun a b => by omega), List.take_of_length_le (show (l.map dCu).length <= l.length by simp)] <;> rfl
   ·try rw [h3]
    try simp only [qA] at h3
    exact absurd h1 h3
 ·try rw [h1]
  try simp only [qA] at h1
  refine Qr Z (Qr Z (Qr Z (Qr Z (Qr Z (Qr Z (Qr Z (Qi Z Z (hK _ _ (Qa (kp4 Z Z Z Z) ?_)))))))))
  refine ZF Z (ZG (QR (QD (QJ (Qf (kp3 Z Z Z) ?_)))))
  refine QH ?_ -- 2
  refine Qe fun K hK => Qb Z (Qb Z (ZJ Z Z (Y0 Z Z (Qb Z ?_))))
  refine Qw (g := 25) Z (fun h5 => ?_) (fun h5 => ?_)
  ·try rw [h5]
   try simp only [qA] at h5
   exact absurd h5 h1
  ·try rw [h5]
   try simp only [qA] at h5
   refine Qr Z (Qr Z (Qr Z (Qr Z (Qr Z (Qr Z (Qr Z (Qi Z Z (hK _ _ (Qa (kp4 Z Z Z Z) ?_)))))))))
   refine ZF Z (Qx (Qf (kp3 Z Z Z) (Qe fun K hK => Qb Z (Qb Z (Qgc Z Z Z Z (by omega) (by omega) (by simp; omega) QhZ Z (Qig (ds0 := [5, 1, 0]) Z Z (fun _ h => ⟨QmB, h⟩) Z (.inl Z) (by simp) (by simp; omega) (by simp; omega) Z Z (QS (ds0 := [6, 5, 1, 0]) (cs := [_, _, _, _, _, _, _]) Z Z Z Z Z Z (QL Z Z (Qey (ds0 := [1, 0]) Z Z (by simp [D.ids, D.sid]) ⟨_, rfl, rfl, rfl, rfl, rfl⟩ Z Z (by simp) Z Z (by simp; omega) (by simp; omega) Z Z (Qb Z ?_))))))))))
   refine Qb Z (Qgc Z Z Z Z (by omega) (by simp; omega) (by simp) QhZ Z (Qey (ds0 := [0]) Z Z (by simp [D.ids, D.sid]) ⟨rfl, QmB, rfl⟩ Z Z (by simp) Z Z (by simp; omega) (by simp; omega) Z Z (Qb Z (hK _ _ (Qa (kp1 Z) ?_)))))
   refine Qq (Z8 Z ?_)
   rw [Qjv (k := k) (by first | exact .inl (by omega) | exact .inr ⟨by omega, by assumption, by assumption⟩) hI.2]; simp [Qas, D.fz, D.fzS, Qdy, lk, D.can, D.canS, Qgk, D.sid, (show ∀ a b : Nat, a + 1 + b = a + (b + 1) from fun a b => by omega), List.take_of_length_le (show (l.map dCu).length <= l.length by simp)] <;> rfl
theorem X1 {l : List (Cu × Cu)} (hl : Sm l) : Ok Tryd.prog 68 [Zg l] (Qgk (YK l)) := by
 refine Ok.ofT Z5 Tryd.func68 QqX (Nat.le_of_ble_eq_true Z) ?_
 show TW _ _ tf68.body _ _
 have hn := hl.1
 refine Qe fun K hK => Qb Z (hK _ _ (Qa (kp1 Z) ?_))
 refine Qe fun K hK => Qy (YS) Z Z (.inl Z) (Qy (Y8) Z Z (.inl Z) (QL Z Z (Qb Z (hK _ _ (Qa (kp2 Z Z) ?_)))))
 refine QH ?_ -- 0
 refine Qe fun K hK => Qb Z (hK _ _ (Qa (kp3 Z Z Z) ?_))
 refine QM ?_
 refine Ya (ι := Nat) (fun i => ⟨[(0, Zg l), (3, Qgk (YK (l.take i))), (4, .int .i64 i)], []⟩) (fun i => i <= l.length) (fun i => l.length - i) 0 ?_ ?_ ?_
 ·exact le_trans (Qk9 7 _ (by decide)) (ZC (l := [0, 3, 4]) (lH := []) (kp3 rfl rfl rfl) QC rfl rfl rfl)
 ·exact Nat.zero_le _
 intro i hI
 try dsimp only
 refine QH ?_ -- 1
 refine Qe fun K hK => Qb Z (Qb Z (ZJ Z Z (Y0 Z Z (hK _ _ (Qa (kp4 Z Z Z Z) ?_)))))
 refine QB Z (fun h1 => ?_) (fun h1 => ?_)
 ·try rw [h1]
  try simp only [qA] at h1
  refine Qx (Qf (kp3 Z Z Z) ?_)
  refine QH ?_ -- 2
  refine QM (Zf fun K hK => Qb Z (Qb Z (Qb Z (Q2 Z Z Z (by omega) (ZW (by omega)) Z (Yb Z Z (QS (ds0 := [7, 1, 0]) (cs := [_, _, _, _, _, _, _]) Z Z Z Z Z Z (Q1 (ds0 := [1, 0]) (Qai (Nat.le_trans (Qei hl i).1 (by omega)) (Qei hl i).2 (hl.2 _ (List.getElem_mem (by omega))).1) Z Z (.inl Z) Z Z (Qb Z (Qb Z (Q2 Z Z Z (by omega) (ZW (by omega)) Z ?_))))))))))
  refine Yb Z Z (QS (ds0 := [1, 0]) (cs := [_, _, _, _, _, _, _]) Z Z Z Z Z Z (Q1 (ds0 := [0]) (Qai (Nat.le_trans (Qek _ _) (by have := (Qei hl i).1; omega)) (QgJ (Qei hl i).2 (hl.2 _ (List.getElem_mem (by omega))).1) (hl.2 _ (List.getElem_mem (by omega))).2) Z Z (.inl Z) Z Z (Qb Z (hK _ ?_))))
  refine Ql (Qf (kp3 Z Z Z) (Zf fun K hK => Qb Z (Zk Z Z (by first | exact Qt (by omega) (by omega) | rfl) (Qb Z (hK _ ?_)))))
  refine Qp (i + 1) ?_ ?_ ?_
  ·exact ZC (l := [0, 3, 4]) (lH := []) (kp3 rfl rfl rfl) QC (by rw [Qmo (by omega)]; rfl) rfl rfl
  ·omega
  ·first | omega | (simp only; omega) | (dsimp only; omega)
 ·try rw [h1]
  try simp only [qA] at h1
  refine ZG (QR (QD (QJ (Qf (kp1 Z) (Qe fun K hK => Qb Z (Qb Z (hK _ _ (Qa (kp1 Z) ?_))))))))
  refine Qq (Z8 Z ?_)
  rw [List.take_of_length_le (show l.length <= i by omega)]; rfl
end Go.Proofs
namespace Go.Proofs
open Go Go.Abs M3 M25
set_option linter.unusedVariables false
set_option linter.unusedSimpArgs false
theorem X2 {l : List (Cu × Cu)} {x y : Cu} (hn : l.length <= 3000000) (hl : ∀ s ∈ l, Cu.sm s.1 /\ Cu.sm s.2) (hx : Cu.sm x) (hy : Cu.sm y) : OkH Tryd.prog 70 [.osl 500000 l.length, .agg (dCu x), .agg (dCu y)] [(500000, ⟨l.map Qd4, 14, 93, true⟩)] (.osl 500000 (QbE l x y).length) [(500000, ⟨(QbE l x y).map Qd4, 14, 93, true⟩)] := by
 refine OkH.mv Z5 Tryd.func70 QqZ (Nat.le_of_ble_eq_true Z) Z ?_
 show TW _ _ tf70.body _ _
 refine Qe fun K hK => ZO Z Z Z (ZO Z Z Z (Qb Z (hK _ _ (Qa (kp3 Z Z Z) ?_))))
 refine QH ?_ -- 0
 refine Qe fun K hK => Qb Z (ZJ Z Z (QcP Z Z (by first | exact Qt (by omega) (by omega) | rfl) (Qb Z (hK _ _ (Qa (kp4 Z Z Z Z) ?_)))))
 refine Qe fun K hK => Qb Z (Qi2 Z Z (Qb Z ?_))
 refine Qw (g := 13) Z (fun h1 => ?_) (fun h1 => ?_)
 ·try rw [h1]
  try simp only [qA] at h1
  refine Qg Z (Qb Z (Qg Z (Qb Z (Qg Z (QcO (ds0 := [5, 4, 2, 1, 0]) Z Z Z (by simp) (by omega) (by omega) Z Z Z (Qg Z (Qh Z Z (Qg Z (QS (ds0 := [2, 1, 0]) (cs := [_, _, _, _, _, _, _]) Z (Yg Z (Yv (by omega) (by omega))) Z Z Z Z (Qg Z (QS (ds0 := [2, 1, 0]) (cs := [_, _, _, _, _, _, _]) Z Z Z Z Z Z ?_)))))))))))
  refine Qg Z (Q1 (ds0 := [1, 0]) (Zs (hl _ (List.getElem_mem (by omega))).2.1 (hl _ (List.getElem_mem (by omega))).2.2 hx.1 hx.2) Z Z (.inr Z) Z Z (Qg Z (Yy Z Z (Qi Z Z (hK _ _ (Qa (kp5 Z Z Z Z Z) ?_))))))
  refine QB Z (fun h2 => ?_) (fun h2 => ?_)
  ·try rw [h2]
   try simp only [qA] at h2
   refine Qe fun K hK => Qb Z (Qb Z (QF (cs := [_, _, _, _, _, _, _]) Z Z Z Z (QaQ Z Z Z (by simp) (by omega) (by omega) Z (Qh Z Z (QY Z Z (Yv (by omega) (by omega)) Z Z Z Z Z (hK _ _ (Qa (kp1 Z) ?_)))))))
   refine Qe fun K hK => Qb Z (Qb Z (hK _ _ (Qa (kp1 Z) ?_)))
   refine Qq (Qj ?_)
   refine Qaa Z ?_ (QiP ?_)
   ·rw [QhM (i := ((l.length : Int) - 1).toNat) (by omega) h2]; simp [QlN, D.fz, D.fzS, QfC, D.can, D.canS]
   ·rw [QhM (i := ((l.length : Int) - 1).toNat) (by omega) h2]; simp [lk, List.map_set, Qd4, dCu, setRow, D.sid]
  ·try rw [h2]
   try simp only [qA] at h2
   refine Qx (Qf (kp3 Z Z Z) (Qe fun K hK => Qb Z (QF (cs := [_, _, _, _, _, _, _]) Z Z Z Z (QF (cs := [_, _, _, _, _, _, _]) Z Z Z Z (QX Z Z (QL Z Z (Qcj Z Z (fun _ h => QbS Z Z Z h) Z (by simp) Z Z Z (by simp; omega) (by simp; omega) (Qb Z (hK _ _ (Qa (kp1 Z) ?_))))))))))
   refine Qq ?_
   refine Qaa Z ?_ (QiP ?_)
   ·rw [Qdj (.inr ⟨((l.length : Int) - 1).toNat, by omega, h2⟩)]; simp [QlN, D.fz, D.fzS, QfC, D.can, D.canS]
   ·rw [Qdj (.inr ⟨((l.length : Int) - 1).toNat, by omega, h2⟩)]; simp [lk, Qd4, dCu, D.sid]
 ·try rw [h1]
  try simp only [qA] at h1
  refine Qr Z (Qr Z (Qr Z (Qr Z (Qr Z (Qr Z (Qr Z (Qr Z (Qi Z Z (hK _ _ (Qa (kp5 Z Z Z Z Z) ?_))))))))))
  refine ZF Z (Qx (Qf (kp3 Z Z Z) (Qe fun K hK => Qb Z (QF (cs := [_, _, _, _, _, _, _]) Z Z Z Z (QF (cs := [_, _, _, _, _, _, _]) Z Z Z Z (QX Z Z (QL Z Z (Qcj Z Z (fun _ h => QbS Z Z Z h) Z (by simp) Z Z Z (by simp; omega) (by simp; omega) (Qb Z (hK _ _ (Qa (kp1 Z) ?_)))))))))))
  refine Qq ?_
  have h0 : l = [] := List.eq_nil_of_length_eq_zero (by omega)
  refine Qaa Z ?_ (QiP ?_)
  ·rw [Qdj (.inl h0)]; simp [QlN, D.fz, D.fzS, QfC, D.can, D.canS]
  ·rw [Qdj (.inl h0)]; simp [lk, Qd4, dCu, D.sid]
end Go.Proofs
namespace Go.Proofs
open Go Go.Abs M3 M25
set_option linter.unusedVariables false
set_option linter.unusedSimpArgs false
theorem Qcz {l : List (Cu × Cu)} (hl : Sm l) : Ok Tryd.prog 67 [Zg l] (.tup [Zg (QiC l), .bool (l.all Qcq)]) := by
  refine Ok.ofT Z5 Tryd.func67 QqW (Nat.le_of_ble_eq_true Z) ?_
  show TW _ _ tf67.body _ _
  have hn := hl.1
  have hc1 := QbC l
  refine Qe fun K hK => Qb Z (Qb Z (hK _ _ (Qa (kp1 Z) ?_)))
  refine QH ?_ -- 0
  refine Qe fun K hK => Qb Z (hK _ _ (Qa (kp2 Z Z) ?_))
  refine QM ?_
  refine Ya (ι := Nat) (fun i => ⟨[(0, Zg l), (4, .int .i64 i)], []⟩) (fun i => i <= l.length /\ (l.take i).all Qcq = true) (fun i => l.length - i) 0 ?_ ?_ ?_
  · exact Q6 (kp2 rfl rfl)
  · exact ⟨Nat.zero_le _, by simp⟩
  intro i hI
  try dsimp only
  refine QH ?_ -- 1
  refine Qe fun K hK => Qb Z (Qb Z (ZJ Z Z (Y0 Z Z (hK _ _ (Qa (kp3 Z Z Z) ?_)))))
  refine QB Z (fun h1 => ?_) (fun h1 => ?_)
  · try rw [h1]
    try simp only [qA] at h1
    refine Qx (Qf (kp2 Z Z) ?_)
    refine QH ?_ -- 2
    refine QM (Qe fun K hK => Qb Z (Qb Z (Q2 Z Z Z (by omega) (ZW (by omega)) Z (QF (cs := [_, _, _, _, _, _, _, _, _, _, _, _, _, _]) Z Z Z Z (Qy (Xp (hl.at (i := i) (by omega)).1.1 (hl.at (i := i) (by omega)).1.2 (hl.at (i := i) (by omega)).2.1 (hl.at (i := i) (by omega)).2.2) Z Z (.inr Z) (ZP Z (hK _ _ (Qa (kp3 Z Z Z) ?_))))))))
    refine QB Z (fun h2 => ?_) (fun h2 => ?_)
    · try rw [h2]
      try simp only [qA] at h2
      refine Qe fun K hK => Qb Z (Qb Z (hK _ _ (Qa (kp2 Z Z) ?_)))
      refine Qq (Qu (Qj (Q7 (Qu (Qj ?_)))))
      first
        | exact ZN rfl rfl ⟨by rw [QiC, if_neg (by rw [Yf (i := i) (by omega) (by assumption)]; simp)]; rfl, by rw [Yf (i := i) (by omega) (by assumption)]; rfl⟩
        | (have ha : l.all Qcq = true := Y7 (by omega) hI.2
           exact ZN rfl rfl ⟨by rw [QiC, if_pos ha, hI2.done (by omega)]; simp [Qas, D.fz, D.fzS, Qdy, lk, D.can, D.canS, Zg], by rw [ha]; rfl⟩)
    · try rw [h2]
      try simp only [qA] at h2
      refine Qx (Ql (Qf (kp2 Z Z) (Zf fun K hK => Qb Z (Zk Z Z (by first | exact Qt (by omega) (by omega) | rfl) (Qb Z (hK _ ?_))))))
      refine Qp (i + 1) ?_ ?_ ?_
      · exact Q6 (kp2 rfl rfl)
      · exact ⟨by omega, Zb (by omega) hI.2 (by assumption)⟩
      · first | omega | (simp only; omega) | (dsimp only; omega)
  · try rw [h1]
    try simp only [qA] at h1
    refine ZG (QR (QD (QJ (Qf (kp1 Z) (Qe fun K hK => Qb Z (hK _ _ (Qa (kp2 Z Z) ?_)))))))
    refine Qe fun K hK => Qb Z (Qy (X1 hl) Z Z (.inl Z) (Qb Z (hK _ _ (Qa (kp3 Z Z Z) ?_))))
    refine QH ?_ -- 3
    refine Qe fun K hK => Qb Z (hK _ _ (Qa (kp4 Z Z Z Z) ?_))
    refine QM ?_
    refine Ya (ι := Nat × List (Cu × Cu)) (fun ⟨i, out⟩ => ⟨[(0, Zg l), (5, .osl 5 out.length), (6, Qgk (YK l)), (7, .int .i64 i)], [(5, ⟨out.map Qd4, 14, 93, true⟩)]⟩) (fun ⟨i, out⟩ => i <= (YK l).length /\ FillI (mIn l) (YK l) i out) (fun ⟨i, out⟩ => (YK l).length - i) (0, []) ?_ ?_ ?_
    · exact le_trans (X7 5 5 14 93 rfl rfl) (ZC (l := [0, 5, 6, 7]) (lH := [5]) (kp4 rfl rfl rfl rfl) (Qz rfl QC) rfl rfl rfl)
    · exact ⟨Nat.zero_le _, FillI.zero⟩
    intro ⟨i, out⟩ hI
    obtain ⟨hI1, hI2⟩ := hI
    have hI3 := hI2.1
    try dsimp only
    refine QH ?_ -- 4
    refine Qe fun K hK => Qb Z (Zk Z Z (by first | exact Qt (by omega) (by omega) | rfl) (Qb Z (ZJ Z Z (Y0 Z Z (hK _ _ (Qa (kp5 Z Z Z Z Z) ?_))))))
    refine QB Z (fun h3 => ?_) (fun h3 => ?_)
    · try rw [h3]
      try simp only [qA] at h3
      refine Qx (Qf (kp4 Z Z Z Z) ?_)
      refine QH ?_ -- 5
      refine QM (Qe fun K hK => Qb Z (Qb Z (Qb Z (Q2 Z Z Z (by omega) (ZW (by omega)) Z (QS (ds0 := [0]) (cs := [_, _, _, _, _, _, _]) Z Z Z Z Z Z (Qb Z (Qb Z (Zk Z Z (by first | exact Qt (by omega) (by omega) | rfl) (Q2 Z Z Z (by omega) (Qjm (by omega)) Z (QS (ds0 := [0]) (cs := [_, _, _, _, _, _, _]) Z Z Z Z Z Z ?_))))))))))
      refine Q1 (ds0 := []) (QaE hl (Ys hl _ (List.getElem_mem (by omega))) (Ys hl _ (List.getElem_mem (by omega)))) Z Z (.inr Z) Z Z (hK _ _ (Qa (kp5 Z Z Z Z Z) ?_))
      refine QB Z (fun h4 => ?_) (fun h4 => ?_)
      · try rw [h4]
        try simp only [qA] at h4
        refine Zf fun K hK => Qb rfl (Qb rfl (Qb rfl (Q2 rfl rfl rfl (by omega) (ZW (by omega)) rfl (QS (ds0 := [1, 0]) (cs := [_, _, _, _, _, _, _]) rfl rfl rfl rfl rfl rfl (Qb rfl (Qb rfl (Zk rfl rfl (by first | exact Qt (by omega) (by omega) | rfl) (Q2 rfl rfl rfl (by omega) (Qjm (by omega)) rfl (QS (ds0 := [1, 0]) (cs := [_, _, _, _, _, _, _]) rfl rfl rfl rfl rfl rfl (Qi1 (ds0 := [0]) (QmS (k := 5) rfl rfl rfl (by decide) rfl (by decide) (by simp [D.ids, D.sid, dCu]) ⟨.osl 5 out.length, by simp, by simp [D.ids, D.sid]⟩ rfl rfl (X2 (by omega) hI2.2.1 (Ys hl _ (List.getElem_mem (by omega))) (Ys hl _ (List.getElem_mem (by omega))))) (fun _ h => by cases h) rfl rfl ?_))))))))))
        refine Qb Z (hK _ ?_)
        refine Ql (Qf (kp4 Z Z Z Z) (Zf fun K hK => Qb Z (Zk Z Z (by first | exact Qt (by omega) (by omega) | rfl) (Qb Z (hK _ ?_)))))
        refine Qp (i + 1, QbE out (YK l)[i] (YK l)[i + 1]) ?_ ?_ ?_
        · exact le_trans (Qk7 (l := [0, 6, 7]) (t := 50) (u := 5) 5 (kp3 rfl rfl rfl) rfl rfl rfl rfl) (ZC (l := [0, 5, 6, 7]) (lH := [5]) (kp4 rfl rfl rfl rfl) (Qz rfl QC) rfl rfl rfl)
        · exact ⟨by omega, hI2.take (Ys hl) (by omega) (by assumption)⟩
        · show (YK l).length - (i + 1) < (YK l).length - i; omega
      · try rw [h4]
        try simp only [qA] at h4
        refine Qx (Ql (Qf (kp4 Z Z Z Z) (Zf fun K hK => Qb Z (Zk Z Z (by first | exact Qt (by omega) (by omega) | rfl) (Qb Z (hK _ ?_))))))
        refine Qp (i + 1, out) ?_ ?_ ?_
        · exact ZC (l := [0, 5, 6, 7]) (lH := [5]) (kp4 rfl rfl rfl rfl) (Qz rfl QC) rfl rfl rfl
        · exact ⟨by omega, hI2.skip (by omega) (by assumption)⟩
        · show (YK l).length - (i + 1) < (YK l).length - i; omega
    · try rw [h3]
      try simp only [qA] at h3
      refine ZG (QR (QD (QJ (Qf (kp1 Z) (Qe fun K hK => Qb Z (Qb Z (Qb Z (hK _ _ (Qa (kp2 Z Z) ?_)))))))))
      refine Qq ?_
      first
        | exact ZN rfl rfl ⟨by rw [QiC, if_neg (by rw [Yf (i := i) (by omega) (by assumption)]; simp)]; rfl, by rw [Yf (i := i) (by omega) (by assumption)]; rfl⟩
        | (have ha : l.all Qcq = true := Y7 (by omega) hI.2
           exact ZN rfl rfl ⟨by rw [QiC, if_pos ha, hI2.done (by omega)]; simp [Qas, D.fz, D.fzS, Qdy, lk, D.can, D.canS, Zg], by rw [ha]; rfl⟩)
end Go.Proofs
namespace Go.Proofs
open Go Go.Abs M3 M25
set_option linter.unusedVariables false
set_option linter.unusedSimpArgs false
theorem QaD {a b : List (Cu × Cu)} (ha : Sm a) (hb : Sm b) (hab : a.length + b.length <= 1000000) : Ok Tryd.prog 49 [Zg a, Zg b] (Zg (Qm0 a b)) := by
 refine Ok.ofT Z5 Tryd.func49 QqG (Nat.le_of_ble_eq_true Z) ?_
 show TW _ _ tf49.body _ _
 refine Qe fun K hK => Qb Z (hK _ _ (Qa (kp2 Z Z) ?_))
 refine QH ?_ -- 0
 refine Qe fun K hK => Qb Z (Qy (Z7 ha) Z Z (.inr Z) (ZP Z (Qb Z ?_)))
 refine Qw (g := 10) Z (fun h1 => ?_) (fun h1 => ?_)
 ·try rw [h1]
  try simp only [qB] at h1
  refine Qr Z (Qr Z (Qr Z (Qi Z Z (hK _ _ (Qa (kp3 Z Z Z) ?_)))))
  refine Zl Z (Qe fun K hK => Qb Z (hK _ _ (Qa (kp1 Z) ?_)))
  refine Qq (Qj (Z8 Z ?_))
  rw [Qm0, if_neg (by simp [h1])]; rfl
 ·try rw [h1]
  try simp only [qB] at h1
  refine Qg Z (Qb Z (Qg Z (Qy (Z7 hb) Z Z (.inr Z) (Qg Z (ZP Z (Qi Z Z (hK _ _ (Qa (kp3 Z Z Z) ?_))))))))
  refine QB Z (fun h2 => ?_) (fun h2 => ?_)
  ·try rw [h2]
   try simp only [qB] at h2
   refine Qe fun K hK => Qb Z (hK _ _ (Qa (kp1 Z) ?_))
   refine Qq (Qj (Z8 Z ?_))
   rw [Qm0, if_neg (by simp [h1, h2])]; rfl
  ·try rw [h2]
   try simp only [qB] at h2
   refine Qx (Qf (kp2 Z Z) (Qe fun K hK => Qb Z (Qos Z Z (fun _ h => Qna Qm5 h) Z (.inl Z) (by simp) (by simp; omega) (by simp; omega) (Qb Z (Qcj Z Z (fun _ h => Qna Qm5 h) Z (by simp) Z Z Z (by simp; omega) (by simp; omega) ?_)))))
   apply Qnj [17] (by simp)
   ·simp [St.freezeL, St.freeze, rem, D.fz, D.fzS, Box.fz, lk, D.scrub]; exact ⟨rfl, rfl⟩
   ·exact Qcz (ha.app hb hab)
   ·rfl
   ·simp [Qas, D.fz, D.fzS, Qdy, D.can, D.canS, Zg]
   ·exact .inl rfl
   refine Qb Z (Zc Z Z (Zc Z Z (Qb Z (Qb Z (hK _ _ (Qa (kp1 Z) ?_))))))
   refine Qe fun K hK => Qb Z (Qb Z (hK _ _ (Qa (kp1 Z) ?_)))
   refine Qq (Z8 Z ?_)
   rw [Qm0, if_pos ⟨h1, h2⟩]; rfl
theorem Qah {a : List (Cu × Cu)} (ha : Sm a) : Ok Tryd.prog 51 [Zg a] (Zg (QiD a)) := by
 refine Ok.ofT Z5 Tryd.func51 QqH (Nat.le_of_ble_eq_true Z) ?_
 show TW _ _ tf51.body _ _
 have hn := ha.1
 have hc1 := QbC a
 refine Qe fun K hK => Qb Z (hK _ _ (Qa (kp1 Z) ?_))
 refine QH ?_ -- 0
 refine Qe fun K hK => Qb Z (Qy (Z7 ha) Z Z (.inr Z) (ZP Z (hK _ _ (Qa (kp2 Z Z) ?_))))
 refine QB Z (fun h1 => ?_) (fun h1 => ?_)
 ·try rw [h1]
  try simp only [qA] at h1
  refine Qe fun K hK => Qb Z (hK _ _ (Qa (kp1 Z) ?_))
  refine Qq (Qj (Z8 Z ?_))
  rw [QiD, if_neg (by simp [h1])]; rfl
 ·try rw [h1]
  try simp only [qA] at h1
  refine Qx (Qf (kp1 Z) (Qe fun K hK => Qb Z (hK _ _ (Qa (kp2 Z Z) ?_))))
  refine Qe fun K hK => Qb Z (Qy (X1 ha) Z Z (.inl Z) (Qb Z (hK _ _ (Qa (kp3 Z Z Z) ?_))))
  refine QH ?_ -- 1
  refine Qe fun K hK => Qb Z (hK _ _ (Qa (kp4 Z Z Z Z) ?_))
  refine QM ?_
  refine Ya (ι := Nat × List (Cu × Cu)) (fun ⟨i, out⟩ => ⟨[(0, Zg a), (3, .osl 3 out.length), (4, Qgk (YK a)), (5, .int .i64 i)], [(3, ⟨out.map Qd4, 14, 93, true⟩)]⟩) (fun ⟨i, out⟩ => i <= (YK a).length /\ FillI (fun x y => !mIn a x y) (YK a) i out) (fun ⟨i, out⟩ => (YK a).length - i) (0, []) ?_ ?_ ?_
  ·exact le_trans (X7 3 3 14 93 rfl rfl) (ZC (l := [0, 3, 4, 5]) (lH := [3]) (kp4 rfl rfl rfl rfl) (Qz rfl QC) rfl rfl rfl)
  ·exact ⟨Nat.zero_le _, FillI.zero⟩
  intro ⟨i, out⟩ hI
  obtain ⟨hI1, hI2⟩ := hI
  have hI3 := hI2.1
  try dsimp only
  refine QH ?_ -- 2
  refine Qe fun K hK => Qb Z (Zk Z Z (by first | exact Qt (by omega) (by omega) | rfl) (Qb Z (ZJ Z Z (Y0 Z Z (hK _ _ (Qa (kp5 Z Z Z Z Z) ?_))))))
  refine QB Z (fun h2 => ?_) (fun h2 => ?_)
  ·try rw [h2]
   try simp only [qA] at h2
   refine Qx (Qf (kp4 Z Z Z Z) ?_)
   refine QH ?_ -- 3
   refine QM (Qe fun K hK => Qb Z (Qb Z (Qb Z (Q2 Z Z Z (by omega) (ZW (by omega)) Z (QS (ds0 := [1, 0]) (cs := [_, _, _, _, _, _, _]) Z Z Z Z Z Z (Qb Z (Qb Z (Zk Z Z (by first | exact Qt (by omega) (by omega) | rfl) (Q2 Z Z Z (by omega) (Qjm (by omega)) Z (QS (ds0 := [1, 0]) (cs := [_, _, _, _, _, _, _]) Z Z Z Z Z Z ?_))))))))))
   refine Q1 (ds0 := [0]) (QaE ha (Ys ha _ (List.getElem_mem (by omega))) (Ys ha _ (List.getElem_mem (by omega)))) Z Z (.inr Z) Z Z (ZP Z (hK _ _ (Qa (kp5 Z Z Z Z Z) ?_)))
   refine QB Z (fun h3 => ?_) (fun h3 => ?_)
   ·try rw [h3]
    try simp only [qA] at h3
    refine Zf fun K hK => Qb rfl (Qb rfl (Qb rfl (Q2 rfl rfl rfl (by omega) (ZW (by omega)) rfl (QS (ds0 := [1, 0]) (cs := [_, _, _, _, _, _, _]) rfl rfl rfl rfl rfl rfl (Qb rfl (Qb rfl (Zk rfl rfl (by first | exact Qt (by omega) (by omega) | rfl) (Q2 rfl rfl rfl (by omega) (Qjm (by omega)) rfl (QS (ds0 := [1, 0]) (cs := [_, _, _, _, _, _, _]) rfl rfl rfl rfl rfl rfl (Qi1 (ds0 := [0]) (QmS (k := 3) rfl rfl rfl (by decide) rfl (by decide) (by simp [D.ids, D.sid, dCu]) ⟨.osl 3 out.length, by simp, by simp [D.ids, D.sid]⟩ rfl rfl (X2 (by omega) hI2.2.1 (Ys ha _ (List.getElem_mem (by omega))) (Ys ha _ (List.getElem_mem (by omega))))) (fun _ h => by cases h) rfl rfl ?_))))))))))
    refine Qb Z (hK _ ?_)
    refine Ql (Qf (kp4 Z Z Z Z) (Zf fun K hK => Qb Z (Zk Z Z (by first | exact Qt (by omega) (by omega) | rfl) (Qb Z (hK _ ?_)))))
    refine Qp (i + 1, QbE out (YK a)[i] (YK a)[i + 1]) ?_ ?_ ?_
    ·exact le_trans (Qk7 (l := [0, 4, 5]) (t := 40) (u := 3) 3 (kp3 rfl rfl rfl) rfl rfl rfl rfl) (ZC (l := [0, 3, 4, 5]) (lH := [3]) (kp4 rfl rfl rfl rfl) (Qz rfl QC) rfl rfl rfl)
    ·exact ⟨by omega, hI2.take (Ys ha) (by omega) (by simp; assumption)⟩
    ·show (YK a).length - (i + 1) < (YK a).length - i; omega
   ·try rw [h3]
    try simp only [qA] at h3
    refine Qx (Ql (Qf (kp4 Z Z Z Z) (Zf fun K hK => Qb Z (Zk Z Z (by first | exact Qt (by omega) (by omega) | rfl) (Qb Z (hK _ ?_))))))
    refine Qp (i + 1, out) ?_ ?_ ?_
    ·exact ZC (l := [0, 3, 4, 5]) (lH := [3]) (kp4 rfl rfl rfl rfl) (Qz rfl QC) rfl rfl rfl
    ·exact ⟨by omega, hI2.skip (by omega) (by simp; assumption)⟩
    ·show (YK a).length - (i + 1) < (YK a).length - i; omega
  ·try rw [h2]
   try simp only [qA] at h2
   refine ZG (QR (QD (QJ (Qf (kp1 Z) (Qe fun K hK => Qb Z (Qb Z (hK _ _ (Qa (kp1 Z) ?_))))))))
   refine Qq (Z8 Z ?_)
   rw [QiD, if_pos h1, hI2.done (by omega)]; simp [Qas, D.fz, D.fzS, Qdy, lk, D.can, D.canS, Zg]
end Go.Proofs
namespace Go.Proofs
open Go Go.Abs M3 M25
set_option linter.unusedVariables false
set_option linter.unusedSimpArgs false
theorem QdA {a b : Qez} (h1a : Sm a.1) (h2a : Sm a.2) (h1b : Sm b.1) (h2b : Sm b.2) (hl1 : a.1.length + b.1.length <= 1000000) (hl2 : a.2.length + b.2.length <= 1000000) : Ok Tryd.prog 27 [Qfp a, Qfp b] (Qfp (Qm1 a b)) := by
 refine Ok.ofT Z5 Tryd.func27 Qqo (Nat.le_of_ble_eq_true Z) ?_
 show TW _ _ tf27.body _ _
 refine Qe fun K hK => ZO Z Z Z (ZO Z Z Z (ZE Z (hK _ _ (Qa (kp3 Z Z Z) ?_))))
 refine QH ?_ -- 0
 refine Qe fun K hK => QF (cs := [_, _]) Z Z Z Z (Qy (Xh h1a h2a) Z Z (.inr Z) (ZP Z (Qb Z ?_)))
 refine Qw (g := 8) Z (fun h1 => ?_) (fun h1 => ?_)
 ·try rw [h1]
  try simp only [qB] at h1
  refine Qr Z (Qr Z (Qr Z (Qi Z Z (hK _ _ (Qa (kp4 Z Z Z Z) ?_)))))
  refine Zl Z (Qe fun K hK => Qy (ZZ) Z Z (.inl Z) (QY Z Z Z Z Z Z Z Z (hK _ _ (Qa (kp1 Z) ?_))))
  refine Qq (Qj (Post.eq (Zw (ds := [.sl _, .sl _]) (cs := [_, _]) Z Z Z Z Z) ?_))
  rw [Qm1, if_neg (by simp [h1])]; rfl
 ·try rw [h1]
  try simp only [qB] at h1
  refine Qg Z (QF (cs := [_, _]) Z Z Z Z (Qg Z (Qy (Xh h1b h2b) Z Z (.inr Z) (Qg Z (ZP Z (Qi Z Z (hK _ _ (Qa (kp4 Z Z Z Z) ?_))))))))
  refine QB Z (fun h2 => ?_) (fun h2 => ?_)
  ·try rw [h2]
   try simp only [qB] at h2
   refine Qe fun K hK => Qy (ZZ) Z Z (.inl Z) (QY Z Z Z Z Z Z Z Z (hK _ _ (Qa (kp1 Z) ?_)))
   refine Qq (Qj (Post.eq (Zw (ds := [.sl _, .sl _]) (cs := [_, _]) Z Z Z Z Z) ?_))
   rw [Qm1, if_neg (by simp [h1, h2])]; rfl
  ·try rw [h2]
   try simp only [qB] at h2
   refine Qx (Qf (kp3 Z Z Z) (Qe fun K hK => Qh Z Z (Zr (ds0 := [7, 1, 0]) Z Z Z Z Z (Qh Z Z (Zr (ds0 := [7, 1, 0]) Z Z Z Z Z (Q1 (ds0 := [1, 0]) (QaD h1a h1b hl1) Z Z (.inl Z) Z Z (Qh Z Z (Zr (ds0 := [2, 1, 0]) Z Z Z Z Z (Qh Z Z (Zr (ds0 := [2, 1, 0]) Z Z Z Z Z ?_))))))))))
   refine Q1 (ds0 := [1, 0]) (QaD h2a h2b hl2) Z Z (.inl Z) Z Z (QX Z Z (Xd (ds0 := []) Z Z Z Z Z Z Z Z Z Z (hK _ _ (Qa (kp1 Z) ?_))))
   refine Qq (Post.eq (Zw (ds := [.sl _, .sl _]) (cs := [_, _]) Z Z Z Z Z) ?_)
   rw [Qm1, if_pos ⟨h1, h2⟩]; rfl
theorem Qc0 {a : Qez} (h1a : Sm a.1) (h2a : Sm a.2) : Ok Tryd.prog 29 [Qfp a] (Qfp (QgI a)) := by
 refine Ok.ofT Z5 Tryd.func29 Qqp (Nat.le_of_ble_eq_true Z) ?_
 show TW _ _ tf29.body _ _
 refine Qe fun K hK => ZO Z Z Z (ZE Z (hK _ _ (Qa (kp2 Z Z) ?_)))
 refine QH ?_ -- 0
 refine Qe fun K hK => QF (cs := [_, _]) Z Z Z Z (Qy (Xh h1a h2a) Z Z (.inr Z) (ZP Z (hK _ _ (Qa (kp3 Z Z Z) ?_))))
 refine QB Z (fun h1 => ?_) (fun h1 => ?_)
 ·try rw [h1]
  try simp only [qB] at h1
  refine Qe fun K hK => Qy (ZZ) Z Z (.inl Z) (QY Z Z Z Z Z Z Z Z (hK _ _ (Qa (kp1 Z) ?_)))
  refine Qq (Qj (Post.eq (Zw (ds := [.sl _, .sl _]) (cs := [_, _]) Z Z Z Z Z) ?_))
  rw [QgI, if_neg (by simp [h1])]; rfl
 ·try rw [h1]
  try simp only [qB] at h1
  refine Qx (Qf (kp2 Z Z) (Qe fun K hK => Qh Z Z (Zr (ds0 := [5, 1, 0]) Z Z Z Z Z (Q1 (ds0 := [1, 0]) (Qah h1a) Z Z (.inl Z) Z Z (Qh Z Z (Zr (ds0 := [2, 1, 0]) Z Z Z Z Z (Q1 (ds0 := [1, 0]) (Qah h2a) Z Z (.inl Z) Z Z (QX Z Z (Xd (ds0 := []) Z Z Z Z Z Z Z Z Z Z (hK _ _ (Qa (kp1 Z) ?_)))))))))))
  refine Qq (Post.eq (Zw (ds := [.sl _, .sl _]) (cs := [_, _]) Z Z Z Z Z) ?_)
  rw [QgI, if_pos h1]; rfl
end Go.Proofs
namespace Go.Proofs
open Go Go.Abs M3 M25
set_option linter.unusedVariables false
set_option linter.unusedSimpArgs false
theorem Yd {v n : Int} (hn : n <= 9223372036854775807) (hv : I64 v) : Ok Tryd.prog 11 [.int .i64 v, .int .i64 n] (.int .i64 (mPl v n)) := by
 refine Ok.ofT Z5 Tryd.func11 Qqg (Nat.le_of_ble_eq_true Z) ?_
 show TW _ _ tf11.body _ _
 refine Qe fun K hK => Qb Z (hK _ _ (Qa (kp2 Z Z) ?_))
 refine QH ?_ -- 0
 refine Qe fun K hK => Qb Z (Y0 Z Z (hK _ _ (Qa (kp3 Z Z Z) ?_)))
 refine QB Z (fun h1 => ?_) (fun h1 => ?_)
 ·try rw [h1]
  try simp only [qB] at h1
  refine Qe fun K hK => Qb Z (hK _ _ (Qa (kp1 Z) ?_))
  refine Qq (Qj (Qs Z ?_))
  rw [mPl, if_pos h1]
 ·try rw [h1]
  try simp only [qB] at h1
  refine Qx (Qf (kp2 Z Z) (Qe fun K hK => Qb Z (Qb Z (Qnn Z Z (by omega) (Qb Z (hK _ _ (Qa (kp2 Z Z) ?_)))))))
  refine QH ?_ -- 1
  refine Qe fun K hK => Qb Z (Y0 Z Z (hK _ _ (Qa (kp3 Z Z Z) ?_)))
  refine QB Z (fun h2 => ?_) (fun h2 => ?_)
  ·try rw [h2]
   try simp only [qB] at h2
   refine Qe fun K hK => Qb Z (Qb Z (Zk Z Z (Qt (by have := Int.lt_tmod_of_pos v (show 0 < n by omega); omega) (by have := Int.tmod_lt_of_pos v (show 0 < n by omega); omega)) (Qb Z (hK _ _ (Qa (kp1 Z) ?_)))))
   refine Qq (Qj (Qs Z ?_))
   rw [mPl, if_neg h1, Qe9, if_pos h2]
  ·try rw [h2]
   try simp only [qB] at h2
   refine Qx (Qf (kp1 Z) (Qe fun K hK => Qb Z (Qb Z (hK _ _ (Qa (kp1 Z) ?_)))))
   refine Qq (Qs Z ?_)
   rw [mPl, if_neg h1, Qe9, if_neg h2]
theorem Qdz {l : List Int} {i : Int} : Ok Tryd.prog 57 [ZQ l, .int .i64 i] (.int .i64 (QlO l i)) := by
 refine Ok.ofT Z5 Tryd.func57 QqN (Nat.le_of_ble_eq_true Z) ?_
 show TW _ _ tf57.body _ _
 refine Qe fun K hK => Qb Z (hK _ _ (Qa (kp2 Z Z) ?_))
 refine QH ?_ -- 0
 refine Qe fun K hK => Qb Z (Y0 Z Z (Qb Z ?_))
 refine Qw (g := 7) Z (fun h1 => ?_) (fun h1 => ?_)
 ·try rw [h1]
  try simp only [qA] at h1
  refine Qr Z (Qr Z (Qr Z (Qr Z (Qi Z Z (hK _ _ (Qa (kp3 Z Z Z) ?_))))))
  refine Zl Z (Qe fun K hK => Qb Z (Qnn Z Z (by omega) (Qb Z (hK _ _ (Qa (kp1 Z) ?_)))))
  refine Qq (Qj (Qs Z ?_))
  rw [QlO, if_pos (by omega)]
 ·try rw [h1]
  try simp only [qA] at h1
  refine Qg Z (Qb Z (Qg Z (Qb Z (Qg Z (ZJ Z Z (Qg Z (Qi2 Z Z (Qi Z Z (hK _ _ (Qa (kp3 Z Z Z) ?_))))))))))
  refine QB Z (fun h2 => ?_) (fun h2 => ?_)
  ·try rw [h2]
   try simp only [qA] at h2
   refine Qe fun K hK => Qb Z (Qnn Z Z (by omega) (Qb Z (hK _ _ (Qa (kp1 Z) ?_))))
   refine Qq (Qj (Qs Z ?_))
   rw [QlO, if_pos (by omega)]
  ·try rw [h2]
   try simp only [qA] at h2
   refine Qx (Qf (kp2 Z Z) (Qe fun K hK => Qb Z (Qb Z (Q2 Z Z Z (by omega) (Yv (by omega) (by omega)) Z (QE Z Z Z (Qb Z (hK _ _ (Qa (kp1 Z) ?_))))))))
   refine Qq (Qs Z ?_)
   exact (Qlc (by omega) (by omega)).symm
theorem XE {k : Nat} {L : List Int} {I n : Int} (hk : 1000000 <= k) (hL : ∀ x ∈ L, I64 x) (hn : n <= 9223372036854775807) (et : Nat) : OkH Tryd.prog 37 [.ref k 0 0, .int .i64 n] [(k, gB L I et)] (.int .i64 (nx L I n)) ((k, gB L (nxI I) et) :: [(k, gB L I et)]) := by
 refine OkH.lent hk Z5 Tryd.func37 Qqv (Nat.le_of_ble_eq_true Z) Z ?_
 show TW _ _ tf37.body _ _
 refine Qe fun K hK => Qb Z (hK _ _ (Qa (kp2 Z Z) ?_))
 refine Qe fun K hK => Qb Z (Z6 Z Z (Qh Z Qeh (QE Z (Yg QdJ Z) Z (Zk Z Z Z (Z6 Z Z (Qh Z Qeh (QY Z QdJ Z Z Z Z Z Z (hK _ _ (Qa (kp2 Z Z) ?_)))))))))
 refine Qe fun K hK => Qb Z (Z6 Z Z (Qh Z Qeh (Zr (ds0 := [3, 1, 0]) Z (Yg QdJ Z) Z Z Z (Qb Z (Z6 Z Z (Qh Z Qeh (Zr (ds0 := [4, 3, 1, 0]) Z (Yg QdJ Z) Z Z Z (QcP Z Z Z (Q1 (ds0 := [1, 0]) (Qdz) Z Z (.inr Z) Z Z (Qb Z ?_))))))))))
 refine Q1 (ds0 := [0]) (Yd hn (Qmn hL (Qdw _))) Z Z (.inr Z) Z Z (Qb Z (hK _ _ (Qa (kp1 Z) ?_)))
 refine Qq ?_
 exact Qaa rfl rfl (Qn4 QdJ)
end Go.Proofs
namespace Go.Proofs
open Go Go.Abs M3 M25
set_option linter.unusedVariables false
set_option linter.unusedSimpArgs false
theorem Qcv {v : Int} (h0 : 0 <= v) (h1v : v <= 61) : Ok Tryd.prog 41 [.int .i64 v] (.int .i64 (2 ^ v.toNat)) := by
 refine Ok.ofT Z5 Tryd.func41 Qqz (Nat.le_of_ble_eq_true Z) ?_
 show TW _ _ tf41.body _ _
 refine Qe fun K hK => Qb Z (hK _ _ (Qa (kp1 Z) ?_))
 refine Qe fun K hK => Qb Z (hK _ _ (Qa (kp2 Z Z) ?_))
 refine QH ?_ -- 0
 refine Qe fun K hK => Qb Z (hK _ _ (Qa (kp3 Z Z Z) ?_))
 refine QM ?_
 refine Ya (ι := Nat) (fun i => ⟨[(0, .int .i64 v), (3, .int .i64 (2 ^ i)), (4, .int .i64 i)], []⟩) (fun i => (i : Int) <= v) (fun i => v.toNat - i) 0 ?_ ?_ ?_
 ·exact Q6 (kp3 rfl rfl rfl)
 ·exact h0
 intro i hI
 have hp := QiH (i := i + 1) (by omega)
 rw [Int.pow_succ] at hp
 try dsimp only
 refine QH ?_ -- 1
 refine Qe fun K hK => Qb Z (Qb Z (Y0 Z Z (hK _ _ (Qa (kp4 Z Z Z Z) ?_))))
 refine QB Z (fun h1 => ?_) (fun h1 => ?_)
 ·try rw [h1]
  try simp only [qB] at h1
  refine Qx (Qf (kp3 Z Z Z) ?_)
  refine QH ?_ -- 2
  refine QM (Zf fun K hK => Qb rfl (QlU rfl rfl (Qt (by obtain ⟨p1, p2⟩ := hp; generalize (2 : Int) ^ i = z at *; omega) (by obtain ⟨p1, p2⟩ := hp; generalize (2 : Int) ^ i = z at *; omega)) (Qb rfl (hK _ ?_))))
  refine Ql (Qf (kp3 Z Z Z) (Zf fun K hK => Qb Z (Zk Z Z (Qt (by omega) (by omega)) (Qb Z (hK _ ?_)))))
  refine Qp (i + 1) ?_ ?_ ?_
  ·exact ZC (l := [0, 3, 4]) (lH := []) (kp3 rfl rfl rfl) QC (by rw [Int.pow_succ]; rfl) rfl rfl
  ·show ((i + 1 : Nat) : Int) <= v; omega
  ·first | omega | (simp only; omega) | (dsimp only; omega)
 ·try rw [h1]
  try simp only [qB] at h1
  refine ZG (QR (QD (QJ (Qf (kp1 Z) (Qe fun K hK => Qb Z (Qb Z (hK _ _ (Qa (kp1 Z) ?_))))))))
  refine Qq (Qs Z ?_)
  rw [show v.toNat = i by omega]
theorem Qaj {h m : Int} : Ok Tryd.prog 18 [.int .i64 h, .int .i64 m] (.int .i64 (QbI h m)) := by
 refine Ok.ofT Z5 Tryd.func18 Qql (Nat.le_of_ble_eq_true Z) ?_
 show TW _ _ tf18.body _ _
 refine Qe fun K hK => Qb Z (hK _ _ (Qa (kp2 Z Z) ?_))
 refine QH ?_ -- 0
 refine QM (Qe fun K hK => Qb Z (Qb Z (Qga Z Z (Yy Z Z (Qb Z (hK _ _ (Qa (kp3 Z Z Z) ?_)))))))
 refine QB Z (fun h1 => ?_) (fun h1 => ?_)
 ·try rw [h1]
  try simp only [qB] at h1
  refine Qe fun K hK => Qb Z (hK _ _ (Qa (kp1 Z) ?_))
  refine Qq (Qu (Qj (Qs Z ?_)))
  rw [QbI, if_pos h1]
 ·try rw [h1]
  try simp only [qB] at h1
  refine Qe fun K hK => Qb Z (Qb Z (Qif Z Z (Yy Z Z (Qb Z (hK _ _ (Qa (kp1 Z) ?_))))))
  refine QB Z (fun h2 => ?_) (fun h2 => ?_)
  ·try rw [h2]
   try simp only [qB] at h2
   refine Qe fun K hK => Qb Z (hK _ _ (Qa (kp1 Z) ?_))
   refine Qq (Qu (Qj (Qs Z ?_)))
   rw [QbI, if_neg h1, if_pos h2]
  ·try rw [h2]
   try simp only [qB] at h2
   refine Qx (Ql (Qf (QV) (Qe fun K hK => Qb Z (hK _ _ (Qa (kp1 Z) ?_)))))
   refine Qq (Qs Z ?_)
   rw [QbI, if_neg h1, if_neg h2]
end Go.Proofs
namespace Go.Proofs
open Go Go.Abs M3 M25
set_option linter.unusedVariables false
set_option linter.unusedSimpArgs false
theorem Xf  : Ok Tryd.prog 52 [] (.sl (versions.map dVr)) := by
 refine Ok.ofT Z5 Tryd.func52 QqI (Nat.le_of_ble_eq_true Z) ?_
 show TW _ _ tf52.body _ _
 refine Qe fun K hK => Qb Z (hK _ _ (Qa (QV) ?_))
 refine Qe fun K hK => QX Z Z (QX Z Z (QX Z Z (QX Z Z (QL Z Z (Qb Z (hK _ _ (Qa (kp1 Z) ?_)))))))
 refine Qq (Z8 Z ?_)
 rfl
end Go.Proofs
namespace M25
open Go Go.Abs M3
structure WantT where
 u : Int
 s : Qez
structure CandT where
 v : Vr
 sh : Int
 ns : List (List WantT)
 bs : List WantT
structure Qko where
 n : List UInt8
 f : List UInt8
 cs : List CandT
abbrev Q8 := List Qko
def Qd5 (x : WantT) : List D := [.int .i64 x.u, Zg x.s.1, Zg x.s.2]
def Q0 (l : List WantT) : D := .sl (l.map Qd5)
def QP (l : List (List WantT)) : D := .sl (l.map fun r => [Q0 r])
def QpB (c : CandT) : List D := [.int .i64 c.v.a, .int .i64 c.v.b, .int .i64 c.v.c, .str c.v.p, .str c.v.q, .int .i64 c.sh, QP c.ns, Q0 c.bs]
def QkC (l : List CandT) : D := .sl (l.map QpB)
def QdF (u : Qko) : List D := [.str u.n, .str u.f, QkC u.cs]
def Qbw (w : Q8) : D := .agg [.sl (w.map QdF)]
structure Qcs where
 u : Int
 m : Int
 deriving DecidableEq
structure QaR where
 u : Int
 m : Int
 l : Int
 c : Int
 deriving DecidableEq
structure RowT where
 k : Int
 u : Int
 a : Int
 b : Int
 t : List Qcs
def Ql1 (t : Qcs) : List D := [.int .i64 t.u, .int .i64 t.m]
abbrev Qb8 (a b : Int) : Int := Qa0 .and .i64 a b
abbrev bor (a b : Int) : Int := Qa0 .or .i64 a b
abbrev Qbg (a b : Int) : Int := Qa0 .andNot .i64 a b
def uAt (w : Q8) (u : Int) : Option Qko := if u < 0 then none else w[u.toNat]?
theorem Qfn {w : Q8} {u : Int} (h0 : 0 <= u) (h : u < w.length) : uAt w u = some (w[u.toNat]'(by omega)) := by
 rw [uAt, if_neg (by omega), List.getElem?_eq_getElem (by omega)]
theorem QgV {w : Q8} {u : Int} (h : u < 0 \/ (w.length : Int) <= u) : uAt w u = none := by
 unfold uAt
 split
 ·rfl
 ·rw [List.getElem?_eq_none]; omega
def Z4 (w : Q8) (u : Int) : Int := match uAt w u with
 | none => 0
 | some x => 2 ^ (min x.cs.length 16 + 1) - 1
theorem Qdh {w : Q8} {u : Int} (h0 : 0 <= u) (h : u < w.length) : Z4 w u = 2 ^ (min (w[u.toNat]'(by omega)).cs.length 16 + 1) - 1 := by
 rw [Z4, Qfn h0 h]
theorem Qdi {w : Q8} {u : Int} (h : u < 0 \/ (w.length : Int) <= u) : Z4 w u = 0 := by rw [Z4, QgV h]
theorem Qej (w : Q8) (u : Int) : 0 <= Z4 w u /\ Z4 w u <= 131071 := by
 unfold Z4
 split
 ·omega
 ·rename_i x _
  have h1 : (2 : Nat) ^ (min x.cs.length 16 + 1) <= 2 ^ 17 := Nat.pow_le_pow_right (by omega) (by omega)
  have h2 : 1 <= (2 : Nat) ^ (min x.cs.length 16 + 1) := Nat.one_le_two_pow
  have h3 : ((2 ^ (min x.cs.length 16 + 1) : Nat) : Int) = (2 : Int) ^ (min x.cs.length 16 + 1) := by simp
  rw [<- h3]
  have h4 : (2 : Nat) ^ 17 = 131072 := by decide
  omega
def Qfo (v : Vr) : Prop := v.p.length <= 1000000 /\ v.q.length <= 1000000
structure WSm (w : Q8) : Prop where
 len : w.length <= 48
 cs : ∀ u ∈ w, u.cs.length <= 16
 vs : ∀ u ∈ w, ∀ c ∈ u.cs, Qfo c.v
 ns : ∀ u ∈ w, ∀ c ∈ u.cs, c.ns.length <= 1000 /\ c.bs.length <= 1000
 nl : ∀ u ∈ w, ∀ c ∈ u.cs, ∀ r ∈ c.ns, r.length <= 1000
 nw : ∀ u ∈ w, ∀ c ∈ u.cs, ∀ r ∈ c.ns, ∀ x ∈ r, Sm x.s.1 /\ Sm x.s.2
 bw : ∀ u ∈ w, ∀ c ∈ u.cs, ∀ x ∈ c.bs, Sm x.s.1 /\ Sm x.s.2
def Qog (s : Qez) (v : Vr) : Bool := Qj7 s v.a v.b v.c v.p v.q
def Qdm (s : Qez) (l : List CandT) : Nat -> Int
 | 0 => 0
 | n + 1 => Qdm s l n + match l[n]? with
  | some c => if Qog s c.v = true then 2 ^ (n + 1) else 0
  | none => 0
theorem Qjz (s : Qez) (l : List CandT) : ∀ n, 0 <= Qdm s l n /\ Qdm s l n <= 2 ^ (n + 1) - 2
 | 0 => by simp [Qdm]
 | n + 1 => by
  obtain ⟨h1, h2⟩ := Qjz s l n
  have h3 : (2 : Int) ^ (n + 1 + 1) = 2 ^ (n + 1) * 2 := Int.pow_succ ..
  have h4 : (0 : Int) < 2 ^ (n + 1) := Int.pow_pos (by omega)
  rw [Qdm, h3]
  generalize (2 : Int) ^ (n + 1) = z at *
  split
  ·split <;> omega
  ·omega
theorem Qli {s : Qez} {l : List CandT} {i : Nat} (h : i < l.length) (hp : Qog s l[i].v = true) : Qdm s l (i + 1) = Qdm s l i + 2 ^ (i + 1) := by
 rw [Qdm, List.getElem?_eq_getElem h]; simp only [hp, if_true]
theorem Qmu {s : Qez} {l : List CandT} {i : Nat} (h : i < l.length) (hp : Qog s l[i].v = false) : Qdm s l (i + 1) = Qdm s l i := by
 rw [Qdm, List.getElem?_eq_getElem h]; simp only [hp, Bool.false_eq_true, if_false, Int.add_zero]
def QnR (w : Q8) (x : WantT) : Int := match uAt w x.u with
 | none => 0
 | some un => Qdm x.s un.cs (min un.cs.length 16)
theorem QnS {w : Q8} {x : WantT} (h0 : 0 <= x.u) (h : x.u < w.length) : QnR w x = Qdm x.s (w[x.u.toNat]'(by omega)).cs (min (w[x.u.toNat]'(by omega)).cs.length 16) := by
 rw [QnR, Qfn h0 h]
theorem Qmq {w : Q8} {x : WantT} (h : x.u < 0 \/ (w.length : Int) <= x.u) : QnR w x = 0 := by rw [QnR, QgV h]
theorem Qo4 {n : Nat} (h : n <= 17) : 1 <= (2 : Int) ^ n /\ (2 : Int) ^ n <= 131072 := by
 have h1 : (2 : Nat) ^ n <= 2 ^ 17 := Nat.pow_le_pow_right (by omega) h
 have h2 : 1 <= (2 : Nat) ^ n := Nat.one_le_two_pow
 have h3 : ((2 ^ n : Nat) : Int) = (2 : Int) ^ n := by simp
 rw [<- h3]
 have h4 : (2 : Nat) ^ 17 = 131072 := by decide
 omega
def QdZ (w : Q8) (c : List Int) (u : Int) : Int := match uAt w u with
 | none => 0
 | some x => if (c.length : Int) <= u then 0 else if c.getD u.toNat 0 < -1 \/ ((min x.cs.length 16 : Nat) : Int) <= c.getD u.toNat 0 then 0 else 2 ^ (c.getD u.toNat 0 + 1).toNat
def Qj8 (w : Q8) (t : Qcs) : Bool := !decide (t.m = 0) && decide (Qb8 t.m (Z4 w t.u) = t.m) && !decide (t.m = Z4 w t.u)
def Yq (m : Int) : Nat -> List Int
 | 0 => []
 | n + 1 => Yq m n ++ if Qb8 m (2 ^ n) = 0 then [] else [(n : Int) - 1]
def Xs (m : Int) : List Int := Yq m 17
def inW (w : Q8) (u : Int) : Bool := decide (0 <= u) && decide (u < w.length)
/-! ### Trails -/
def Qfy (w : Q8) (l : List QaR) (u : Int) : Int := l.foldl (fun a s => if s.u = u /\ inW w u = true then s.m else a) (Z4 w u)
def QoX (l : List QaR) : Int := match l.getLast? with
 | none => 0
 | some s => s.l
def Qmp (l : List QaR) (u : Int) : Bool := l.any fun s => decide (s.u = u) && decide (s.c = -1)
def QpF (w : Q8) (l : List QaR) (inc : List Qcs) : Bool := inc.all fun t => decide (QhQ (Qfy w l t.u) t.m = 2)
def QgL (have_ : Int -> Int) : List Qcs -> Int -> Int
 | [], at_ => at_
 | t :: r, at_ => if QhQ (have_ t.u) t.m = 0 then -1 else if QhQ (have_ t.u) t.m = 1 then (if 0 <= at_ then -1 else QgL have_ r t.u) else QgL have_ r at_
def QoY (w : Q8) (l : List QaR) (inc : List Qcs) : Int := QgL (Qfy w l) inc (-1)
def QjI (w : Q8) (l : List QaR) : Nat -> List (List Qcs) -> Int × Int
 | _, [] => (-1, -1)
 | i, x :: r => if QpF w l x = true then (i, -1) else if 0 <= QoY w l x then (i, QoY w l x) else QjI w l (i + 1) r
def QpE (w : Q8) (db : List (List Qcs)) (l : List QaR) : Int × Int := QjI w l 0 db
end M25
namespace M25
open Go Go.Abs M3
section
variable {fr : List (Nat × D)} {H : List (Nat × Box)} {t u : Nat}
end
theorem QpG (n : Nat) : (min (n : Int) 16 + 1).toNat = min n 16 + 1 := by omega
theorem Qia {n : Nat} (h : n <= 62) : IntKind.i64.wrap ((2 : Int) ^ n - 1) = 2 ^ n - 1 := by
 have := QiH h; exact Qt (by omega) (by omega)
theorem QaI {w : Q8} {c : List Int} {u : Int} (h : (u < 0 \/ (w.length : Int) <= u) \/ (c.length : Int) <= u) : QdZ w c u = 0 := by
 unfold QdZ
 split
 ·rfl
 ·rename_i x hx
  rcases h with h | h
  ·rw [QgV h] at hx; cases hx
  ·rw [if_pos h]
theorem QaH {w : Q8} {c : List Int} {u : Int} (h0 : 0 <= u) (h1 : u < w.length) (h2 : u < c.length) (h : c[u.toNat]'(by omega) < -1 \/ min (((w[u.toNat]'(by omega)).cs.length : Nat) : Int) 16 <= c[u.toNat]'(by omega)) : QdZ w c u = 0 := by
 rw [QdZ, Qfn h0 h1]
 simp only []
 rw [if_neg (by omega), List.getD_eq_getElem?_getD, List.getElem?_eq_getElem (by omega)]
 simp only [Option.getD_some]
 rw [if_pos]
 rcases h with h | h
 ·exact .inl h
 ·right; omega
theorem QbJ {w : Q8} {c : List Int} {u : Int} (h0 : 0 <= u) (h1 : u < w.length) (h2 : u < c.length) (h : ¬ c[u.toNat]'(by omega) < -1) (h' : ¬ min (((w[u.toNat]'(by omega)).cs.length : Nat) : Int) 16 <= c[u.toNat]'(by omega)) : QdZ w c u = 2 ^ (c[u.toNat]'(by omega) + 1).toNat := by
 rw [QdZ, Qfn h0 h1]
 simp only []
 rw [if_neg (by omega), List.getD_eq_getElem?_getD, List.getElem?_eq_getElem (by omega)]
 simp only [Option.getD_some]
 rw [if_neg]
 omega
theorem Qjc {m : Int} {n : Nat} (h : ¬ Qb8 m (2 ^ n) = 0) : Yq m (n + 1) = Yq m n ++ [(n : Int) - 1] := by rw [Yq, if_neg h]
theorem QkJ {m : Int} {n : Nat} (h : Qb8 m (2 ^ n) = 0) : Yq m (n + 1) = Yq m n := by rw [Yq, if_pos h, List.append_nil]
theorem QoQ {w : Q8} {u : Int} (h0 : 0 <= u) (h : u < w.length) : inW w u = true := by simp [inW, h0, h]
theorem Qk2 {w : Q8} {u : Int} (h : u < 0 \/ (w.length : Int) <= u) : inW w u = false := by
 simp only [inW, Bool.and_eq_false_iff, decide_eq_false_iff_not]; omega
theorem QeX {w : Q8} {u : Int} : inW w u = true ↔ 0 <= u /\ u < w.length := by simp [inW]
theorem QjQ {e : Int} (h1 : 0 <= e) (h2 : e <= 18446744073709551615) : IntKind.u64.wrap e = e := by
 unfold IntKind.wrap
 simp only [IntKind.bits, IntKind.signed, Bool.false_and, Bool.false_eq_true, if_false]
 omega
end M25
namespace Go.Proofs
open Go Go.Abs M3 M25
set_option linter.unusedVariables false
set_option linter.unusedSimpArgs false
theorem YR {w : Q8} (hw : WSm w) {u : Int} : Ok Tryd.prog 14 [Qbw w, .int .i64 u] (.int .i64 (Z4 w u)) := by
 refine Ok.ofT Z5 Tryd.func14 Qqi (Nat.le_of_ble_eq_true Z) ?_
 show TW _ _ tf14.body _ _
 refine Qe fun K hK => ZO Z Z Z (Qb Z (hK _ _ (Qa (kp2 Z Z) ?_)))
 refine QH ?_ -- 0
 refine Qe fun K hK => Qb Z (Y0 Z Z (Qb Z ?_))
 refine Qw (g := 7) Z (fun h1 => ?_) (fun h1 => ?_)
 ·try rw [h1]
  try simp only [qA] at h1
  refine Qr Z (Qr Z (Qr Z (Qr Z (Qr Z (Qi Z Z (hK _ _ (Qa (kp3 Z Z Z) ?_)))))))
  refine Zl Z (Qe fun K hK => Qb Z (hK _ _ (Qa (kp1 Z) ?_)))
  refine Qq (Qj (Qs Z ?_))
  rw [Qdi (by omega)]
 ·try rw [h1]
  try simp only [qA] at h1
  refine Qg Z (Qb Z (Qg Z (Qh Z Z (Qg Z (QE Z Z Z (Qg Z (ZJ Z Z (Qg Z (Qi2 Z Z (Qi Z Z (hK _ _ (Qa (kp3 Z Z Z) ?_))))))))))))
  refine QB Z (fun h2 => ?_) (fun h2 => ?_)
  ·try rw [h2]
   try simp only [qA] at h2
   refine Qe fun K hK => Qb Z (hK _ _ (Qa (kp1 Z) ?_))
   refine Qq (Qj (Qs Z ?_))
   rw [Qdi (by omega)]
  ·try rw [h2]
   try simp only [qA] at h2
   refine Qx (Qf (kp2 Z Z) (Qe fun K hK => Qh Z Z (QE Z Z Z (Qb Z (Q2 Z Z Z (by omega) (Yv (by omega) (by omega)) Z (Yb Z Z (QE Z Z Z (ZJ Z Z (Qpr Z Z (Zk Z Z (by first | exact Qt (by omega) (by omega) | rfl) ?_))))))))))
   refine Qy (Qcv (by omega) (by omega)) Z Z (.inr Z) (QcP Z Z (Qia (by omega)) (Qb Z (hK _ _ (Qa (kp1 Z) ?_))))
   refine Qq (Qs Z ?_)
   rw [Qdh (by omega) (by omega), List.length_map, QpG]
end Go.Proofs
namespace M25
open Go Go.Abs M3
end M25
namespace M25
open Go Go.Abs M3
/-! ### Bits of numbers -/
theorem QgZ (e : Int) : IntKind.i64.wrap e = (BitVec.ofInt 64 e).toInt := by
 have hb : (BitVec.ofInt 64 e).toInt = if e % 18446744073709551616 < 9223372036854775808 then e % 18446744073709551616 else e % 18446744073709551616 - 18446744073709551616 := by
  rw [BitVec.toInt_ofInt]; rfl
 rw [hb]
 unfold IntKind.wrap
 simp only [IntKind.bits, IntKind.signed, Bool.true_and]
 split
 ·rename_i h
  have := of_decide_eq_true h
  split <;> omega
 ·rename_i h
  have : ¬ (e % 2 ^ 64 >= 2 ^ (64 - 1)) := fun hh => h (decide_eq_true hh)
  split <;> omega
theorem QcI (b : BitVec 64) : BitVec.ofInt 64 (b.toNat : Int) = b := by
 rw [BitVec.ofInt_natCast, BitVec.ofNat_toNat, BitVec.setWidth_eq]
theorem QoG (x y : Int) : BitVec.ofInt 64 (Qb8 x y) = BitVec.ofInt 64 x &&& BitVec.ofInt 64 y := by
 show BitVec.ofInt 64 (IntKind.i64.wrap ((BitVec.ofInt 64 x &&& BitVec.ofInt 64 y).toNat : Int)) = _
 rw [QgZ, BitVec.ofInt_toInt, QcI]
theorem Qpy (x y : Int) : BitVec.ofInt 64 (bor x y) = BitVec.ofInt 64 x ||| BitVec.ofInt 64 y := by
 show BitVec.ofInt 64 (IntKind.i64.wrap ((BitVec.ofInt 64 x ||| BitVec.ofInt 64 y).toNat : Int)) = _
 rw [QgZ, BitVec.ofInt_toInt, QcI]
theorem QoH (x y : Int) : BitVec.ofInt 64 (Qbg x y) = BitVec.ofInt 64 x &&& ~~~ BitVec.ofInt 64 y := by
 show BitVec.ofInt 64 (IntKind.i64.wrap ((BitVec.ofInt 64 x &&& ~~~ BitVec.ofInt 64 y).toNat : Int)) = _
 rw [QgZ, BitVec.ofInt_toInt, QcI]
theorem Qmf {x : Int} (h : I64 x) : IntKind.i64.wrap x = x := Qt h.1 h.2
theorem QmR {x : Int} (h : I64 x) : (BitVec.ofInt 64 x).toInt = x := by rw [<- QgZ, Qmf h]
theorem Qk1 (x y : Int) : I64 (Qb8 x y) := Qdw _
theorem QoM (x y : Int) : I64 (bor x y) := Qdw _
theorem QnL (x y : Int) : I64 (Qbg x y) := Qdw _
def tb (x : Int) (i : Nat) : Bool := (BitVec.ofInt 64 x).getLsbD i
theorem QlD (x y : Int) (i : Nat) : tb (Qb8 x y) i = (tb x i && tb y i) := by rw [tb, QoG, BitVec.getLsbD_and]; rfl
theorem QpL (x y : Int) (i : Nat) : tb (bor x y) i = (tb x i || tb y i) := by rw [tb, Qpy, BitVec.getLsbD_or]; rfl
theorem QjM (x y : Int) {i : Nat} : tb (Qbg x y) i = (tb x i && !tb y i) := by
 rw [tb, QoH, BitVec.getLsbD_and, BitVec.getLsbD_not]
 by_cases h : i < 64
 ·simp [h, tb]
 ·simp [tb, BitVec.getLsbD_of_ge _ i (by omega : 64 <= i)]
theorem Qkd (x : Int) {i : Nat} (h : 64 <= i) : tb x i = false := BitVec.getLsbD_of_ge _ i h
theorem QlE {x y : Int} (hx : I64 x) (hy : I64 y) (h : ∀ i, tb x i = tb y i) : x = y := by
 rw [<- QmR hx, <- QmR hy]
 congr 1
 exact BitVec.eq_of_getLsbD_eq fun i _ => h i
theorem QlG (i : Nat) : tb 0 i = false := by
 show (BitVec.ofInt 64 0).getLsbD i = false
 rw [show BitVec.ofInt 64 0 = 0#64 from rfl, BitVec.getLsbD_zero]
theorem QcC {x : Int} (hx : I64 x) : x = 0 ↔ ∀ i, tb x i = false := by
 constructor
 ·rintro rfl i; exact QlG i
 ·intro h; exact QlE hx ⟨by omega, by omega⟩ fun i => by rw [h i, QlG]
theorem Qh8 (n : Nat) {i : Nat} (h : i < 64) : tb (n : Int) i = n.testBit i := by
 rw [tb, BitVec.ofInt_natCast, BitVec.getLsbD_ofNat]; simp [h]
theorem QjN {k : Nat} (hk : k < 64) (i : Nat) : tb ((2 : Int) ^ k) i = decide (i = k) := by
 have e : ((2 ^ k : Nat) : Int) = (2 : Int) ^ k := by simp
 by_cases h : i < 64
 ·rw [<- e, Qh8 _ h, Nat.testBit_two_pow]
  exact decide_eq_decide.2 eq_comm
 ·rw [Qkd _ (by omega)]; exact (decide_eq_false (by omega)).symm
theorem Qd9 {x m : Int} : Qb8 x m = 0 ↔ ∀ i, tb x i = true -> tb m i = false := by
 rw [QcC (Qk1 x m)]
 refine forall_congr' fun i => ?_
 rw [QlD]; cases tb x i <;> cases tb m i <;> simp
theorem QgK {x m : Int} : Qbg x m = 0 ↔ ∀ i, tb x i = true -> tb m i = true := by
 rw [QcC (QnL x m)]
 refine forall_congr' fun i => ?_
 rw [QjM]; cases tb x i <;> cases tb m i <;> simp
theorem Qhg {x m : Int} (hx : I64 x) : Qb8 x m = x ↔ ∀ i, tb x i = true -> tb m i = true := by
 constructor
 ·intro h i hi
  have := congrArg (fun z => tb z i) h
  simp only [QlD, hi, Bool.true_and] at this
  exact this
 ·intro h
  refine QlE (Qk1 x m) hx fun i => ?_
  rw [QlD]
  cases hx2 : tb x i
  ·rfl
  ·rw [h i hx2]; rfl
def Lo (x : Int) : Prop := 0 <= x /\ x < 131072
theorem Lo.i64 {x : Int} (h : Lo x) : I64 x := ⟨by have := h.1; omega, by have := h.2; omega⟩
theorem QnQ (w : Q8) (u : Int) : Lo (Z4 w u) := ⟨(Qej w u).1, by have := (Qej w u).2; omega⟩
theorem QlZ {x : Int} {k : Nat} (hk : k < 64) : Qb8 x (2 ^ k) = 0 ↔ tb x k = false := by
 rw [Qd9]
 constructor
 ·intro h
  cases hx : tb x k
  ·rfl
  ·have := h k hx; rw [QjN hk] at this; simp at this
 ·intro h i hi
  rw [QjN hk]
  by_cases e : i = k
  ·subst e; rw [h] at hi; cases hi
  ·exact decide_eq_false e
end M25
namespace M25
open Go Go.Abs M3
/-! ### Trails: the loops' laws -/
theorem QkS {w : Q8} {u : Int} : Z4 w u = 0 ↔ inW w u = false := by
 constructor
 ·intro h
  cases hw : inW w u
  ·rfl
  ·rw [QeX] at hw
   rw [Qdh hw.1 hw.2] at h
   have h2 : 2 <= (2 : Int) ^ (min (w[u.toNat]'(by omega)).cs.length 16 + 1) := by
    rw [Int.pow_succ]
    have := Qo4 (n := min (w[u.toNat]'(by omega)).cs.length 16) (by omega)
    omega
   omega
 ·intro h
  refine Qdi (Classical.byContradiction fun hn => ?_)
  rw [QoQ (by omega) (by omega)] at h; cases h
def Qor (w : Q8) (l : List QaR) : Prop := ∀ s ∈ l, Lo s.m
end M25
namespace M25
open Go Go.Abs M3
theorem QlM {v : Int} (h : (v + 1).toNat <= 61) : IntKind.i64.wrap ((1 : Int) * 2 ^ min (v + 1).toNat IntKind.i64.bits) = 2 ^ (v + 1).toNat := by
 rw [show min (v + 1).toNat IntKind.i64.bits = (v + 1).toNat from by simp only [IntKind.bits]; omega, Int.one_mul]
 have := QiH (i := (v + 1).toNat) (by omega)
 exact Qt (by omega) (by omega)
end M25
namespace Go.Proofs
open Go Go.Abs M3 M25
set_option linter.unusedVariables false
set_option linter.unusedSimpArgs false
theorem QbU {v : Int} (h0 : -1 <= v) (h1v : v <= 60) : Ok Tryd.prog 40 [.int .i64 v] (.int .i64 (2 ^ (v + 1).toNat)) := by
 refine Ok.ofT Z5 Tryd.func40 Qqy (Nat.le_of_ble_eq_true Z) ?_
 show TW _ _ tf40.body _ _
 refine Qe fun K hK => Qb Z (hK _ _ (Qa (kp1 Z) ?_))
 refine Qe fun K hK => Qb Z (Zk Z Z (by first | exact Qt (by omega) (by omega) | rfl) (Qps Z Z (by omega) (QlM (by omega)) (Qb Z (hK _ _ (Qa (kp1 Z) ?_)))))
 refine Qq (Qs Z ?_)
 rfl
theorem QfF {w : Q8} (hw : WSm w) {u : Int} : Ok Tryd.prog 39 [Qbw w, .int .i64 u] (.bool (inW w u)) := by
 refine Ok.ofT Z5 Tryd.func39 Qqx (Nat.le_of_ble_eq_true Z) ?_
 show TW _ _ tf39.body _ _
 refine Qe fun K hK => ZO Z Z Z (Qb Z (hK _ _ (Qa (kp2 Z Z) ?_)))
 refine Qe fun K hK => Qb Z (Qi2 Z Z (Qb Z ?_))
 refine Qw (g := 7) Z (fun h1 => ?_) (fun h1 => ?_)
 ·try rw [h1]
  try simp only [qA] at h1
  refine Qg Z (Qb Z (Qg Z (Qh Z Z (Qg Z (QE Z Z Z (Qg Z ?_))))))
  first | refine ZJ rfl Y1 ?_ | refine ZJ rfl rfl ?_
  refine Qg Z (Y0 Z Z (Qi Z Z (Qb Z (hK _ _ (Qa (kp1 Z) ?_)))))
  refine Qq (Qn Z ?_)
  first | rfl | (rw [Qk2 (by omega)]; done) | (rw [inW, decide_eq_true h1, Bool.true_and])
 ·try rw [h1]
  try simp only [qA] at h1
  refine Qr Z (Qr Z (Qr Z (Qr Z (Qr Z (Qi Z Z (Qb Z (hK _ _ (Qa (kp1 Z) ?_))))))))
  refine Qq (Qn Z ?_)
  first | rfl | (rw [Qk2 (by omega)]; done) | (rw [inW, decide_eq_true h1, Bool.true_and])
theorem QcA {w : Q8} (hw : WSm w) {u : Int} : Ok Tryd.prog 13 [Qbw w, .int .i64 u] (.int .i64 (Z4 w u)) := by
 refine Ok.ofT Z5 Tryd.func13 Qqh (Nat.le_of_ble_eq_true Z) ?_
 show TW _ _ tf13.body _ _
 refine Qe fun K hK => ZO Z Z Z (Qb Z (hK _ _ (Qa (kp2 Z Z) ?_)))
 refine QH ?_ -- 0
 refine Qe fun K hK => QF (cs := [_]) Z Z Z Z (Qb Z (Qy (QfF hw) Z Z (.inr Z) (ZP Z (hK _ _ (Qa (kp3 Z Z Z) ?_)))))
 refine QB Z (fun h1 => ?_) (fun h1 => ?_)
 ·try rw [h1]
  try simp only [qA] at h1
  try have h1b := QeX.1 h1
  refine Qe fun K hK => Qb Z (hK _ _ (Qa (kp1 Z) ?_))
  refine Qq (Qj (Qs Z ?_))
  rw [QkS.2 h1]
 ·try rw [h1]
  try simp only [qA] at h1
  try have h1b := QeX.1 h1
  refine Qx (Qf (kp2 Z Z) (Qe fun K hK => Qh Z Z (QE Z Z Z (Qb Z (Q2 Z Z Z (by omega) (Yv (by omega) (by omega)) Z (Yb Z Z (QE Z Z Z ?_)))))))
  first | refine ZJ rfl Y1 ?_ | refine ZJ rfl rfl ?_
  refine Qy (QbU (by omega) (by have := hw.cs _ (List.getElem_mem (show u.toNat < w.length by omega)); omega)) Z Z (.inr Z) (QcP Z Z (Qia (by have := hw.cs _ (List.getElem_mem (show u.toNat < w.length by omega)); omega)) (Qb Z (hK _ _ (Qa (kp1 Z) ?_))))
  refine Qq (Qs Z ?_)
  rw [Qdh h1b.1 h1b.2, show min (w[u.toNat]'(by omega)).cs.length 16 = (w[u.toNat]'(by omega)).cs.length from Nat.min_eq_left (hw.cs _ (List.getElem_mem _)), Qpc]
end Go.Proofs
namespace M25
open Go Go.Abs M3
/-! ### prop: what is left of each unit, scans -/
structure Qoq (w : Q8) (db : List (List Qcs)) (l : List QaR) (a : Nat) (k : Nat) : Prop where
  ha : a < db.length
  hk : k < db[a].length
  eq : QpE w db l = ((a : Int), db[a][k].u)
  one : QhQ (Qfy w l db[a][k].u) db[a][k].m = 1
  two : ∀ j, ∀ hj : j < db[a].length, j ≠ k -> QhQ (Qfy w l db[a][j].u) db[a][j].m = 2
def Qqa (w : Q8) (l : List QaR) (t : Qcs) (c : Int) : QaR := ⟨t.u, Qbg (Qfy w l t.u) t.m, QoX l, c⟩
end M25
namespace M25
open Go Go.Abs M3
/-! ### Sets that are made: moderate sizes -/
theorem Qme (l : List (Cu × Cu)) (x y : Cu) : (QbE l x y).length <= l.length + 1 := QhN l x y
theorem Qgp (f : Cu -> Cu -> Bool) : ∀ (c : List Cu) (out : List (Cu × Cu)), (∀ x ∈ c, Cu.sm x) -> (∀ s ∈ out, Cu.sm s.1 /\ Cu.sm s.2) -> (QbD f c out).length <= out.length + c.length /\ ∀ s ∈ QbD f c out, Cu.sm s.1 /\ Cu.sm s.2
 | [], out, _, h => ⟨by simp [QbD], by simpa [QbD] using h⟩
 | [x], out, _, h => ⟨by simp [QbD], by simpa [QbD] using h⟩
 | x :: y :: r, out, hc, h => by
  rw [QbD]
  have hxy := Qme out x y
  split
  ·obtain ⟨h1, h2⟩ := Qgp f (y :: r) (QbE out x y) (fun z hz => hc z (by simp at hz ⊢; exact .inr hz)) (Qju h (hc x (by simp)) (hc y (by simp)))
   exact ⟨by simp only [List.length_cons] at h1 ⊢; omega, h2⟩
  ·obtain ⟨h1, h2⟩ := Qgp f (y :: r) out (fun z hz => hc z (by simp at hz ⊢; exact .inr hz)) h
   exact ⟨by simp only [List.length_cons] at h1 ⊢; omega, h2⟩
def SmN (n : Nat) (l : List (Cu × Cu)) : Prop := l.length <= n /\ ∀ s ∈ l, Cu.sm s.1 /\ Cu.sm s.2
theorem SmN.sm {n : Nat} {l : List (Cu × Cu)} (h : SmN n l) (hn : n <= 1000000) : Sm l := ⟨Nat.le_trans h.1 hn, h.2⟩
theorem SmN.up {n m : Nat} {l : List (Cu × Cu)} (h : SmN n l) (hn : n <= m) : SmN m l := ⟨Nat.le_trans h.1 hn, h.2⟩
theorem SmN.nil (n : Nat) : SmN n [] := ⟨Nat.zero_le _, by simp⟩
theorem Qm3 {a b : List (Cu × Cu)} {n m : Nat} (ha : SmN n a) (hb : SmN m b) (h : n + m <= 1000000) : SmN (2 + 2 * (n + m)) (Qm0 a b) := by
 unfold Qm0
 split
 ·have hab : Sm (a ++ b) := (ha.sm (by omega)).app (hb.sm (by omega)) (by have := ha.1; have := hb.1; omega)
  unfold QiC
  split
  ·obtain ⟨h1, h2⟩ := Qgp (mIn (a ++ b)) (YK (a ++ b)) [] (Ys hab) (by simp)
   have := QbC (a ++ b)
   have := ha.1
   have := hb.1
   exact ⟨by simp only [List.length_nil, List.length_append] at *; omega, h2⟩
  ·exact SmN.nil _
 ·exact SmN.nil _
theorem Qlj {a : List (Cu × Cu)} {n : Nat} (ha : SmN n a) (h : n <= 1000000) : SmN (2 + 2 * n) (QiD a) := by
 unfold QiD
 split
 ·obtain ⟨h1, h2⟩ := Qgp (fun x y => !mIn a x y) (YK a) [] (Ys (ha.sm h)) (by simp)
  have := QbC a
  have := ha.1
  exact ⟨by simp only [List.length_nil] at *; omega, h2⟩
 ·exact SmN.nil _
def QjW (n : Nat) (s : Qez) : Prop := SmN n s.1 /\ SmN n s.2
theorem Qo2 {a b : Qez} {n m : Nat} (ha : QjW n a) (hb : QjW m b) (h : n + m <= 1000000) : QjW (2 + 2 * (n + m)) (Qm1 a b) := by
 unfold Qm1
 split
 ·exact ⟨Qm3 ha.1 hb.1 h, Qm3 ha.2 hb.2 h⟩
 ·exact ⟨SmN.nil _, SmN.nil _⟩
theorem Qlk {a : Qez} {n : Nat} (ha : QjW n a) (h : n <= 1000000) : QjW (2 + 2 * n) (QgI a) := by
 unfold QgI
 split
 ·exact ⟨Qlj ha.1 h, Qlj ha.2 h⟩
 ·exact ⟨SmN.nil _, SmN.nil _⟩
theorem Qb6 (e a b c : Int) (f : Bool) : Cu.sm ⟨e, a, b, c, [], [], f⟩ := ⟨Nat.zero_le _, Nat.zero_le _⟩
theorem QaW {a b c : Int} {p q : List UInt8} (hp : p.length <= 1000000) : QjW 1 (YX a b c p q) := by
 unfold YX
 split
 ·exact ⟨SmN.nil _, SmN.nil _⟩
 ·split
  ·refine ⟨SmN.nil _, ⟨Nat.le_refl _, fun s hs => ?_⟩⟩
   simp only [List.mem_singleton] at hs; subst hs
   exact ⟨⟨hp, Nat.zero_le _⟩, ⟨hp, Nat.zero_le _⟩⟩
  ·refine ⟨⟨Nat.le_refl _, fun s hs => ?_⟩, SmN.nil _⟩
   simp only [List.mem_singleton] at hs; subst hs
   constructor
   ·unfold Qe8; split
    ·exact Qb6 ..
    ·exact Qb6 ..
   ·unfold Qdg; split
    ·exact Qb6 ..
    ·exact Qb6 ..
def Qkr : Qez := ([(Qcl, Qfw)], [(Qcl, Qfw)])
theorem QmN : QjW 1 Qkr := by
 have h : SmN 1 [(Qcl, Qfw)] := ⟨Nat.le_refl _, fun s hs => by simp only [List.mem_singleton] at hs; subst hs; exact ⟨Qb6 .., Qb6 ..⟩⟩
 exact ⟨h, h⟩
def bnd (i : Nat) : Nat := 4 * 2 ^ i
theorem QmQ {i : Nat} (h : i <= 16) : bnd i <= 262144 := by
 have : 2 ^ i <= 2 ^ 16 := Nat.pow_le_pow_right (by omega) h
 have e : (2 : Nat) ^ 16 = 65536 := by decide
 unfold bnd; omega
theorem Qo8 {s : Qez} {i : Nat} (h : QjW (bnd i - 4) s) {a b c : Int} {p q : List UInt8} (hp : p.length <= 1000000) (hi : i <= 16) : QjW (bnd (i + 1) - 4) (Qm1 s (YX a b c p q)) := by
 have h1 := QmQ hi
 have h4 : 4 <= bnd i := by unfold bnd; have := Nat.one_le_two_pow (n := i); omega
 have := Qo2 h (QaW (a := a) (b := b) (c := c) (q := q) hp) (by omega)
 have e : bnd (i + 1) = 2 * bnd i := by unfold bnd; rw [Nat.pow_succ]; omega
 exact ⟨this.1.up (by omega), this.2.up (by omega)⟩
theorem QmD {s : Qez} {i : Nat} (h : QjW (bnd i - 4) s) : QjW (bnd (i + 1) - 4) s := by
 have e : bnd (i + 1) = 2 * bnd i := by unfold bnd; rw [Nat.pow_succ]; omega
 exact ⟨h.1.up (by omega), h.2.up (by omega)⟩
def SetOk (s : Qez) : Prop := QjW 600000 s
theorem SetOk.sm {s : Qez} (h : SetOk s) : Sm s.1 /\ Sm s.2 := ⟨h.1.sm (by omega), h.2.sm (by omega)⟩
structure CR where
 v : Vr
 x : D
 y : D
 z : D
def dCR (r : CR) : List D := [.int .i64 r.v.a, .int .i64 r.v.b, .int .i64 r.v.c, .str r.v.p, .str r.v.q, r.x, r.y, r.z]
def CR.ren (r : CR) : CR := ⟨r.v, r.x.renS upN, r.y.renS upN, r.z.renS upN⟩
theorem QkB (l : List CR) : (l.map dCR).map (fun r => r.map (D.renS upN)) = (l.map CR.ren).map dCR := by
 rw [List.map_map, List.map_map]; rfl
structure UR where
 n : List UInt8
 f : List UInt8
 k : Nat
 cs : List CR
def dUR (u : UR) : List D := [.str u.n, .str u.f, .osl u.k u.cs.length]
def UR.ren (u : UR) : UR := ⟨u.n, u.f, upN u.k, u.cs.map CR.ren⟩
theorem QnG (l : List UR) : (l.map dUR).map (fun r => r.map (D.renS upN)) = (l.map UR.ren).map dUR := by
 rw [List.map_map, List.map_map]
 refine List.map_congr_left fun u _ => ?_
 simp [dUR, UR.ren, D.renS]
structure Fam (H : List (Nat × Box)) (kg ku eu ec : Nat) (us : List UR) : Prop where
 ne : ku ≠ kg
 u : ∃ pr, lk H ku = some ⟨us.map dUR, 3, eu, pr⟩
 c : ∀ y ∈ us, y.k ≠ kg /\ ∃ pr, lk H y.k = some ⟨y.cs.map dCR, 8, ec, pr⟩
 v : ∀ y ∈ us, y.cs.length <= 16 /\ ∀ z ∈ y.cs, Qfo z.v
theorem Fam.up {H : List (Nat × Box)} {kg ku eu ec : Nat} {us : List UR} (h : Fam H kg ku eu ec us) : Fam (upH H) (upN kg) (upN ku) eu ec (us.map UR.ren) := by
 obtain ⟨h1, ⟨pu, h2⟩, h3, h4⟩ := h
 refine ⟨fun e => h1 (QiT e), ⟨pu, ?_⟩, fun y hy => ?_, fun y hy => ?_⟩
 ·rw [Qan, h2, Option.map_some, Box.ren, QnG]
 ·obtain ⟨u, hu, rfl⟩ := List.mem_map.1 hy
  obtain ⟨q1, pr, q2⟩ := h3 u hu
  refine ⟨fun e => q1 (QiT e), pr, ?_⟩
  show lk (upH H) (upN u.k) = _
  rw [Qan, q2, Option.map_some, Box.ren, QkB]; rfl
 ·obtain ⟨u, hu, rfl⟩ := List.mem_map.1 hy
  obtain ⟨q1, q2⟩ := h4 u hu
  refine ⟨by simpa [UR.ren] using q1, fun z hz => ?_⟩
  obtain ⟨z0, hz0, rfl⟩ := List.mem_map.1 hz
  exact q2 z0 hz0
theorem Fam.cons {H : List (Nat × Box)} {kg ku eu ec : Nat} {us : List UR} (h : Fam H kg ku eu ec us) {b : Box} : Fam ((kg, b) :: H) kg ku eu ec us := by
 obtain ⟨h1, ⟨pu, h2⟩, h3, h4⟩ := h
 exact ⟨h1, ⟨pu, Qk (Ne.symm h1) h2⟩, fun y hy => let ⟨q1, pr, q2⟩ := h3 y hy; ⟨q1, pr, Qk (Ne.symm q1) q2⟩, h4⟩
def WantIn (n : Nat) (x : WantT) : Prop := 1 <= x.u /\ x.u < n /\ SetOk x.s
def Qhd (n : Nat) (r : List WantT) : Prop := r.length <= 2 /\ ∀ x ∈ r, WantIn n x
def Qew (n : Nat) (m : Int) (ns : List (List WantT)) : Prop := (ns.length : Int) <= m /\ ∀ r ∈ ns, Qhd n r
theorem Qn0 {n : Nat} {x : WantT} (h : WantIn n x) : Qhd n [x] := ⟨by simp, by intro y hy; simp only [List.mem_singleton] at hy; subst hy; exact h⟩
theorem Qn1 {n : Nat} {x y : WantT} (h : WantIn n x) (h' : WantIn n y) : Qhd n [x, y] := ⟨by simp, by
 intro z hz
 simp only [List.mem_cons, List.not_mem_nil, or_false] at hz
 rcases hz with rfl | rfl
 ·exact h
 ·exact h'⟩
theorem Qlw {n : Nat} {ns : List (List WantT)} {r : List WantT} (h : ∀ r ∈ ns, Qhd n r) (hr : Qhd n r) : ∀ x ∈ ns ++ [r], Qhd n x := fun x hx => by
 rcases List.mem_append.1 hx with hx | hx
 ·exact h x hx
 ·simp only [List.mem_singleton] at hx; subst hx; exact hr
end M25
namespace M25
open Go Go.Abs M3
/-! ### The boxes of a world under way -/
def fbx (ec : Nat) (us : List UR) : List (Nat × Box) := us.map fun u => (u.k, ⟨u.cs.map dCR, 8, ec, true⟩)
def Z2 (us : List UR) : Prop := ∀ j, ∀ h : j < us.length, us[j].k = 500001 + j
theorem QhH {us : List UR} {u : UR} (h : Z2 us) (hu : u.k = 500001 + us.length) : Z2 (us ++ [u]) := fun j hj => by
 rw [List.length_append, List.length_singleton] at hj
 by_cases e : j < us.length
 ·rw [List.getElem_append_left e]; exact h j e
 ·have : j = us.length := by omega
  subst this
  rw [List.getElem_append_right (Nat.le_refl _)]; simpa using hu
theorem QeP (ec : Nat) (us : List UR) : QlR (fbx ec us) := fun p hp => by
 obtain ⟨u, _, rfl⟩ := List.mem_map.1 hp; rfl
theorem QfW {ec : Nat} : ∀ {us : List UR} {k : Nat} {b : Box}, lk (fbx ec us) k = some b -> ∃ u ∈ us, k = u.k /\ b = ⟨u.cs.map dCR, 8, ec, true⟩
 | [], _, _, h => by cases h
 | u :: us, k, b, h => by
  simp only [fbx, List.map_cons] at h
  rw [Qm] at h
  split at h
  ·rename_i e; cases h; exact ⟨u, by simp, e.symm, rfl⟩
  ·obtain ⟨v, hv, q⟩ := QfW (us := us) h
   exact ⟨v, by simp [hv], q⟩
theorem Qa2 {us : List UR} (h : Z2 us) {u : UR} (hu : u ∈ us) : 500001 <= u.k /\ u.k < 500001 + us.length := by
 obtain ⟨j, hj, rfl⟩ := List.getElem_of_mem hu
 have := h j hj
 omega
theorem Qgn {ec : Nat} {us : List UR} (h : Z2 us) : Qp3 500001 (fbx ec us) := fun k b hk => by
 obtain ⟨u, hu, rfl, _⟩ := QfW hk
 exact (Qa2 h hu).1
theorem YI {ec : Nat} {us : List UR} (h : Z2 us) {k : Nat} (hk : k < 500001 \/ 500001 + us.length <= k) : lk (fbx ec us) k = none := by
 cases hh : lk (fbx ec us) k with
 | none => rfl
 | some b =>
  obtain ⟨u, hu, rfl, _⟩ := QfW hh
  have := Qa2 h hu
  omega
theorem QkO {ec : Nat} : ∀ {us : List UR} {n : Nat}, (∀ j, ∀ h : j < us.length, us[j].k = n + j) -> ∀ j, ∀ h : j < us.length, lk (fbx ec us) (n + j) = some ⟨us[j].cs.map dCR, 8, ec, true⟩
 | [], _, _, j, hj => by simp at hj
 | u :: us, n, hk, 0, _ => by
  have := hk 0 (by simp)
  simp only [List.getElem_cons_zero, Nat.add_zero] at this
  simp only [fbx, List.map_cons, Nat.add_zero]
  rw [Qm, if_pos this]; rfl
 | u :: us, n, hk, j + 1, hj => by
  have h0 := hk 0 (by simp)
  simp only [List.getElem_cons_zero, Nat.add_zero] at h0
  simp only [fbx, List.map_cons]
  rw [Qm, if_neg (by omega)]
  have := QkO (ec := ec) (us := us) (n := n + 1) (fun i hi => by
   have := hk (i + 1) (by simpa using hi)
   simp only [List.getElem_cons_succ] at this
   omega) j (by simpa using hj)
  rw [show n + 1 + j = n + (j + 1) by omega] at this
  simp only [List.getElem_cons_succ]
  exact this
theorem QkN {ec : Nat} {us : List UR} (h : Z2 us) {j : Nat} (hj : j < us.length) : lk (fbx ec us) (500001 + j) = some ⟨us[j].cs.map dCR, 8, ec, true⟩ := QkO h j hj
theorem Qjf (ec : Nat) (us : List UR) (u : UR) : fbx ec (us ++ [u]) = fbx ec us ++ [(u.k, ⟨u.cs.map dCR, 8, ec, true⟩)] := by simp [fbx]
theorem Ql7 {ec : Nat} {us : List UR} (h : Z2 us) {kg : Nat} {x y : Box} {u : UR} (hu : u.k = 500001 + us.length) (hkg : u.k ≠ kg) (k : Nat) :
  lk ((u.k, ⟨u.cs.map dCR, 8, ec, true⟩) :: (500000, x) :: (kg, y) :: fbx ec us) k = lk ((500000, x) :: (kg, y) :: fbx ec (us ++ [u])) k := by
 rw [Qjf]
 by_cases e : u.k = k
 ·subst e
  rw [Qv, Qm, if_neg (by omega), Qm, if_neg (Ne.symm hkg), YJ (YI h (.inr (by omega))), Qv]
 ·rw [Qm, if_neg e, Qm, Qm, Qm, Qm]
  split
  ·rfl
  ·split
   ·rfl
   ·rw [ZM]
    cases h2 : lk (fbx ec us) k with
    | some v => rfl
    | none => rw [Qm, if_neg e]; rfl
def zr (v : Vr) (sh : Int) : CR := ⟨v, .int .i64 sh, .fsl [], .fsl []⟩
def Qon (u : UR) : Prop := u.cs.length <= 4 /\ ∀ z ∈ u.cs, ∃ v sh, z = zr v sh /\ Qfo v
theorem QmW {u : UR} : (dUR u).flatMap D.sid = [u.k] := by simp [dUR, D.sid]
theorem Qbc {us : List UR} {e et : Nat} {k : Nat} (h : k ∈ (Box.ids ⟨us.map dUR, e, et, false⟩)) : ∃ u ∈ us, k = u.k := by
 simp only [Box.ids, Bool.false_eq_true, if_false, List.mem_flatMap, List.mem_map] at h
 obtain ⟨r, ⟨u, hu, rfl⟩, hk⟩ := h
 have : k ∈ (dUR u).flatMap D.sid := List.mem_flatMap.2 hk
 rw [QmW] at this
 exact ⟨u, hu, by simpa using this⟩
theorem Qn7 {us : List UR} (h : Z2 us) : ∀ r ∈ us.map dUR, ∀ d ∈ r, 500000 ∉ d.sid := fun r hr d hd hk => by
 obtain ⟨u, hu, rfl⟩ := List.mem_map.1 hr
 have : 500000 ∈ (dUR u).flatMap D.sid := List.mem_flatMap.2 ⟨d, hd, hk⟩
 rw [QmW] at this
 have h2 := Qa2 h hu
 simp only [List.mem_singleton] at this
 omega
theorem Qgd {B F : List (Nat × Box)} {j : Nat} (h : (lk F j).isSome = true) : (lk (B ++ F) j).isSome = true := by
 rw [ZM]; split
 ·rfl
 ·exact h
theorem Qc8 {ec : Nat} {us : List UR} (h : Z2 us) {u : UR} (hu : u ∈ us) : (lk (fbx ec us) u.k).isSome = true := by
 obtain ⟨j, hj, rfl⟩ := List.getElem_of_mem hu
 rw [h j hj, QkN h hj]; rfl
theorem Qgo {ec : Nat} {us : List UR} {u : UR} (h : Z2 us) (hu : u.k = 500001 + us.length) : lk (fbx ec (us ++ [u])) (500001 + us.length) = some ⟨u.cs.map dCR, 8, ec, true⟩ := by
 rw [Qjf, YJ (YI h (.inr (Nat.le_refl _))), <- hu, Qv]
section
variable {l : List Nat} {fr fr1 fr' : List (Nat × D)} {B : List (Nat × Box)} {kg eg eu ec : Nat} {L : List Int} {J : Int} {us : List UR}
theorem Qp6 (hf : Q4 l fr = fr1) (ef : fr1 = fr') (hK : Z2 us) (hu : lk B 500000 = some ⟨us.map dUR, 3, eu, false⟩) (hg : lk B kg = some (gB L J eg)) (hB : ∀ p ∈ B, 500001 <= p.1 -> p.1 = kg) (hkg : kg ≠ 500000)
  (hfr : ∀ p ∈ fr', ∀ k ∈ p.2.ids, k = 500000 \/ k = kg \/ ∃ u ∈ us, k = u.k) : St.le ⟨fr, B ++ fbx ec us⟩ ⟨fr', [(500000, ⟨us.map dUR, 3, eu, false⟩), (kg, gB L J eg)] ++ fbx ec us⟩ := by
 have s0 : ∀ k, (k = 500000 \/ k = kg \/ ∃ u ∈ us, k = u.k) -> (lk ([(500000, (⟨us.map dUR, 3, eu, false⟩ : Box)), (kg, gB L J eg)] ++ fbx ec us) k).isSome = true := fun k hk => by
  rcases hk with rfl | rfl | ⟨u, hu, rfl⟩
  ·exact QT
  ·exact QQ QT
  ·exact Qgd (Qc8 hK hu)
 refine QiB (N := 500001) hf ef (fun p hp => ?_) rfl (fun p hp j hj => s0 j ?_) (fun p hp h => ?_) (Qgn hK) (QeP ec us) (fun p hp k hk => s0 k (hfr p hp k hk))
 ·simp only [List.mem_cons, List.not_mem_nil, or_false] at hp
  rcases hp with rfl | rfl
  ·exact hu
  ·exact hg
 ·simp only [List.mem_cons, List.not_mem_nil, or_false] at hp
  rcases hp with rfl | rfl
  ·exact .inr (.inr (Qbc hj))
  ·simp [Box.ids, gB] at hj
 ·rw [hB p hp h]; exact QQ QT
theorem Qol {cs : List CR} (hf : Q4 l fr = fr1) (ef : fr1 = fr') (hK : Z2 us) (hc : lk B (500001 + us.length) = some ⟨cs.map dCR, 8, ec, true⟩) (hu : lk B 500000 = some ⟨us.map dUR, 3, eu, false⟩) (hg : lk B kg = some (gB L J eg)) (hB : ∀ p ∈ B, 500001 <= p.1 -> p.1 = kg \/ p.1 = 500001 + us.length)
  (hfr : ∀ p ∈ fr', ∀ k ∈ p.2.ids, k = 500000 \/ k = kg \/ k = 500001 + us.length \/ ∃ u ∈ us, k = u.k) : St.le ⟨fr, B ++ fbx ec us⟩ ⟨fr', [(500001 + us.length, ⟨cs.map dCR, 8, ec, true⟩), (500000, ⟨us.map dUR, 3, eu, false⟩), (kg, gB L J eg)] ++ fbx ec us⟩ := by
 have s0 : ∀ k, (k = 500000 \/ k = kg \/ k = 500001 + us.length \/ ∃ u ∈ us, k = u.k) -> (lk ([(500001 + us.length, (⟨cs.map dCR, 8, ec, true⟩ : Box)), (500000, (⟨us.map dUR, 3, eu, false⟩ : Box)), (kg, gB L J eg)] ++ fbx ec us) k).isSome = true := fun k hk => by
  rcases hk with rfl | rfl | rfl | ⟨u, hu, rfl⟩
  ·exact QQ QT
  ·exact QQ (QQ QT)
  ·exact QT
  ·exact Qgd (Qc8 hK hu)
 refine QiB (N := 500001) hf ef (fun p hp => ?_) rfl (fun p hp j hj => s0 j ?_) (fun p hp h => ?_) (Qgn hK) (QeP ec us) (fun p hp k hk => s0 k (hfr p hp k hk))
 ·simp only [List.mem_cons, List.not_mem_nil, or_false] at hp
  rcases hp with rfl | rfl | rfl
  ·exact hc
  ·exact hu
  ·exact hg
 ·simp only [List.mem_cons, List.not_mem_nil, or_false] at hp
  rcases hp with rfl | rfl | rfl
  ·simp [Box.ids] at hj
  ·exact .inr (.inr (.inr (Qbc hj)))
  ·simp [Box.ids, gB] at hj
 ·rcases hB p hp h with e | e
  ·rw [e]; exact QQ (QQ QT)
  ·rw [e]; exact QT
theorem Qpb {u : UR} (hf : Q4 l fr = fr1) (ef : fr1 = fr') (hK : Z2 us) (huk : u.k = 500001 + us.length) (hc : lk B (500001 + us.length) = some ⟨u.cs.map dCR, 8, ec, true⟩) (hu : lk B 500000 = some ⟨(us ++ [u]).map dUR, 3, eu, false⟩) (hg : lk B kg = some (gB L J eg)) (hB : ∀ p ∈ B, 500001 <= p.1 -> p.1 = kg \/ p.1 = 500001 + us.length) (hkg : 1000000 <= kg) (hlen : us.length <= 100)
  (hfr : ∀ p ∈ fr', ∀ k ∈ p.2.ids, k = 500000 \/ k = kg \/ ∃ v ∈ us ++ [u], k = v.k) : St.le ⟨fr, B ++ fbx ec us⟩ ⟨fr', [(500000, ⟨(us ++ [u]).map dUR, 3, eu, false⟩), (kg, gB L J eg)] ++ fbx ec (us ++ [u])⟩ := by
 have hK1 := QhH hK huk
 have mv := fun k => Ql7 (ec := ec) hK (kg := kg) (x := ⟨(us ++ [u]).map dUR, 3, eu, false⟩) (y := gB L J eg) huk (by omega) k
 have s0 : ∀ k, (k = 500000 \/ k = kg \/ ∃ v ∈ us ++ [u], k = v.k) -> (lk ([(u.k, (⟨u.cs.map dCR, 8, ec, true⟩ : Box)), (500000, (⟨(us ++ [u]).map dUR, 3, eu, false⟩ : Box)), (kg, gB L J eg)] ++ fbx ec us) k).isSome = true := fun k hk => by
  show (lk ((u.k, _) :: (500000, _) :: (kg, _) :: fbx ec us) k).isSome = true
  rw [mv]
  rcases hk with rfl | rfl | ⟨v, hv, rfl⟩
  ·exact QT
  ·exact QQ QT
  ·exact QQ (QQ (Qc8 hK1 hv))
 refine le_trans (QiB (N := 500001) (A' := [(u.k, ⟨u.cs.map dCR, 8, ec, true⟩), (500000, ⟨(us ++ [u]).map dUR, 3, eu, false⟩), (kg, gB L J eg)]) hf ef (fun p hp => ?_) rfl (fun p hp j hj => s0 j ?_) (fun p hp h => ?_) (Qgn hK) (QeP ec us) (fun p hp k hk => s0 k (hfr p hp k hk))) (QgD ⟨fun _ => rfl, mv⟩)
 ·simp only [List.mem_cons, List.not_mem_nil, or_false] at hp
  rcases hp with rfl | rfl | rfl
  ·rw [huk]; exact hc
  ·exact hu
  ·exact hg
 ·simp only [List.mem_cons, List.not_mem_nil, or_false] at hp
  rcases hp with rfl | rfl | rfl
  ·simp [Box.ids] at hj
  ·exact .inr (.inr (Qbc hj))
  ·simp [Box.ids, gB] at hj
 ·rcases hB p hp h with e | e
  ·rw [e]; exact QQ (QQ QT)
  ·rw [e, <- huk]; exact QT
end
def u0 (v : Vr) : UR := ⟨[], [], 500001, [zr v (-1)]⟩
def v0 : Vr := ⟨0, 0, 0, [], []⟩
theorem QmG {kg a b : Nat} (h : 1000000 <= kg) (ha : a < 1000000) (hb : b < 1000000) : Qbl a b kg = kg := by
 unfold Qbl; rw [if_neg (by omega), if_neg (by omega)]
theorem Qlb {l : List Nat} {fr fr1 fr' : List (Nat × D)} {kg eg eu ec : Nat} {L : List Int} {I : Int} (hkg : 1000000 <= kg) (hf : Q4 l fr = fr1) (ef : fr1.map (fun p => (p.1, (p.2.ren (Qbl 18 500000)).ren (Qbl 16 500001))) = fr') :
  St.le ⟨fr, [(18, ⟨[[.str [], .str [], .osl 16 1]], 3, eu, false⟩), (16, ⟨[dCR (zr v0 (-1))], 8, ec, true⟩), (kg, gB L I eg)]⟩ ⟨fr', [(500000, ⟨[u0 v0].map dUR, 3, eu, false⟩), (kg, gB L I eg)] ++ fbx ec [u0 v0]⟩ := by
 subst hf ef
 have k1 := QmG (a := 18) (b := 500000) hkg (by decide) (by decide)
 have k2 := QmG (a := 16) (b := 500001) hkg (by decide) (by decide)
 refine le_trans (QbB l fr _) (le_trans (QiA 18 500000 (by decide) (by decide) _) (le_trans (QiA 16 500001 (by decide) (by decide) _) ?_))
 have hH : ∀ k, lk ([(500000, (⟨[u0 v0].map dUR, 3, eu, false⟩ : Box)), (kg, gB L I eg)] ++ fbx ec [u0 v0]) k = lk (Qcg (Qbl 16 500001) (Qcg (Qbl 18 500000) [(18, ⟨[[.str [], .str [], .osl 16 1]], 3, eu, false⟩), (16, ⟨[dCR (zr v0 (-1))], 8, ec, true⟩), (kg, gB L I eg)])) k := fun k => by
  have e : Qcg (Qbl 16 500001) (Qcg (Qbl 18 500000) [(18, (⟨[[.str [], .str [], .osl 16 1]], 3, eu, false⟩ : Box)), (16, ⟨[dCR (zr v0 (-1))], 8, ec, true⟩), (kg, gB L I eg)]) = [(500000, ⟨[u0 v0].map dUR, 3, eu, false⟩), (500001, ⟨[dCR (zr v0 (-1))], 8, ec, true⟩), (kg, gB L I eg)] := by
   simp only [Qcg, List.map_cons, List.map_nil, k1, k2]; rfl
  rw [e]
  show lk ((500000, _) :: (kg, _) :: (500001, _) :: []) k = _
  rw [Qm, Qm, Qm, Qm, Qm, Qm]
  by_cases h1 : 500000 = k
  ·rw [if_pos h1, if_pos h1]
  ·rw [if_neg h1, if_neg h1]
   by_cases h2 : kg = k
   ·rw [if_pos h2, if_neg (by omega), if_pos h2]
   ·rw [if_neg h2, if_neg h2]; rfl
 refine Qa3 (by simp only [St.ren, List.map_map]; rfl) fun k => (hH k).symm
def names5 : List (List UInt8) := [[97, 110, 116], [98, 101, 101], [99, 111, 119], [100, 111, 103], [101, 108, 107]]
theorem Q3 : names5.length = 5 := rfl
theorem Qn8 : versions.length = 4 := rfl
theorem Qpd {i : Nat} (h : i < versions.length) : Qfo versions[i] := by
 have := QiV _ (List.getElem_mem h)
 exact ⟨Nat.le_trans this.1 (by omega), Nat.le_trans this.2 (by omega)⟩
structure UnitsIn (us : List UR) : Prop where
 keys : Z2 us
 fresh : ∀ u ∈ us, Qon u
 first : ∃ z rest, us = ⟨[], [], 500001, [z]⟩ :: rest
theorem UnitsIn.zero : UnitsIn [u0 v0] := by
 refine ⟨fun j hj => ?_, fun u hu => ?_, ⟨zr v0 (-1), [], rfl⟩⟩
 ·have : j = 0 := by simp at hj; exact hj
  subst this; rfl
 ·simp only [List.mem_singleton] at hu; subst hu
  refine ⟨by simp [u0], fun z hz => ?_⟩
  simp only [u0, List.mem_singleton] at hz; subst hz
  exact ⟨v0, -1, rfl, ⟨Nat.zero_le _, Nat.zero_le _⟩⟩
theorem UnitsIn.snoc {us : List UR} (h : UnitsIn us) {n f : List UInt8} {cs : List CR} (hc : cs.length <= 4) (hz : ∀ z ∈ cs, ∃ v sh, z = zr v sh /\ Qfo v) : UnitsIn (us ++ [⟨n, f, 500001 + us.length, cs⟩]) := by
 obtain ⟨h1, h2, z, rest, h3⟩ := h
 refine ⟨QhH h1 rfl, fun u hu => ?_, z, rest ++ [⟨n, f, 500001 + us.length, cs⟩], by rw [h3]; rfl⟩
 rcases List.mem_append.1 hu with hu | hu
 ·exact h2 u hu
 ·simp only [List.mem_singleton] at hu; subst hu; exact ⟨hc, hz⟩
def CsIn (n : Nat) (cs : List CR) : Prop := cs.length <= n /\ ∀ z ∈ cs, ∃ v sh, z = zr v sh /\ Qfo v
theorem CsIn.nil (n : Nat) : CsIn n [] := ⟨Nat.zero_le _, by simp⟩
theorem CsIn.keep {n : Nat} {cs : List CR} (h : CsIn n cs) : CsIn (n + 1) cs := ⟨Nat.le_succ_of_le h.1, h.2⟩
theorem CsIn.snoc {n : Nat} {cs : List CR} (h : CsIn n cs) {v : Vr} (hv : Qfo v) {sh : Int} : CsIn (n + 1) (cs ++ [zr v sh]) := by
 refine ⟨by simp; exact h.1, fun z hz => ?_⟩
 rcases List.mem_append.1 hz with hz | hz
 ·exact h.2 z hz
 ·simp only [List.mem_singleton] at hz; subst hz; exact ⟨v, sh, rfl, hv⟩
theorem CsIn.at {n : Nat} {cs : List CR} (h : CsIn n cs) {i : Nat} (hi : i < cs.length) : Qfo cs[i].v := by
 obtain ⟨v, sh, e, hv⟩ := h.2 _ (List.getElem_mem hi)
 rw [e]; exact hv
theorem Qjs {α : Type} {k : Nat} {v v' : α} {l : List (Nat × α)} (h : v = v') : lk ((k, v) :: l) k = some v' := by rw [Qv, h]
theorem Qh3 {us : List UR} {e et : Nat} (h : Z2 us) : Box.scrub (500001 + us.length) ⟨us.map dUR, e, et, false⟩ = ⟨us.map dUR, e, et, false⟩ := Qh2 fun hk => by
 obtain ⟨u, hu, e⟩ := Qbc hk
 have := Qa2 h hu
 omega
theorem QjO {us : List UR} (h : Z2 us) {n f : List UInt8} {k m : Nat} (hk : k ≠ 500000) : ∀ r ∈ us.map dUR ++ [[D.str n, D.str f, D.osl k m]], ∀ d ∈ r, 500000 ∉ d.sid := fun r hr d hd => by
 rcases List.mem_append.1 hr with hr | hr
 ·exact Qn7 h r hr d hd
 ·simp only [List.mem_singleton] at hr; subst hr
  simp only [List.mem_cons, List.not_mem_nil, or_false] at hd
  rcases hd with rfl | rfl | rfl <;> simp [D.sid]
  exact Ne.symm hk
theorem Qn6 {us : List UR} {u : UR} : (us ++ [u]).map dUR = us.map dUR ++ [dUR u] := by simp
theorem QnF {cs : List CR} {z : CR} : (cs ++ [z]).map dCR = cs.map dCR ++ [dCR z] := by simp
theorem QaO {us : List UR} (h : Z2 us) {kg eu ec : Nat} {g1 g2 g3 : Box} (hkg : 1000000 <= kg) (h1 : g1.pr = true) (h2 : g2.pr = true) (hlen : us.length <= 100) :
  (∀ k, 1000000 <= k -> (lk [(kg, g1)] k).isSome = true -> (lk (((500000, (⟨us.map dUR, 3, eu, false⟩ : Box)) :: fbx ec us) ++ [(kg, g2), (kg, g1)]) k).isSome = true) /\
  (∀ k b, lk (((500000, (⟨us.map dUR, 3, eu, false⟩ : Box)) :: fbx ec us) ++ [(kg, g2), (kg, g1)]) k = some b -> 500000 <= k /\ ∀ j ∈ b.ids, (lk (((500000, (⟨us.map dUR, 3, eu, false⟩ : Box)) :: fbx ec us) ++ [(kg, g2), (kg, g1)]) j).isSome = true) /\
  (∀ k b, lk (((500000, (⟨us.map dUR, 3, eu, false⟩ : Box)) :: fbx ec us) ++ [(kg, g2), (kg, g1)]) k = some b -> lk ((kg, g2) :: (500000, ⟨us.map dUR, 3, eu, false⟩) :: (kg, g3) :: fbx ec us) k = some b) := by
 have cs : ∀ k b, lk (((500000, (⟨us.map dUR, 3, eu, false⟩ : Box)) :: fbx ec us) ++ [(kg, g2), (kg, g1)]) k = some b -> (k = 500000 /\ b = ⟨us.map dUR, 3, eu, false⟩) \/ (∃ u ∈ us, k = u.k /\ b = ⟨u.cs.map dCR, 8, ec, true⟩) \/ (k = kg /\ b = g2) := fun k b hk => by
  rw [List.cons_append, Qm] at hk
  split at hk
  ·rename_i e; cases hk; exact .inl ⟨e.symm, rfl⟩
  ·rw [ZM] at hk
   cases hh : lk (fbx ec us) k with
   | some v =>
    rw [hh] at hk; cases hk
    exact .inr (.inl (QfW hh))
   | none =>
    rw [hh] at hk
    simp only at hk
    rw [Qm] at hk
    split at hk
    ·rename_i e; cases hk; exact .inr (.inr ⟨e.symm, rfl⟩)
    ·rename_i e
     rw [Qm, if_neg e] at hk; cases hk
 refine ⟨fun k _ hk => ?_, fun k b hk => ?_, fun k b hk => ?_⟩
 ·obtain ⟨b, hb⟩ := Option.isSome_iff_exists.1 hk
  obtain ⟨rfl, _⟩ := XO hb
  exact Qgd QT
 ·rcases cs k b hk with ⟨rfl, rfl⟩ | ⟨u, hu, rfl, rfl⟩ | ⟨rfl, rfl⟩
  ·refine ⟨Nat.le_refl _, fun j hj => ?_⟩
   obtain ⟨u, hu, rfl⟩ := Qbc hj
   rw [List.cons_append]
   refine QQ ?_
   obtain ⟨b, hb⟩ := Option.isSome_iff_exists.1 (Qc8 (ec := ec) h hu)
   rw [Ym hb]; rfl
  ·have := Qa2 h hu
   exact ⟨by omega, fun j hj => by simp [Box.ids] at hj⟩
  ·exact ⟨by omega, fun j hj => by rw [XV h2] at hj; cases hj⟩
 ·rcases cs k b hk with ⟨rfl, rfl⟩ | ⟨u, hu, rfl, rfl⟩ | ⟨rfl, rfl⟩
  ·exact Qk (by omega) Qv
  ·have hm := Qa2 h hu
   obtain ⟨j, hj, rfl⟩ := List.getElem_of_mem hu
   refine Qk (by omega) (Qk (by omega) (Qk (by omega) ?_))
   rw [h j hj]; exact QkN h hj
  ·exact Qv
end M25
namespace M25
open Go Go.Abs M3
/-! ### A world under way: one candidate after the other is filled -/
def PureC (z : CR) : Prop := z.x.sid = [] /\ z.y.sid = [] /\ z.z.sid = []
theorem PureC.all {z : CR} (h : PureC z) : ∀ d ∈ dCR z, d.sid = [] := fun d hd => by
 simp only [dCR, List.mem_cons, List.not_mem_nil, or_false] at hd
 rcases hd with rfl | rfl | rfl | rfl | rfl | rfl | rfl | rfl
 ·rfl
 ·rfl
 ·rfl
 ·rfl
 ·rfl
 ·exact h.1
 ·exact h.2.1
 ·exact h.2.2
def QdR (u : UR) (k : Nat) (z : CR) : UR := { u with cs := u.cs.set k z }
def Qb5 (us : List UR) (i k : Nat) (z : CR) : List UR := us.modify i fun u => QdR u k z
theorem Zp (us : List UR) (i k : Nat) (z : CR) : (Qb5 us i k z).length = us.length := List.length_modify ..
theorem QjK (us : List UR) (i k : Nat) (z : CR) : (Qb5 us i k z).map dUR = us.map dUR := by
 refine List.ext_getElem (by simp [Qb5]) fun j h1 h2 => ?_
 simp only [List.getElem_map, Qb5, List.getElem_modify]
 split <;> simp [dUR, QdR]
theorem QaA {us : List UR} {i k : Nat} {z : CR} {j : Nat} (h : j < us.length) : (Qb5 us i k z)[j]'(by rw [Zp]; exact h) = if i = j then QdR us[j] k z else us[j] := by
 simp only [Qb5, List.getElem_modify]
theorem Qds {us : List UR} {i k : Nat} {z : CR} (h : Z2 us) : Z2 (Qb5 us i k z) := fun j hj => by
 rw [Zp] at hj
 rw [QaA hj]
 split
 ·exact h j hj
 ·exact h j hj
def wA (us : List UR) (eu ec eg : Nat) (L : List Int) (J : Int) (b4 : Box) : List (Nat × Box) := [(500000, ⟨us.map dUR, 3, eu, false⟩), (12, gB L J eg), (4, b4)] ++ fbx ec us
theorem Qbd {us : List UR} {eu ec eg : Nat} {L : List Int} {J : Int} {b4 : Box} (h : Z2 us) {k : Nat} {b : Box} (hk : lk (wA us eu ec eg L J b4) k = some b) : (k = 500000 /\ b = ⟨us.map dUR, 3, eu, false⟩) \/ (k = 12 /\ b = gB L J eg) \/ (k = 4 /\ b = b4) \/ ∃ j, ∃ hj : j < us.length, k = 500001 + j /\ b = ⟨us[j].cs.map dCR, 8, ec, true⟩ := by
 unfold wA at hk
 rcases Qe3 hk with hk | ⟨_, hk⟩
 ·simp only [List.mem_cons, List.not_mem_nil, or_false, Prod.mk.injEq] at hk
  rcases hk with h | h | h
  ·exact .inl h
  ·exact .inr (.inl h)
  ·exact .inr (.inr (.inl h))
 ·obtain ⟨u, hu, e1, e2⟩ := QfW hk
  obtain ⟨j, hj, rfl⟩ := List.getElem_of_mem hu
  exact .inr (.inr (.inr ⟨j, hj, e1.trans (h j hj), e2⟩))
section
variable {us : List UR} {eu ec eg : Nat} {L : List Int} {J : Int} {b4 : Box}
theorem Qes : lk (wA us eu ec eg L J b4) 500000 = some ⟨us.map dUR, 3, eu, false⟩ := rfl
theorem Qd2 : lk (wA us eu ec eg L J b4) 12 = some (gB L J eg) := rfl
theorem Qfr : lk (wA us eu ec eg L J b4) 4 = some b4 := rfl
theorem QcN (h : Z2 us) {j : Nat} (hj : j < us.length) : lk (wA us eu ec eg L J b4) (500001 + j) = some ⟨us[j].cs.map dCR, 8, ec, true⟩ := by
 show lk ((500000, _) :: (12, _) :: (4, _) :: fbx ec us) _ = _
 rw [Qm, if_neg (by omega), Qm, if_neg (by omega), Qm, if_neg (by omega)]
 exact QkN h hj
theorem ZS (h : Z2 us) {k : Nat} (h1 : k ≠ 500000) (h2 : k ≠ 12) (h3 : k ≠ 4) (h4 : k < 500001 \/ 500001 + us.length <= k) : lk (wA us eu ec eg L J b4) k = none := by
 show lk ((500000, _) :: (12, _) :: (4, _) :: fbx ec us) _ = _
 rw [Qm, if_neg (Ne.symm h1), Qm, if_neg (Ne.symm h2), Qm, if_neg (Ne.symm h3)]
 exact YI h h4
theorem QiW (h : Z2 us) {k : Nat} (hk : k = 500000 \/ k = 12 \/ k = 4 \/ ∃ u ∈ us, k = u.k) : (lk (wA us eu ec eg L J b4) k).isSome = true := by
 rcases hk with rfl | rfl | rfl | ⟨u, hu, rfl⟩
 ·rfl
 ·rfl
 ·rfl
 ·obtain ⟨j, hj, rfl⟩ := List.getElem_of_mem hu
  rw [h j hj, QcN h hj]; rfl
theorem Qab (h : Z2 us) (h4 : b4.pr = true) : Closed (wA us eu ec eg L J b4) := fun k b hk j hj => by
 rcases Qbd h hk with ⟨rfl, rfl⟩ | ⟨rfl, rfl⟩ | ⟨rfl, rfl⟩ | ⟨i, hi, rfl, rfl⟩
 ·exact QiW h (.inr (.inr (.inr (Qbc hj))))
 ·simp [Box.ids, gB] at hj
 ·rw [XV h4] at hj; cases hj
 ·simp [Box.ids] at hj
theorem QdK {α : Type} : ∀ {l : List α} {k : Nat} {a x : α}, x ∈ l.set k a -> x = a \/ x ∈ l
 | [], k, a, x, h => by simp at h
 | b :: l, 0, a, x, h => by
  simp only [List.set_cons_zero, List.mem_cons] at h ⊢
  rcases h with h | h
  ·exact .inl h
  ·exact .inr (.inr h)
 | b :: l, k + 1, a, x, h => by
  simp only [List.set_cons_succ, List.mem_cons] at h ⊢
  rcases h with h | h
  ·exact .inr (.inl h)
  ·rcases QdK h with h | h
   ·exact .inl h
   ·exact .inr (.inr h)
theorem QeZ {l : List Nat} {fr fr1 fr' : List (Nat × D)} {H : List (Nat × Box)} {i k : Nat} {row : List D} {p : Bool} (kk : Nat) (z' : CR) (hf : Q4 l fr = fr1) (ef : fr1 = fr') (hK : Z2 us) (hi : i < us.length) (hk : k < us[i].cs.length)
  (hKi : lk H (500001 + i) = some ⟨(us[i].cs.map dCR).set k row, 8, ec, p⟩) (hp : p = true -> row.map (D.fzS H (· == kk)) = row) (hrow : (row.map (D.fzS H (· == kk))).map D.canS = dCR z') (hoth : ∀ z ∈ us[i].cs, PureC z) (hz : PureC z')
  (hF : ∀ j, ∀ hj : j < us.length, j ≠ i -> lk H (500001 + j) = some ⟨us[j].cs.map dCR, 8, ec, true⟩) (hu : lk H 500000 = some ⟨us.map dUR, 3, eu, false⟩) (hg : lk H 12 = some (gB L J eg)) (h4 : lk H 4 = some b4) (hb4 : b4.pr = true) (hkk : kk < 500000 /\ kk ≠ 12 /\ kk ≠ 4) (hsm : ∀ j, 1000000 <= j -> lk H j = none) (hlen : us.length <= 100)
  (hfr : ∀ p ∈ fr', ∀ j ∈ p.2.ids, j = 500000 \/ j = 12 \/ j = 4 \/ ∃ u ∈ us, j = u.k) : St.le ⟨fr, H⟩ ⟨fr', wA (Qb5 us i k z') eu ec eg L J b4⟩ := by
 subst hf ef
 have nokk : ∀ j, (j = 500000 \/ j = 12 \/ j = 4 \/ ∃ u ∈ us, j = u.k) -> j ≠ kk := fun j hj e => by
  subst e
  rcases hj with rfl | rfl | rfl | ⟨u, hu, rfl⟩
  ·omega
  ·exact hkk.2.1 rfl
  ·exact hkk.2.2 rfl
  ·have := (Qa2 hK hu).1; omega
 have eqkk : ∀ j, j ≠ kk -> (j == kk) = false := fun j hj => by simp [hj]
 have some1 : ∀ b j, (j = 500000 \/ j = 12 \/ j = 4 \/ ∃ u ∈ us, j = u.k) -> (lk ((500001 + i, b) :: wA us eu ec eg L J b4) j).isSome = true := fun b j hj => QQ (QiW hK hj)
 have rowsz : ∀ r ∈ us[i].cs.map dCR, r.map (D.fzS H (· == kk)) = r := fun r hr => by
  obtain ⟨z, hzm, rfl⟩ := List.mem_map.1 hr
  exact YY fun d hd => QdG fun j hj => by rw [(hoth z hzm).all d hd] at hj; cases hj
 have mapz : ((us[i].cs.map dCR).set k row).map (fun r => r.map (D.fzS H (· == kk))) = (us[i].cs.map dCR).set k (row.map (D.fzS H (· == kk))) := by
  refine List.ext_getElem (by simp) fun j h1 h2 => ?_
  simp only [List.getElem_map, List.getElem_set]
  split
  ·rfl
  ·exact rowsz _ (List.mem_map_of_mem (List.getElem_mem _))
 refine le_trans (QbB l fr H) (le_trans (Qla kk (H' := (500001 + i, ⟨(us[i].cs.map dCR).set k (row.map (D.fzS H (· == kk))), 8, ec, p⟩) :: wA us eu ec eg L J b4) (by omega) (fr' := Q4 l fr) (fun t d h => ⟨d, h, QhA fun j hj => eqkk j (nokk j (hfr (t, d) (Z0 h) j hj))⟩) (fun j b h => ?_) (fun t d h j hj => some1 _ j (hfr (t, d) (Z0 h) j hj)) (fun j b h j2 hj2 => ?_) fun j hj hs => ?_) ?_)
 ·rw [Qm] at h
  split at h
  ·rename_i e; cases h; subst e
   refine ⟨by omega, _, hKi, ?_⟩
   cases p with
   | true => rw [hp rfl]; rfl
   | false => show Box.mk _ _ _ _ = _; rw [mapz]
  ·rename_i e
   rcases Qbd hK h with ⟨rfl, rfl⟩ | ⟨rfl, rfl⟩ | ⟨rfl, rfl⟩ | ⟨i2, hi2, rfl, rfl⟩
   ·refine ⟨by omega, _, hu, XD (.inr fun j hj => eqkk j (nokk j (.inr (.inr (.inr (Qbc hj))))))⟩
   ·exact ⟨Ne.symm hkk.2.1, _, hg, rfl⟩
   ·exact ⟨Ne.symm hkk.2.2, _, h4, XD (.inl hb4)⟩
   ·exact ⟨by omega, _, hF i2 hi2 (fun e2 => e (by omega)), rfl⟩
 ·rw [Qm] at h
  split at h
  ·cases h
   cases hpp : p with
   | true => rw [XV hpp] at hj2; cases hj2
   | false =>
   simp only [Box.ids, hpp, Bool.false_eq_true, if_false, List.mem_flatMap] at hj2
   obtain ⟨r, hr, d, hd, hj3⟩ := hj2
   rcases QdK hr with rfl | hr
   ·have : (d.canS).sid = [] := hz.all _ (by rw [<- hrow]; exact List.mem_map_of_mem hd)
    rw [QbV] at this
    rw [this] at hj3; cases hj3
   ·obtain ⟨z, hzm, rfl⟩ := List.mem_map.1 hr
    rw [(hoth z hzm).all d hd] at hj3; cases hj3
  ·exact QQ (Qab hK hb4 j b h j2 hj2)
 ·rw [hsm j hj] at hs; cases hs
 ·refine le_trans (Qee k Qv) (le_trans (QgC Qv (fun e => ?_) (fun r hr d hd => ?_)) (Qa3 rfl fun j => ?_))
  ·have := congrArg List.length e
   simp only [List.length_modify, List.length_set, List.length_map, List.length_nil] at this
   omega
  ·rcases QaJ hr with h | ⟨y, hy, rfl⟩
   ·rcases QdK h with rfl | h
    ·have : (d.canS).sid = [] := hz.all _ (by rw [<- hrow]; exact List.mem_map_of_mem hd)
     rwa [QbV] at this
    ·obtain ⟨z, hzm, rfl⟩ := List.mem_map.1 h
     exact (hoth z hzm).all d hd
   ·obtain ⟨d0, hd0, rfl⟩ := List.mem_map.1 hd
    rw [QbV]
    rcases QdK hy with rfl | h
    ·have : (d0.canS).sid = [] := hz.all _ (by rw [<- hrow]; exact List.mem_map_of_mem hd0)
     rwa [QbV] at this
    ·obtain ⟨z, hzm, rfl⟩ := List.mem_map.1 h
     exact (hoth z hzm).all d0 hd0
  ·have erows : ((us[i].cs.map dCR).set k (row.map (D.fzS H (· == kk)))).modify k (fun r => r.map D.canS) = ((us[i].cs.set k z').map dCR) := by
    refine List.ext_getElem (by simp) fun m h1 h2 => ?_
    simp only [List.getElem_modify, List.getElem_set, List.getElem_map]
    by_cases e : k = m
    ·subst e
     simp only [if_true]
     exact hrow
    ·simp only [if_neg e]
   have hK' := Qds (i := i) (k := k) (z := z') hK
   by_cases e : 500001 + i = j
   ·subst e
    rw [Qv, QcN hK' (by rw [Zp]; exact hi)]
    simp only [QaA hi, if_true, erows]; rfl
   ·rw [Qm, if_neg e, Qm, if_neg e, Qm, if_neg e]
    cases h : lk (wA us eu ec eg L J b4) j with
    | none =>
     cases h' : lk (wA (Qb5 us i k z') eu ec eg L J b4) j with
     | none => rfl
     | some b =>
      have : (lk (wA us eu ec eg L J b4) j).isSome = true := by
       rcases Qbd hK' h' with ⟨rfl, _⟩ | ⟨rfl, _⟩ | ⟨rfl, _⟩ | ⟨m, hm, rfl, _⟩
       ·rfl
       ·rfl
       ·rfl
       ·rw [Zp] at hm; rw [QcN hK hm]; rfl
      rw [h] at this; cases this
    | some b =>
     rcases Qbd hK h with ⟨rfl, rfl⟩ | ⟨rfl, rfl⟩ | ⟨rfl, rfl⟩ | ⟨m, hm, rfl, rfl⟩
     ·rw [Qes, QjK]
     ·rfl
     ·rfl
     ·rw [QcN hK' (by rw [Zp]; exact hm)]
      simp only [QaA hm, if_neg (show ¬ i = m by omega)]
end
theorem Qde : ∀ {H : List (Nat × Box)} {j : Nat}, j ∈ H.map Prod.fst -> (lk H j).isSome = true
 | [], _, h => by cases h
 | (k, b) :: H, j, h => by
  by_cases e : k = j
  ·subst e; exact QT
  ·refine QQ (Qde ?_)
   simp only [List.map_cons, List.mem_cons] at h
   exact h.resolve_left (Ne.symm e)
theorem QmI {us : List UR} (h : Z2 us) {i : Nat} (hi : i < us.length) : (us.map dUR)[((i : Nat) : Int).toNat]? = some [.str us[i].n, .str us[i].f, .osl (500001 + i) us[i].cs.length] := by
 rw [Int.toNat_natCast, List.getElem?_map, List.getElem?_eq_getElem hi, Option.map_some, dUR, h i hi]
theorem QpA {cs : List CR} {k : Nat} (hk : k < cs.length) : (cs.map dCR)[((k : Nat) : Int).toNat]? = some (dCR cs[k]) := by
 rw [Int.toNat_natCast, List.getElem?_map, List.getElem?_eq_getElem hk]; rfl
theorem QiR {us : List UR} {eu ec eg : Nat} {L : List Int} {J : Int} {b4 g1 : Box} (h : Z2 us) (k : Nat) : lk (((500000, (⟨us.map dUR, 3, eu, false⟩ : Box)) :: fbx ec us) ++ ([(12, gB L J eg)] ++ [(12, g1), (4, b4)])) k = lk (wA us eu ec eg L J b4) k := by
 show lk ((500000, _) :: (fbx ec us ++ [(12, gB L J eg), (12, g1), (4, b4)])) k = lk ((500000, _) :: (12, _) :: (4, _) :: fbx ec us) k
 rw [Qm, Qm]
 split
 ·rfl
 ·rw [ZM]
  cases hh : lk (fbx ec us) k with
  | some v =>
   have := Qgn h k v hh
   simp only
   rw [Qm, if_neg (by omega), Qm, if_neg (by omega), hh]
  | none =>
   simp only [Qm, hh]
   by_cases e : 12 = k
   ·rw [if_pos e, if_pos e]
   ·rw [if_neg e, if_neg e, if_neg e]; rfl
theorem QjP {us : List UR} {eu ec eg : Nat} {L : List Int} {J : Int} {b4 : Box} (h : Z2 us) (hv : ∀ y ∈ us, y.cs.length <= 16 /\ ∀ z ∈ y.cs, Qfo z.v) : Fam (wA us eu ec eg L J b4) 12 500000 eu ec us := by
 refine ⟨by decide, ⟨false, rfl⟩, fun y hy => ?_, hv⟩
 obtain ⟨j, hj, rfl⟩ := List.getElem_of_mem hy
 refine ⟨by rw [h j hj]; omega, true, by rw [h j hj]; exact QcN h hj⟩
/-! ### Filled candidates -/
def Qnr (n : Nat) (x : WantT) : Prop := 0 <= x.u /\ x.u < n /\ SetOk x.s
theorem WantIn.w {n : Nat} {x : WantT} (h : WantIn n x) : Qnr n x := ⟨by have := h.1; omega, h.2.1, h.2.2⟩
structure Qad (n : Nat) (c : CandT) : Prop where
 v : Qfo c.v
 nl : c.ns.length <= 10
 nr : ∀ r ∈ c.ns, r.length <= 2 /\ ∀ x ∈ r, Qnr n x
 bl : c.bs.length <= 1
 bw : ∀ x ∈ c.bs, Qnr n x
def Qg1 (c : CandT) : CR := ⟨c.v, .int .i64 c.sh, QP c.ns, Q0 c.bs⟩
def DoneC (n : Nat) (z : CR) : Prop := ∃ c, z = Qg1 c /\ Qad n c
def FreshC (z : CR) : Prop := ∃ v sh, z = zr v sh /\ Qfo v
theorem DoneC.pure {n : Nat} {z : CR} (h : DoneC n z) : PureC z := by obtain ⟨c, rfl, _⟩ := h; exact ⟨rfl, rfl, rfl⟩
theorem FreshC.pure {z : CR} (h : FreshC z) : PureC z := by obtain ⟨v, sh, rfl, _⟩ := h; exact ⟨rfl, rfl, rfl⟩
theorem DoneC.vr {n : Nat} {z : CR} (h : DoneC n z) : Qfo z.v := by obtain ⟨c, rfl, q⟩ := h; exact q.v
theorem FreshC.vr {z : CR} (h : FreshC z) : Qfo z.v := by obtain ⟨v, sh, rfl, q⟩ := h; exact q
structure Prog (n : Nat) (us : List UR) (i k : Nat) : Prop where
 keys : Z2 us
 len : us.length = n /\ 2 <= n /\ n <= 11
 cl : ∀ u ∈ us, u.cs.length <= 4
 done : ∀ j, ∀ hj : j < us.length, ∀ m, ∀ hm : m < us[j].cs.length, (j < i \/ (j = i /\ m < k)) -> DoneC n us[j].cs[m]
 fresh : ∀ j, ∀ hj : j < us.length, ∀ m, ∀ hm : m < us[j].cs.length, ¬ (j < i \/ (j = i /\ m < k)) -> FreshC us[j].cs[m]
theorem Prog.pure {n : Nat} {us : List UR} {i k : Nat} (h : Prog n us i k) {j : Nat} (hj : j < us.length) : ∀ z ∈ us[j].cs, PureC z /\ Qfo z.v := fun z hz => by
 obtain ⟨m, hm, rfl⟩ := List.getElem_of_mem hz
 by_cases hd : j < i \/ (j = i /\ m < k)
 ·exact ⟨(h.done j hj m hm hd).pure, (h.done j hj m hm hd).vr⟩
 ·exact ⟨(h.fresh j hj m hm hd).pure, (h.fresh j hj m hm hd).vr⟩
theorem Prog.fam {n : Nat} {us : List UR} {i k : Nat} (h : Prog n us i k) : ∀ y ∈ us, y.cs.length <= 16 /\ ∀ z ∈ y.cs, Qfo z.v := fun y hy => by
 obtain ⟨j, hj, rfl⟩ := List.getElem_of_mem hy
 exact ⟨Nat.le_trans (h.cl _ hy) (by omega), fun z hz => (h.pure hj z hz).2⟩
theorem Prog.put {n : Nat} {us : List UR} {i k : Nat} (h : Prog n us i k) (hi : i < us.length) (hk : k < us[i].cs.length) {z : CR} (hz : DoneC n z) : Prog n (Qb5 us i k z) i (k + 1) := by
 have at' := fun (j : Nat) (hj : j < us.length) => QaA (i := i) (k := k) (z := z) hj
 refine ⟨Qds h.keys, by rw [Zp]; exact h.len, fun u hu => ?_, fun j hj m hm hd => ?_, fun j hj m hm hd => ?_⟩
 ·obtain ⟨j, hj, rfl⟩ := List.getElem_of_mem hu
  rw [Zp] at hj
  rw [at' j hj]
  split
  ·simp only [QdR, List.length_set]; exact h.cl _ (List.getElem_mem _)
  ·exact h.cl _ (List.getElem_mem _)
 ·rw [Zp] at hj
  have e := at' j hj
  by_cases hij : i = j
  ·subst hij
   rw [if_pos rfl] at e
   have hm' : m < (QdR us[i] k z).cs.length := by rw [<- e]; exact hm
   have e2 : (Qb5 us i k z)[i].cs[m] = (QdR us[i] k z).cs[m]'hm' := by congr 1; rw [e]
   rw [e2]
   simp only [QdR, List.getElem_set]
   split
   ·exact hz
   ·simp only [QdR, List.length_set] at hm'
    exact h.done i hi m hm' (by omega)
  ·rw [if_neg hij] at e
   have hm' : m < us[j].cs.length := by rw [<- e]; exact hm
   have e2 : (Qb5 us i k z)[j].cs[m] = us[j].cs[m]'hm' := by congr 1; rw [e]
   rw [e2]; exact h.done j hj m hm' (by omega)
 ·rw [Zp] at hj
  have e := at' j hj
  by_cases hij : i = j
  ·subst hij
   rw [if_pos rfl] at e
   have hm' : m < (QdR us[i] k z).cs.length := by rw [<- e]; exact hm
   have e2 : (Qb5 us i k z)[i].cs[m] = (QdR us[i] k z).cs[m]'hm' := by congr 1; rw [e]
   rw [e2]
   simp only [QdR, List.length_set] at hm'
   simp only [QdR, List.getElem_set]
   rw [if_neg (by omega)]
   exact h.fresh i hi m hm' (by omega)
  ·rw [if_neg hij] at e
   have hm' : m < us[j].cs.length := by rw [<- e]; exact hm
   have e2 : (Qb5 us i k z)[j].cs[m] = us[j].cs[m]'hm' := by congr 1; rw [e]
   rw [e2]; exact h.fresh j hj m hm' (by omega)
theorem Prog.next {n : Nat} {us : List UR} {i k : Nat} (h : Prog n us i k) (hi : i < us.length) (hk : us[i].cs.length <= k) : Prog n us (i + 1) 0 := by
 refine ⟨h.keys, h.len, h.cl, fun j hj m hm hd => h.done j hj m hm ?_, fun j hj m hm hd => h.fresh j hj m hm (by omega)⟩
 by_cases e : j = i
 ·subst e; exact .inr ⟨rfl, by omega⟩
 ·exact .inl (by omega)
theorem Prog.again {n : Nat} {us : List UR} {i k : Nat} (h : Prog n us i (k + 1)) (hi : i < us.length) (hk : k < us[i].cs.length) {z : CR} (hz : DoneC n z) : Prog n (Qb5 us i k z) i (k + 1) := by
 have at' := fun (j : Nat) (hj : j < us.length) => QaA (i := i) (k := k) (z := z) hj
 refine ⟨Qds h.keys, by rw [Zp]; exact h.len, fun u hu => ?_, fun j hj m hm hd => ?_, fun j hj m hm hd => ?_⟩
 ·obtain ⟨j, hj, rfl⟩ := List.getElem_of_mem hu
  rw [Zp] at hj
  rw [at' j hj]
  split
  ·simp only [QdR, List.length_set]; exact h.cl _ (List.getElem_mem _)
  ·exact h.cl _ (List.getElem_mem _)
 ·rw [Zp] at hj
  have e := at' j hj
  by_cases hij : i = j
  ·subst hij
   rw [if_pos rfl] at e
   have hm' : m < (QdR us[i] k z).cs.length := by rw [<- e]; exact hm
   have e2 : (Qb5 us i k z)[i].cs[m] = (QdR us[i] k z).cs[m]'hm' := by congr 1; rw [e]
   rw [e2]
   simp only [QdR, List.getElem_set]
   split
   ·exact hz
   ·simp only [QdR, List.length_set] at hm'
    exact h.done i hi m hm' (by omega)
  ·rw [if_neg hij] at e
   have hm' : m < us[j].cs.length := by rw [<- e]; exact hm
   have e2 : (Qb5 us i k z)[j].cs[m] = us[j].cs[m]'hm' := by congr 1; rw [e]
   rw [e2]; exact h.done j hj m hm' (by omega)
 ·rw [Zp] at hj
  have e := at' j hj
  by_cases hij : i = j
  ·subst hij
   rw [if_pos rfl] at e
   have hm' : m < (QdR us[i] k z).cs.length := by rw [<- e]; exact hm
   have e2 : (Qb5 us i k z)[i].cs[m] = (QdR us[i] k z).cs[m]'hm' := by congr 1; rw [e]
   rw [e2]
   simp only [QdR, List.length_set] at hm'
   simp only [QdR, List.getElem_set]
   rw [if_neg (by omega)]
   exact h.fresh i hi m hm' (by omega)
  ·rw [if_neg hij] at e
   have hm' : m < us[j].cs.length := by rw [<- e]; exact hm
   have e2 : (Qb5 us i k z)[j].cs[m] = us[j].cs[m]'hm' := by congr 1; rw [e]
   rw [e2]; exact h.fresh j hj m hm' (by omega)
theorem Qk8 {l : List Nat} {fr fr1 fr' : List (Nat × D)} {us : List UR} {eu ec eg e1 e3 : Nat} {L : List Int} {J : Int} {b4 bK : Box} {i : Nat} {x : WantT} (hf : Q4 l fr = fr1) (ef : fr1 = fr') (hK : Z2 us) (hi : i < us.length) (hb4 : b4.pr = true) (hbK : ∀ j ∈ bK.ids, j = 64)
  (hfr : ∀ p ∈ fr', ∀ j ∈ p.2.ids, j = 500000 \/ j = 12 \/ j = 4 \/ ∃ u ∈ us, j = u.k) :
  St.le ⟨fr, (500001 + i, bK) :: (64, ⟨[[.osl 63 1]], 1, e1, false⟩) :: (63, ⟨[Qd5 x], 3, e3, true⟩) :: wA us eu ec eg L J b4⟩ ⟨fr', (500001 + i, bK) :: (64, ⟨[[Q0 [x]]], 1, e1, true⟩) :: wA us eu ec eg L J b4⟩ := by
 subst hf ef
 have no63 : ∀ j, (j = 500000 \/ j = 12 \/ j = 4 \/ ∃ u ∈ us, j = u.k) -> j ≠ 63 := fun j hj e => by
  subst e
  rcases hj with h | h | h | ⟨u, hu, h⟩
  ·cases h
  ·cases h
  ·cases h
  ·have := (Qa2 hK hu).1; omega
 have eq63 : ∀ j, j ≠ 63 -> (j == 63) = false := fun j hj => by simp [hj]
 have up : ∀ b b' j, (lk (wA us eu ec eg L J b4) j).isSome = true -> (lk ((500001 + i, b) :: (64, b') :: wA us eu ec eg L J b4) j).isSome = true := fun b b' j hj => QQ (QQ hj)
 refine le_trans (QbB l fr _) (le_trans (Qla 63 (H' := (500001 + i, bK) :: (64, ⟨[[Q0 [x]]], 1, e1, false⟩) :: wA us eu ec eg L J b4) (by decide) (fr' := Q4 l fr) (fun t d h => ⟨d, h, QhA fun j hj => eq63 j (no63 j (hfr (t, d) (Z0 h) j hj))⟩) (fun j b h => ?_) (fun t d h j hj => up _ _ j (QiW hK (hfr (t, d) (Z0 h) j hj))) (fun j b h j2 hj2 => ?_) fun j hj hs => ?_) ?_)
 ·rw [Qm] at h
  split at h
  ·rename_i e; cases h; subst e
   refine ⟨by omega, _, Qv, XD (.inr fun j hj => ?_)⟩
   rw [hbK j hj]; rfl
  ·rename_i e
   rw [Qm] at h
   split at h
   ·rename_i e2; cases h; subst e2
    refine ⟨by decide, _, Qk e Qv, ?_⟩
    have h63 : lk ((500001 + i, bK) :: (64, (⟨[[.osl 63 1]], 1, e1, false⟩ : Box)) :: (63, ⟨[Qd5 x], 3, e3, true⟩) :: wA us eu ec eg L J b4) 63 = some ⟨[Qd5 x], 3, e3, true⟩ := Qk (by omega) (Qk (by decide) Qv)
    simp only [Box.fz, Bool.false_eq_true, if_false, List.map_cons, List.map_nil, D.fzS, beq_self_eq_true, if_true, h63, List.length_singleton, and_self, Q0]
   ·rename_i e2
    have h2 : lk ((500001 + i, bK) :: (64, (⟨[[.osl 63 1]], 1, e1, false⟩ : Box)) :: (63, ⟨[Qd5 x], 3, e3, true⟩) :: wA us eu ec eg L J b4) j = some b := by
     have hj : j ≠ 63 := by
      rcases Qbd hK h with ⟨rfl, _⟩ | ⟨rfl, _⟩ | ⟨rfl, _⟩ | ⟨m, _, rfl, _⟩ <;> omega
     exact Qk e (Qk e2 (Qk (Ne.symm hj) h))
    rcases Qbd hK h with ⟨rfl, rfl⟩ | ⟨rfl, rfl⟩ | ⟨rfl, rfl⟩ | ⟨m, hm, rfl, rfl⟩
    ·exact ⟨by decide, _, h2, XD (.inr fun j hj => eq63 j (no63 j (.inr (.inr (.inr (Qbc hj))))))⟩
    ·exact ⟨by decide, _, h2, rfl⟩
    ·exact ⟨by decide, _, h2, XD (.inl hb4)⟩
    ·exact ⟨by omega, _, h2, rfl⟩
 ·rw [Qm] at h
  split at h
  ·cases h
   rw [hbK j2 hj2]; exact QQ QT
  ·rw [Qm] at h
   split at h
   ·cases h; simp [Box.ids, D.sid, Q0] at hj2
   ·exact up _ _ j2 (Qab hK hb4 j b h j2 hj2)
 ·by_cases e : 500001 + i = j
  ·subst e; exact QT
  ·rw [Qm, if_neg e, Qm, if_neg (by omega), Qm, if_neg (by omega)] at hs
   exact up _ _ j hs
 ·have h64 : lk ((500001 + i, bK) :: (64, (⟨[[Q0 [x]]], 1, e1, false⟩ : Box)) :: wA us eu ec eg L J b4) 64 = some ⟨[[Q0 [x]]], 1, e1, false⟩ := Qk (by omega) Qv
  refine le_trans (QgC h64 (by simp) (by intro r hr d hd; simp only [List.mem_singleton] at hr; subst hr; simp only [List.mem_singleton] at hd; subst hd; rfl)) (Qa3 rfl fun j => ?_)
  by_cases e : 64 = j
  ·subst e; rw [Qv, Qm, if_neg (by omega), Qv]
  ·by_cases eK : 500001 + i = j
   ·subst eK; rw [Qm, if_neg e, Qv, Qv]
   ·rw [Qm, if_neg e, Qm, if_neg eK, Qm, if_neg e, Qm, if_neg eK, Qm, if_neg e]
theorem QkD {n : Nat} : ∀ {cs : List CR}, (∀ z ∈ cs, DoneC n z) -> ∃ l : List CandT, cs = l.map Qg1 /\ ∀ c ∈ l, Qad n c
 | [], _ => ⟨[], rfl, by simp⟩
 | z :: cs, h => by
  obtain ⟨l, h1, h2⟩ := QkD (cs := cs) fun y hy => h y (by simp [hy])
  obtain ⟨c, rfl, hc⟩ := h z (by simp)
  exact ⟨c :: l, by rw [h1]; rfl, fun y hy => by
   rcases List.mem_cons.1 hy with rfl | hy
   ·exact hc
   ·exact h2 y hy⟩
def QoC (n : Nat) (u : UR) (x : Qko) : Prop := x.n = u.n /\ x.f = u.f /\ u.cs = x.cs.map Qg1 /\ ∀ c ∈ x.cs, Qad n c
theorem QkE {n : Nat} : ∀ {us : List UR}, (∀ u ∈ us, ∀ z ∈ u.cs, DoneC n z) -> ∃ w : Q8, w.length = us.length /\ ∀ j, ∀ h : j < us.length, ∀ h' : j < w.length, QoC n us[j] w[j]
 | [], _ => ⟨[], rfl, fun j h => by simp at h⟩
 | u :: us, h => by
  obtain ⟨w, h1, h2⟩ := QkE (us := us) fun y hy => h y (by simp [hy])
  obtain ⟨l, q1, q2⟩ := QkD (h u (by simp))
  refine ⟨⟨u.n, u.f, l⟩ :: w, by simp [h1], fun j hj hj' => ?_⟩
  cases j with
  | zero => exact ⟨rfl, rfl, q1, q2⟩
  | succ j => simp only [List.getElem_cons_succ]; exact h2 j (by simpa using hj) (by simpa using hj')
structure QlW (w : Q8) : Prop where
 sm : WSm w
 len : 2 <= w.length /\ w.length <= 11
 cs : ∀ u ∈ w, u.cs.length <= 4
 cand : ∀ u ∈ w, ∀ c ∈ u.cs, Qad w.length c
theorem QnU {w : Q8} (h2 : 2 <= w.length) (h11 : w.length <= 11) (hc : ∀ u ∈ w, u.cs.length <= 4) (hd : ∀ u ∈ w, ∀ c ∈ u.cs, Qad w.length c) : QlW w := by
 refine ⟨⟨by omega, fun u hu => Nat.le_trans (hc u hu) (by omega), fun u hu c hcm => (hd u hu c hcm).v, fun u hu c hcm => ⟨Nat.le_trans (hd u hu c hcm).nl (by omega), Nat.le_trans (hd u hu c hcm).bl (by omega)⟩, fun u hu c hcm r hr => Nat.le_trans ((hd u hu c hcm).nr r hr).1 (by omega), fun u hu c hcm r hr x hx => (((hd u hu c hcm).nr r hr).2 x hx).2.2.sm, fun u hu c hcm x hx => ((hd u hu c hcm).bw x hx).2.2.sm⟩, ⟨h2, h11⟩, hc, hd⟩
theorem Qml {n : Nat} {us : List UR} {eu ec eg : Nat} {L : List Int} {J : Int} {b4 : Box} {k : Nat} (h : Prog n us us.length k) (hb4 : b4.pr = true) :
  ∃ w : Q8, w.length = us.length /\ QlW w /\ ∀ {l : List Nat} {fr fr1 fr' : List (Nat × D)}, Q4 l fr = fr1 -> fr1 = fr' -> (∀ p ∈ fr', ∀ j ∈ p.2.ids, j = 500000 \/ j = 4) -> St.le ⟨fr, wA us eu ec eg L J b4⟩ ⟨fr', [(500000, ⟨w.map QdF, 3, eu, true⟩), (4, b4)]⟩ := by
 obtain ⟨w, hw1, hw2⟩ := QkE (n := n) (us := us) fun u hu z hz => by
  obtain ⟨j, hj, rfl⟩ := List.getElem_of_mem hu
  obtain ⟨m, hm, rfl⟩ := List.getElem_of_mem hz
  exact h.done j hj m hm (.inl hj)
 have hcs : ∀ u ∈ w, u.cs.length <= 4 /\ ∀ c ∈ u.cs, Qad n c := fun u hu => by
  obtain ⟨j, hj, rfl⟩ := List.getElem_of_mem hu
  obtain ⟨_, _, q3, q4⟩ := hw2 j (by omega) hj
  have := h.cl us[j] (List.getElem_mem _)
  rw [q3, List.length_map] at this
  exact ⟨this, q4⟩
 have hlen := h.len
 refine ⟨w, hw1, QnU (by omega) (by omega) (fun u hu => (hcs u hu).1) (fun u hu c hc => by have := (hcs u hu).2 c hc; rwa [show w.length = n by omega]), ?_⟩
 intro l fr fr1 fr' hf ef hfr
 subst hf ef
 have hK := h.keys
 let S : Nat -> Bool := fun k => decide (500001 <= k) && decide (k < 1000000)
 have hS1 : ∀ k, k < 500001 -> S k = false := fun k hk => by
  show (decide (500001 <= k) && decide (k < 1000000)) = false
  rw [decide_eq_false (by omega)]; rfl
 have hS2 : ∀ k, 500001 <= k -> k < 1000000 -> S k = true := fun k h1 h2 => by
  show (decide (500001 <= k) && decide (k < 1000000)) = true
  rw [decide_eq_true h1, decide_eq_true h2]; rfl
 have hrow : ∀ j, ∀ h1 : j < us.length, ∀ h2 : j < w.length, (dUR us[j]).map (D.fzS (wA us eu ec eg L J b4) S) = QdF w[j] := fun j h1 h2 => by
  obtain ⟨q1, q2, q3, q4⟩ := hw2 j h1 h2
  have hk := hK j h1
  have hc := QcN (eu := eu) (ec := ec) (eg := eg) (L := L) (J := J) (b4 := b4) hK h1
  generalize us[j] = u at q1 q2 q3 hk hc
  generalize w[j] = x at q1 q2 q3 q4
  obtain ⟨un, uf, uk, ucs⟩ := u
  simp only at q1 q2 q3 hk hc
  subst hk q3
  simp only [dUR, QdF, List.map_cons, List.map_nil, D.fzS]
  rw [hS2 _ (by omega) (by omega), hc]
  simp only [if_true, true_and, List.length_map, q1, q2, QkC, List.map_map]
  rfl
 have hrows : (us.map dUR).map (fun r => r.map (D.fzS (wA us eu ec eg L J b4) S)) = w.map QdF := by
  refine List.ext_getElem (by simp [hw1]) fun j h1 h2 => ?_
  simp only [List.getElem_map]
  exact hrow j (by simpa using h1) (by simpa using h2)
 refine le_trans (QbB l fr _) (le_trans (QnP S (fun k hk => by
  simp only [S, Bool.and_eq_true, decide_eq_true_eq] at hk; exact hk.2) (fr' := Q4 l fr) (H' := [(500000, ⟨w.map QdF, 3, eu, false⟩), (4, b4)]) (fun t d hd => ⟨d, hd, QhA fun j hj => ?_⟩) (fun j b hj => ?_) (fun t d hd j hj => ?_) (fun j b hb i hi => ?_) fun j hj hs => ?_) (le_trans (QgC (k := 500000) (b := ⟨w.map QdF, 3, eu, false⟩) rfl (fun e => ?_) (fun r hr d hd => ?_)) (Qa3 rfl fun j => ?_)))
 ·rcases hfr (t, d) (Z0 hd) j hj with rfl | rfl
  ·exact hS1 _ (by decide)
  ·exact hS1 _ (by decide)
 ·rw [Qm] at hj
  split at hj
  ·rename_i e; cases hj; subst e
   refine ⟨hS1 _ (by decide), _, Qes, ?_⟩
   simp only [Box.fz, Bool.false_eq_true, if_false, hrows]
  ·rw [Qm] at hj
   split at hj
   ·rename_i e; cases hj; subst e
    exact ⟨hS1 _ (by decide), _, Qfr, XD (.inl hb4)⟩
   ·cases hj
 ·rcases hfr (t, d) (Z0 hd) j hj with rfl | rfl
  ·rfl
  ·rfl
 ·rw [Qm] at hb
  split at hb
  ·cases hb
   simp only [Box.ids, Bool.false_eq_true, if_false, List.mem_flatMap, List.mem_map] at hi
   obtain ⟨r, ⟨u, _, rfl⟩, d, hd, hi⟩ := hi
   simp only [QdF, List.mem_cons, List.not_mem_nil, or_false] at hd
   rcases hd with rfl | rfl | rfl <;> simp [D.sid, QkC] at hi
  ·rw [Qm] at hb
   split at hb
   ·cases hb; rw [XV hb4] at hi; cases hi
   ·cases hb
 ·obtain ⟨b, hb⟩ := Option.isSome_iff_exists.1 hs
  rcases Qbd hK hb with ⟨rfl, _⟩ | ⟨rfl, _⟩ | ⟨rfl, _⟩ | ⟨m, hm, rfl, _⟩ <;> omega
 ·have := congrArg List.length e
  simp only [List.length_map, List.length_nil] at this
  omega
 ·obtain ⟨u, _, rfl⟩ := List.mem_map.1 hr
  simp only [QdF, List.mem_cons, List.not_mem_nil, or_false] at hd
  rcases hd with rfl | rfl | rfl <;> rfl
 ·by_cases e : 500000 = j
  ·subst e; rfl
  ·rw [Qm, if_neg e, Qm, if_neg e]; rw [Qm (k := 500000), if_neg e]
def Qit (us : List UR) (i : Nat) : Nat := match us[i]? with
 | some u => u.cs.length
 | none => 0
theorem Qax {us : List UR} {i : Nat} (h : i < us.length) : Qit us i = us[i].cs.length := by rw [Qit, List.getElem?_eq_getElem h]
theorem Qal (us : List UR) (i k : Nat) (z : CR) : Qit (Qb5 us i k z) i = Qit us i := by
 by_cases h : i < us.length
 ·rw [Qax h, Qax (by rw [Zp]; exact h), QaA h, if_pos rfl]
  simp [QdR]
 ·have e : (Qb5 us i k z).length = us.length := Zp ..
  rw [Qit, Qit, List.getElem?_eq_none (show us.length <= i by omega), List.getElem?_eq_none (show (Qb5 us i k z).length <= i by omega)]
theorem Qh4 {us : List UR} {i k : Nat} {z : CR} (hi : i < us.length) (hk : k < us[i].cs.length) {us2 : List UR} (e : us2 = Qb5 us i k z) (hi2 : i < us2.length) (hk2 : k < us2[i].cs.length) : us2[i].cs[k] = z := by
 subst e
 have e1 := QaA (i := i) (k := k) (z := z) hi
 rw [if_pos rfl] at e1
 have e2 : (Qb5 us i k z)[i].cs[k] = (QdR us[i] k z).cs[k]'(by simpa [QdR] using hk) := by congr 1; rw [e1]
 rw [e2]; simp [QdR]
theorem QnE {cs : List CR} {k : Nat} {z : CR} (hk : k < cs.length) (hz : cs[k] = z) : (cs.map dCR)[((k : Nat) : Int).toNat]? = some (dCR z) := by rw [QpA hk, hz]
theorem Qm9 {cs : List CR} {k : Nat} {row : List D} (hk : k < cs.length) : ((cs.map dCR).set ((k : Nat) : Int).toNat row)[((k : Nat) : Int).toNat]? = some row := by
 rw [Int.toNat_natCast, List.getElem?_set_self (by simpa using hk)]
theorem QhJ {K k e t : Nat} {L : List (List D)} {r1 r2 : List D} {p : Bool} {H : List (Nat × Box)} : lk ((K, (⟨(L.set k r1).set k r2, e, t, p⟩ : Box)) :: H) K = some ⟨L.set k r2, e, t, p⟩ := by rw [Qv, List.set_set]
theorem Qed {H : List (Nat × Box)} {kk m e t : Nat} {ys : List (List D)} {v : Vr} {sh : Int} (h : lk H kk = some ⟨ys, e, t, true⟩) (hm : m = ys.length) : ([D.int .i64 v.a, .int .i64 v.b, .int .i64 v.c, .str v.p, .str v.q, .int .i64 sh, .osl kk m, .fsl []].map (D.fzS H (· == kk))).map D.canS = [.int .i64 v.a, .int .i64 v.b, .int .i64 v.c, .str v.p, .str v.q, .int .i64 sh, .sl ys, .sl []] := by
 simp only [List.map_cons, List.map_nil, D.fzS, beq_self_eq_true, if_true, h, hm, and_self, D.canS]
theorem QkT {H : List (Nat × Box)} {kk m e t : Nat} {ys : List (List D)} {v : Vr} {sh : Int} {ns : List (List WantT)} (h : lk H kk = some ⟨ys, e, t, true⟩) (hm : m = ys.length) : ([D.int .i64 v.a, .int .i64 v.b, .int .i64 v.c, .str v.p, .str v.q, .int .i64 sh, QP ns, .osl kk m].map (D.fzS H (· == kk))).map D.canS = [.int .i64 v.a, .int .i64 v.b, .int .i64 v.c, .str v.p, .str v.q, .int .i64 sh, QP ns, .sl ys] := by
 simp only [QP, List.map_cons, List.map_nil, D.fzS, beq_self_eq_true, if_true, h, hm, and_self, D.canS]
theorem Qpe {us : List UR} {eu ec eg : Nat} {L : List Int} {J J2 : Int} {b4 : Box} (k : Nat) : lk ((12, gB L J2 eg) :: wA us eu ec eg L J b4) k = lk (wA us eu ec eg L J2 b4) k := by
 show lk ((12, _) :: (500000, _) :: (12, _) :: (4, _) :: fbx ec us) k = lk ((500000, _) :: (12, _) :: (4, _) :: fbx ec us) k
 by_cases e : 12 = k
 ·subst e; rfl
 ·rw [Qm, if_neg e, Qm, Qm (k := 500000)]
  split
  ·rfl
  ·rw [Qm, if_neg e, Qm (k := 12), if_neg e]
theorem QiL {cs : List CR} {k e t : Nat} {row : List D} (h : ∀ z ∈ cs, PureC z) (hr : ∀ d ∈ row, ∀ j ∈ d.sid, j = 64) : ∀ j ∈ Box.ids ⟨(cs.map dCR).set k row, e, t, false⟩, j = 64 := fun j hj => by
 simp only [Box.ids, Bool.false_eq_true, if_false, List.mem_flatMap] at hj
 obtain ⟨r, hrm, d, hd, hj⟩ := hj
 rcases QdK hrm with rfl | hrm
 ·exact hr d hd j hj
 ·obtain ⟨z, hz, rfl⟩ := List.mem_map.1 hrm
  rw [(h z hz).all d hd] at hj; cases hj
theorem Qqb {us : List UR} {eu ec eg : Nat} {L : List Int} {J : Int} {b4 b64 : Box} {n i k : Nat} (h : Prog n us i k) (hi : i < us.length) (hk : k < us[i].cs.length) {zx : CR} (hv : Qfo zx.v) (hrow : zx.x.sid = [] /\ zx.y.sid = [64] /\ zx.z.sid = []) (hb4 : b4.pr = true) (h64 : b64.pr = true) :
  Fam ((500001 + i, ⟨(us[i].cs.map dCR).set k (dCR zx), 8, ec, false⟩) :: (64, b64) :: wA us eu ec eg L J b4) 12 500000 eu ec (Qb5 us i k zx) /\ Closed ((500001 + i, ⟨(us[i].cs.map dCR).set k (dCR zx), 8, ec, false⟩) :: (64, b64) :: wA us eu ec eg L J b4) := by
 refine ⟨⟨by decide, ⟨false, ?_⟩, fun y hy => ?_, fun y hy => ?_⟩, ?_⟩
 ·rw [Qm, if_neg (by omega), Qm, if_neg (by decide), Qes, QjK]
 ·obtain ⟨j, hj, rfl⟩ := List.getElem_of_mem hy
  have hK' := Qds (i := i) (k := k) (z := zx) h.keys
  have hj' := hj
  rw [Zp] at hj'
  refine ⟨by rw [hK' j hj]; omega, ?_⟩
  rw [hK' j hj]
  by_cases e : i = j
  ·subst e
   refine ⟨false, ?_⟩
   rw [Qv, QaA hj', if_pos rfl, QdR, List.map_set]
  ·refine ⟨true, ?_⟩
   rw [Qm, if_neg (by omega), Qm, if_neg (by omega), QcN h.keys hj', QaA hj', if_neg e]
 ·obtain ⟨j, hj, rfl⟩ := List.getElem_of_mem hy
  have hj' := hj
  rw [Zp] at hj'
  rw [QaA hj']
  have hfam := h.fam us[j] (List.getElem_mem _)
  split
  ·refine ⟨by simpa [QdR] using hfam.1, fun z hz => ?_⟩
   rcases QdK hz with rfl | hz
   ·exact hv
   ·exact hfam.2 z hz
  ·exact hfam
 ·refine ((Qab h.keys hb4).pr h64).cons fun j hj => ?_
  have := QiL (e := 8) (t := ec) (k := k) (row := dCR zx) (fun z hz => (h.pure hi z hz).1) (fun d hd j hj => by
   simp only [dCR, List.mem_cons, List.not_mem_nil, or_false] at hd
   rcases hd with rfl | rfl | rfl | rfl | rfl | rfl | rfl | rfl
   ·cases hj
   ·cases hj
   ·cases hj
   ·cases hj
   ·cases hj
   ·rw [hrow.1] at hj; cases hj
   ·rw [hrow.2.1] at hj; simpa using hj
   ·rw [hrow.2.2] at hj; cases hj) j hj
  subst this; exact QT
theorem Prog.start {us : List UR} (h : UnitsIn us) (h2 : 2 <= us.length) (h11 : us.length <= 11) : Prog us.length us 0 0 := by
 refine ⟨h.keys, ⟨rfl, h2, h11⟩, fun u hu => (h.fresh u hu).1, fun j hj m hm hd => by omega, fun j hj m hm _ => ?_⟩
 obtain ⟨v, sh, e, hv⟩ := (h.fresh _ (List.getElem_mem hj)).2 _ (List.getElem_mem hm)
 exact ⟨v, sh, e, hv⟩
theorem QdD {n : Nat} {m : Int} {v : Vr} {sh : Int} {ns : List (List WantT)} (hv : Qfo v) (h : Qew n m ns) (hm : m <= 3) : Qad n ⟨v, sh, ns, []⟩ :=
 ⟨hv, by show ns.length <= 10; have := h.1; omega, fun r hr => ⟨(h.2 r hr).1, fun x hx => ((h.2 r hr).2 x hx).w⟩, Nat.zero_le _, fun x hx => by cases hx⟩
theorem Qhr {n i : Nat} {m : Int} {v : Vr} {sh : Int} {ns : List (List WantT)} (hv : Qfo v) (h : Qew n m ns) (hm : m <= 3) (h1 : 1 <= i) (hi : i < n) : Qad n ⟨v, sh, [⟨(i : Int) - 1, YX v.a v.b v.c v.p v.q⟩] :: ns, []⟩ := by
 refine ⟨hv, by show (_ :: ns).length <= 10; have := h.1; simp only [List.length_cons]; omega, fun r hr => ?_, Nat.zero_le _, fun x hx => by cases hx⟩
 rcases List.mem_cons.1 hr with rfl | hr
 ·refine ⟨by simp, fun x hx => ?_⟩
  simp only [List.mem_singleton] at hx; subst hx
  have := QaW (a := v.a) (b := v.b) (c := v.c) (q := v.q) hv.1
  exact ⟨by show 0 <= (i : Int) - 1; omega, by show (i : Int) - 1 < n; omega, this.1.up (by omega), this.2.up (by omega)⟩
 ·exact ⟨(h.2 r hr).1, fun x hx => ((h.2 r hr).2 x hx).w⟩
theorem Qhq {n : Nat} {v : Vr} {sh : Int} {ns : List (List WantT)} (h : Qad n ⟨v, sh, ns, []⟩) {x : WantT} (hx : WantIn n x) : Qad n ⟨v, sh, ns, [x]⟩ := ⟨h.v, h.nl, h.nr, by simp, by intro y hy; simp only [List.mem_singleton] at hy; subst hy; exact hx.w⟩
theorem Qh5 {us : List UR} {i k : Nat} {z : CR} (hi : i < us.length) (hk : k < us[i].cs.length) {us2 : List UR} (e : Qb5 us i k z = us2) (hi2 : i < us2.length) : k < us2[i].cs.length := by
 rw [<- Qax hi2, <- e, Qal, Qax hi]; exact hk
theorem Qm6 {l : List (List WantT)} : ∀ r ∈ l.map (fun r => [Q0 r]), r.length = 1 := fun r hr => by obtain ⟨x, _, rfl⟩ := List.mem_map.1 hr; rfl
end M25
namespace M25
open Go Go.Abs M3
/-! ### Trails that may be -/
end M25
namespace M25
open Go Go.Abs M3
/-! ### What every program says -/
/-! ### A world's facts, and more -/
end M25
namespace M25
open Go Go.Abs M3
/-! ### Powers of two -/
/-! ### Steps that may be: the program's -/
/-! ### Deciding -/
end M25
namespace M25
open Go Go.Abs M3
/-! ### Back, Sure, When -/
/-! ### What valid trails are -/
/-! ### Levels -/
end M25
namespace M25
open Go Go.Abs M3
/-! ### The first row of lefts -/
end M25
namespace M25
open Go Go.Abs M3
/-! ### When, Qg2 by Qg2 -/
/-! ### The QfC world -/
end M25
namespace M25
open Go Go.Abs M3
/-! ### What a run is: steps, one open after the other -/
inductive Qkm (w : Q8) (db : List (List Qcs)) : List QaR -> List QaR -> Prop
 | nil (l : List QaR) : Qkm w db l l
 | cons {l x : List QaR} (a k : Nat) (ho : Qoq w db l a k) (h : Qkm w db (l ++ [Qqa w l ((db[a]'ho.ha)[k]'ho.hk) a]) x) : Qkm w db l x
section
variable {w : Q8} {db : List (List Qcs)}
def Below (w : Q8) (b l : List QaR) : Prop := ∀ u i, tb (Qfy w b u) i = true -> tb (Qfy w l u) i = true
theorem Below.refl (l : List QaR) : Below w l l := fun _ _ h => h
/-! ### Sound: a choice stays -/
end
end M25
namespace M25
open Go Go.Abs M3
end M25
namespace M25
open Go Go.Abs M3
/-! ### More of runs -/
end M25
namespace M25
open Go Go.Abs M3
/-! ### The facts in another order -/
end M25
namespace M25
open Go Go.Abs M3
/-! ### How long a run is -/
theorem QpK {x : Int} {k : Nat} (hk : k <= 60) (h0 : 0 <= x) (h : x < 2 ^ k) {i : Nat} (hi : k <= i) : tb x i = false := by
 obtain ⟨n, rfl⟩ := Int.eq_ofNat_of_zero_le h0
 have hn : n < 2 ^ k := by
  have e : ((2 ^ k : Nat) : Int) = (2 : Int) ^ k := by simp
  omega
 by_cases h6 : i < 64
 ·rw [Qh8 _ h6, Nat.testBit_lt_two_pow (Nat.lt_of_lt_of_le hn (Nat.pow_le_pow_right (by omega) hi))]
 ·exact Qkd _ (by omega)
structure Good (w : Q8) (l : List QaR) : Prop where
 p : Qor w l
 nz : ∀ u, inW w u = true -> Qfy w l u ≠ 0
 le : ∀ u i, tb (Qfy w l u) i = true -> tb (Z4 w u) i = true
end M25
namespace M25
open Go Go.Abs M3
/-! ### Masks are of values that there are -/
/-! ### Each Qg2 of a run -/
end M25
namespace M25
open Go Go.Abs M3
end M25
namespace M25
open Go Go.Abs M3
/-! ### Derive again -/
/-! ### Sure, and what holds -/
end M25
namespace M25
open Go Go.Abs M3
/-! ### The choice that a trail has decided -/
end M25
namespace Go.Proofs
open Go Go.Abs M3 M25
set_option linter.unusedVariables false
set_option linter.unusedSimpArgs false
end Go.Proofs
namespace Go.Proofs
open Go Go.Abs M3 M25
set_option linter.unusedVariables false
set_option linter.unusedSimpArgs false
theorem QbL {s : St} {args : List Opd} {kg : Nat} {L : List Int} {I n : Int} {et : Nat} (ha : Zu s args = some [.ref kg 0 0, .int .i64 n]) (hg : lk s.H kg = some (gB L I et)) (hL : ∀ x ∈ L, I64 x) (hn : n <= 9223372036854775807) : Qbi Tryd.prog 37 args s [(kg, gB L I et)] [] [(kg, gB L (nxI I) et)] (.int .i64 (nx L I n)) := by
 refine Qi4 (b' := gB L (nxI I) et) (ds' := [.ref (upN kg) 0 0, .int .i64 n]) ha (fun j x h => ?_) (fun k b hk j hj => ?_) (fun x hx j hj => ?_) ?_ Z Z Z Z ?_
 ·obtain ⟨rfl, rfl⟩ := XO h; exact hg
 ·obtain ⟨rfl, rfl⟩ := XO hk; simp [Box.ids, gB] at hj
 ·simp only [List.mem_cons, List.not_mem_nil, or_false] at hx
  rcases hx with rfl | rfl
  ·simp [D.ids, D.sid] at hj; subst hj; rw [Qv]; rfl
  ·simp [D.ids, D.sid] at hj
 ·rw [Qv]; rfl
 ·exact XE (by unfold upN; omega) hL hn et
theorem QcW {H : List (Nat × Box)} {kg kc : Nat} {L : List Int} {I : Int} {eg ec : Nat} {pr : Bool} {zs : List CR} (hkg : 1000000 <= kg) (hg : lk H kg = some (gB L I eg)) (hc : lk H kc = some ⟨zs.map dCR, 8, ec, pr⟩) (hne : kg ≠ kc) (hB : Big H) (hC : Closed H) (hL : ∀ x ∈ L, I64 x) (hz : ∀ z ∈ zs, Qfo z.v) (hn : zs.length <= 16) : ∃ d H2, (∃ s I2, SetOk s /\ d = Qfp s /\ H2 = (kg, gB L I2 eg) :: H) /\ OkH Tryd.prog 58 [.ref kg 0 0, .osl kc zs.length] H d H2 := by
 have hkc := hB _ _ hc
 refine OkH.ofX (R := fun d H2 => ∃ s I2, SetOk s /\ d = Qfp s /\ H2 = (kg, gB L I2 eg) :: H) Z5 Tryd.func58 QqO (Nat.le_of_ble_eq_true Z) ?_
 show TX _ _ tf58.body _ _
 refine Zd fun K hK => ?_
 refine ZE (by repeat (first | exact hB.none (by decide) | refine Zo (by first | decide | omega) ?_)) ?_
 refine hK _ _ (QU (kp3 Z Z Z) ?_)
 refine Zd fun K hK => Qb Z (Yz (QbL (I := I) Z (Qk (by omega) hg) hL (by omega)) (Qb Z (hK _ _ (QU (kp4 Z Z Z Z) ?_))))
 refine Zd fun K hK => Qy (ZZ) Z Z (.inl Z) ?_
 refine ZE (by repeat (first | exact hB.none (by decide) | refine Zo (by first | decide | omega) ?_)) ?_
 refine QY Z Z Z Z Z Z Z Z (hK _ _ (QU (kp5 Z Z Z Z Z) ?_))
 refine Qac ?_ -- 0
 refine Zd fun K hK => Qb Z (hK _ _ (QU (kp6 Z Z Z Z Z Z) ?_))
 refine Y6 ?_
 refine QeA (ι := Nat × Qez) (fun ⟨i, s⟩ => ⟨[(0, .ref kg 0 0), (1, .osl kc zs.length), (4, .ref 4 0 0), (5, .int .i64 (nx L I 8)), (6, .ref 6 0 0), (7, .int .i64 i)], [(4, ⟨[[.fsl [], .fsl []]], 2, 30, true⟩), (6, ⟨[[Zg s.1, Zg s.2]], 2, 30, true⟩), (kg, gB L (nxI I) eg)] ++ H⟩) (fun ⟨i, s⟩ => i <= zs.length /\ QjW (bnd i - 4) s) (fun ⟨i, s⟩ => zs.length - i) (0, ([], [])) ?_ ?_ ?_
 ·exact Qe0 (l := [0, 1, 4, 5, 6, 7]) (B := [_, _, _, _]) (kp6 rfl rfl rfl rfl rfl rfl) rfl (by intro p hp; simp only [List.mem_cons, List.not_mem_nil, or_false] at hp; rcases hp with rfl | rfl | rfl <;> exact ⟨by repeat (first | exact Qv | refine Qk (by first | decide | omega) ?_), rfl⟩) rfl (by intro p hp h; simp only [List.mem_cons, List.not_mem_nil, or_false] at hp; rcases hp with rfl | rfl | rfl | rfl <;> first | (simp only at h; omega) | (repeat (first | exact QT | refine QQ ?_))) hB hC (by intro p hp k hk; simp only [List.mem_cons, List.not_mem_nil, or_false] at hp; rcases hp with rfl | rfl | rfl | rfl | rfl | rfl <;> first | (simp [D.ids, D.sid, Q0, QP, ZQ] at hk; done) | (simp [D.ids, D.sid, Q0, QP, ZQ] at hk; subst hk; repeat (first | exact QT | exact Zm hg | exact Zm hc | refine QQ ?_)))
 ·exact ⟨Nat.zero_le _, SmN.nil _, SmN.nil _⟩
 intro ⟨i, s⟩ hI
 try dsimp only at hI
 have hb16 := QmQ (i := i) (by omega)
 try dsimp only
 refine Qac ?_ -- 1
 refine Zd fun K hK => Qb Z (Qb Z ?_)
 first | refine ZJ rfl Y1 ?_ | refine ZJ rfl rfl ?_
 refine Y0 Z Z (hK _ _ (QU (kp7 Z Z Z Z Z Z Z) ?_))
 refine Xo Z (fun h1 => ?_) (fun h1 => ?_)
 ·try rw [h1]
  try simp only [qA] at h1
  refine XC (Q5 (kp6 Z Z Z Z Z Z) ?_)
  refine Qac ?_ -- 2
  refine Y6 (Zd fun K hK => Qb Z (Qb Z (Qha Z (QjQ (by omega) (by omega)) (Qoz Z Z (by omega) (Qif Z Z (Yy Z Z (hK _ _ (QU (kp7 Z Z Z Z Z Z Z) ?_))))))))
  refine Xo Z (fun h2 => ?_) (fun h2 => ?_)
  ·try rw [h2]
   try simp only [qA] at h2
   have hvp := (hz _ (List.getElem_mem (show i < zs.length by omega))).1
   refine ZU fun K hK => QS (ds0 := [1, 0]) (cs := [_, _]) Z Z Z Z (by simp [Dr.ok, Qbv]) Z (Qb Z (Qb Z (QcO (ds0 := [4, 3, 2, 1, 0]) Z Z (Qk (by omega) (Qk (by omega) (Qk (by omega) hc))) (by simp) (by omega) (by omega) Z (by simp [Dr.ok, Qbv]) Z (Qh Z (Zm (Qk (by omega) (Qk (by omega) (Qk (by omega) hc)))) (QS (ds0 := [2, 1, 0]) (cs := [_, _, _, _, _]) Z (Yg (Qk (by omega) (Qk (by omega) (Qk (by omega) hc))) (ZW (by omega))) Z Z (by simp [Dr.ok, Qbv]) Z (Q1 (ds0 := [1, 0]) (YU (hz _ (List.getElem_mem (by omega))).1 (hz _ (List.getElem_mem (by omega))).2) Z Z (.inl Z) (by simp [Dr.ok, Qbv]) Z (Q1 (ds0 := [0]) (QdA (a := s) (b := (YX (zs[i]'(by omega)).v.a (zs[i]'(by omega)).v.b (zs[i]'(by omega)).v.c (zs[i]'(by omega)).v.p (zs[i]'(by omega)).v.q)) (hI.2.1.sm (by omega)) (hI.2.2.sm (by omega)) ((QaW hvp).1.sm (by omega)) ((QaW hvp).2.sm (by omega)) (by have := hI.2.1.1; have := (QaW (a := (zs[i]'(by omega)).v.a) (b := (zs[i]'(by omega)).v.b) (c := (zs[i]'(by omega)).v.c) (q := (zs[i]'(by omega)).v.q) hvp).1.1; omega) (by have := hI.2.2.1; have := (QaW (a := (zs[i]'(by omega)).v.a) (b := (zs[i]'(by omega)).v.b) (c := (zs[i]'(by omega)).v.c) (q := (zs[i]'(by omega)).v.q) hvp).2.1; omega)) Z Z (.inl Z) (by simp [Dr.ok, Qbv]) Z (Xd (ds0 := []) Z Z Z Z Z Z Z Z (by simp [Dr.ok, Qbv]) Z (hK _ ?_)))))))))
   refine Ql (Q5 (kp6 Z Z Z Z Z Z) (ZU fun K hK => Qb Z (Zk Z Z (by first | exact Qt (by omega) (by omega) | rfl) (Qb Z (hK _ ?_)))))
   refine Qp (i + 1, Qm1 s (YX (zs[i]'(by omega)).v.a (zs[i]'(by omega)).v.b (zs[i]'(by omega)).v.c (zs[i]'(by omega)).v.p (zs[i]'(by omega)).v.q)) ?_ ?_ ?_
   ·exact Qe0 (l := [0, 1, 4, 5, 6, 7]) (B := [_, _, _, _]) (kp6 rfl rfl rfl rfl rfl rfl) rfl (by intro p hp; simp only [List.mem_cons, List.not_mem_nil, or_false] at hp; rcases hp with rfl | rfl | rfl <;> exact ⟨by repeat (first | exact Qv | refine Qk (by first | decide | omega) ?_), rfl⟩) rfl (by intro p hp h; simp only [List.mem_cons, List.not_mem_nil, or_false] at hp; rcases hp with rfl | rfl | rfl | rfl <;> first | (simp only at h; omega) | (repeat (first | exact QT | refine QQ ?_))) hB hC (by intro p hp k hk; simp only [List.mem_cons, List.not_mem_nil, or_false] at hp; rcases hp with rfl | rfl | rfl | rfl | rfl | rfl <;> first | (simp [D.ids, D.sid, Q0, QP, ZQ] at hk; done) | (simp [D.ids, D.sid, Q0, QP, ZQ] at hk; subst hk; repeat (first | exact QT | exact Zm hg | exact Zm hc | refine QQ ?_)))
   ·exact ⟨by show i + 1 <= _; omega, Qo8 hI.2 (hz _ (List.getElem_mem (by omega))).1 (by omega)⟩
   ·show zs.length - (i + 1) < zs.length - i; omega
  ·try rw [h2]
   try simp only [qA] at h2
   have hvp := (hz _ (List.getElem_mem (show i < zs.length by omega))).1
   refine XC (Ql (Q5 (kp6 Z Z Z Z Z Z) (ZU fun K hK => Qb Z (Zk Z Z (by first | exact Qt (by omega) (by omega) | rfl) (Qb Z (hK _ ?_))))))
   refine Qp (i + 1, s) ?_ ?_ ?_
   ·exact Qe0 (l := [0, 1, 4, 5, 6, 7]) (B := [_, _, _]) (kp6 rfl rfl rfl rfl rfl rfl) rfl (by intro p hp; simp only [List.mem_cons, List.not_mem_nil, or_false] at hp; rcases hp with rfl | rfl | rfl <;> exact ⟨by repeat (first | exact Qv | refine Qk (by first | decide | omega) ?_), rfl⟩) rfl (by intro p hp h; simp only [List.mem_cons, List.not_mem_nil, or_false] at hp; rcases hp with rfl | rfl | rfl <;> first | (simp only at h; omega) | (repeat (first | exact QT | refine QQ ?_))) hB hC (by intro p hp k hk; simp only [List.mem_cons, List.not_mem_nil, or_false] at hp; rcases hp with rfl | rfl | rfl | rfl | rfl | rfl <;> first | (simp [D.ids, D.sid, Q0, QP, ZQ] at hk; done) | (simp [D.ids, D.sid, Q0, QP, ZQ] at hk; subst hk; repeat (first | exact QT | exact Zm hg | exact Zm hc | refine QQ ?_)))
   ·exact ⟨by show i + 1 <= _; omega, QmD hI.2⟩
   ·show zs.length - (i + 1) < zs.length - i; omega
 ·try rw [h1]
  try simp only [qA] at h1
  refine QdU (XH (QD (QJ (Q5 (kp3 Z Z Z) ?_))))
  refine Qac ?_ -- 3
  refine Zd fun K hK => Qb Z (Yz (QbL (I := nxI I) Z (Qk (by omega) (Qk (by omega) Qv)) hL (by omega)) (hK _ _ (QU (kp3 Z Z Z) ?_)))
  refine Y6 (Zd fun K hK => Yy Z Z (Qb Z (hK _ _ (QU (kp4 Z Z Z Z) ?_))))
  refine Xo Z (fun h3 => ?_) (fun h3 => ?_)
  ·try rw [h3]
   try simp only [qA] at h3
   refine Zd fun K hK => Qy (QcZ) Z Z (.inl Z) (QY Z (Qk (by omega) Z) Z Z Z Z Z Z (hK _ _ (QU (kp1 Z) ?_)))
   refine Qhe (Qu (QjJ ?_))
   refine ⟨Qfp Qkr, (kg, gB L (nxI (nxI I)) eg) :: H, ⟨Qkr, _, ⟨QmN.1.up (by omega), QmN.2.up (by omega)⟩, rfl, rfl⟩, (XA hB hC hkg rfl).1, (XA hB hC hkg rfl).2, ?_⟩
   refine Qb2 (cs := [Zg Qkr.1, Zg Qkr.2]) Z (Yg (by repeat (first | exact Qv | refine Qk (by first | decide | omega) ?_)) Z) Z Z Z ?_
   exact Qam (B := [_, _, _, _, _]) hB (by repeat (first | exact Qv | refine Qk (by first | decide | omega) ?_)) (by intro p hp h; simp only [List.mem_cons, List.not_mem_nil, or_false] at hp; rcases hp with rfl | rfl | rfl | rfl | rfl <;> first | rfl | (simp only at h; omega))
  ·try rw [h3]
   try simp only [qA] at h3
   refine Zd fun K hK => Yy Z Z (Qb Z (hK _ _ (QU (kp3 Z Z Z) ?_)))
   refine Xo Z (fun h4 => ?_) (fun h4 => ?_)
   ·try rw [h4]
    try simp only [qA] at h4
    refine Zd fun K hK => QF (cs := [_, _]) Z (Yg (Qk (by omega) Z) Z) Z Z (Qy (Qc0 (a := s) (hI.2.1.sm (by omega)) (hI.2.2.sm (by omega))) Z Z (.inl Z) (QY Z (Qk (by omega) Z) Z Z Z Z Z Z (hK _ _ (QU (kp1 Z) ?_))))
    refine Qhe (Qu (QjJ ?_))
    refine ⟨Qfp (QgI s), (kg, gB L (nxI (nxI I)) eg) :: H, ⟨(QgI s), _, ⟨(Qlk hI.2 (by omega)).1.up (by omega), (Qlk hI.2 (by omega)).2.up (by omega)⟩, rfl, rfl⟩, (XA hB hC hkg rfl).1, (XA hB hC hkg rfl).2, ?_⟩
    refine Qb2 (cs := [Zg (QgI s).1, Zg (QgI s).2]) Z (Yg (by repeat (first | exact Qv | refine Qk (by first | decide | omega) ?_)) Z) Z Z Z ?_
    exact Qam (B := [_, _, _, _, _]) hB (by repeat (first | exact Qv | refine Qk (by first | decide | omega) ?_)) (by intro p hp h; simp only [List.mem_cons, List.not_mem_nil, or_false] at hp; rcases hp with rfl | rfl | rfl | rfl | rfl <;> first | rfl | (simp only at h; omega))
   ·try rw [h4]
    try simp only [qA] at h4
    refine XC (Ql (Q5 (kp2 Z Z) (Zd fun K hK => QF (cs := [_, _]) Z (Yg (Qk (by omega) Z) Z) Z Z (QY Z (Qk (by omega) Z) Z Z Z Z Z Z (hK _ _ (QU (kp1 Z) ?_))))))
    refine Qhe ?_
    refine ⟨Qfp s, (kg, gB L (nxI (nxI I)) eg) :: H, ⟨s, _, ⟨hI.2.1.up (by omega), hI.2.2.up (by omega)⟩, rfl, rfl⟩, (XA hB hC hkg rfl).1, (XA hB hC hkg rfl).2, ?_⟩
    refine Qb2 (cs := [Zg s.1, Zg s.2]) Z (Yg (by repeat (first | exact Qv | refine Qk (by first | decide | omega) ?_)) Z) Z Z Z ?_
    exact Qam (B := [_, _, _, _, _]) hB (by repeat (first | exact Qv | refine Qk (by first | decide | omega) ?_)) (by intro p hp h; simp only [List.mem_cons, List.not_mem_nil, or_false] at hp; rcases hp with rfl | rfl | rfl | rfl | rfl <;> first | rfl | (simp only at h; omega))
end Go.Proofs
namespace Go.Proofs
open Go Go.Abs M3 M25
set_option linter.unusedVariables false
set_option linter.unusedSimpArgs false
/-- The call of 'set', over boxes that are lent. -/
theorem QpH {H : List (Nat × Box)} {kg kc : Nat} {L : List Int} {I : Int} {eg ec : Nat} {pr : Bool} {zs : List CR} (hg : lk H kg = some (gB L I eg)) (hc : lk H kc = some ⟨zs.map dCR, 8, ec, pr⟩) (hne : kg ≠ kc) (hC : Closed H) (hL : ∀ x ∈ L, I64 x) (hz : ∀ z ∈ zs, Qfo z.v) (hn : zs.length <= 16) :
  ∃ s I2, SetOk s /\ ∀ (st : St) (args : List Opd), Zu st args = some [.ref kg 0 0, .osl kc zs.length] -> (∀ j x, lk H j = some x -> lk st.H j = some x) -> Qbi Tryd.prog 58 args st H [] [(kg, gB L I2 eg)] (Qfp s) := by
 obtain ⟨d, H2, ⟨s, I2, hs, rfl, rfl⟩, hok⟩ := QcW (H := upH H) (kg := upN kg) (kc := upN kc) (L := L) (I := I) (eg := eg) (ec := ec) (pr := pr) (zs := zs.map CR.ren) (by unfold upN; omega) (by rw [Qan, hg]; rfl) (by rw [Qan, hc, Option.map_some, Box.ren, QkB]) (fun e => hne (QiT e)) QiS (QdS hC) hL
  (fun z hz' => by obtain ⟨z0, h0, rfl⟩ := List.mem_map.1 hz'; exact hz z0 h0) (by simpa using hn)
 refine ⟨s, I2, hs, fun st args ha hF => Qi4 (b' := gB L I2 eg) (ds' := [.ref (upN kg) 0 0, .osl (upN kc) zs.length]) ha hF hC (fun x hx j hj => ?_) (Zm hg) Z Z Z Z ?_⟩
 ·simp only [List.mem_cons, List.not_mem_nil, or_false] at hx
  rcases hx with rfl | rfl
  ·simp [D.ids, D.sid] at hj; subst hj; exact Zm hg
  ·simp [D.ids, D.sid] at hj; subst hj; exact Zm hc
 ·rw [List.length_map] at hok; exact hok
theorem Qct {H : List (Nat × Box)} {kg ku : Nat} {L : List Int} {I : Int} {eg eu ec : Nat} {us : List UR} (hkg : 1000000 <= kg) (hg : lk H kg = some (gB L I eg)) (hU : Fam H kg ku eu ec us) (hB : Big H) (hC : Closed H) (hL : ∀ x ∈ L, I64 x) (h2n : 2 <= us.length) (hn : us.length <= 48) : ∃ d H2, (∃ x I2, WantIn us.length x /\ d = .agg (Qd5 x) /\ H2 = (kg, gB L I2 eg) :: H) /\ OkH Tryd.prog 38 [.ref kg 0 0, .osl ku us.length] H d H2 := by
 obtain ⟨pu, hu⟩ := hU.u
 have hku := hB _ _ hu
 have hne := hU.ne
 have hx0 := Qf1 (v := QlO L (IntKind.i64.wrap (nxI I - 1))) (n := (us.length : Int) - 1)
 have hx1 := Qf0 (v := QlO L (IntKind.i64.wrap (nxI I - 1))) (n := (us.length : Int) - 1) (by omega)
 change 0 <= nx L I ((us.length : Int) - 1) at hx0
 change nx L I ((us.length : Int) - 1) < _ at hx1
 obtain ⟨hyk, pr, hy⟩ := hU.c (us[(1 + nx L I ((us.length : Int) - 1)).toNat]'(by omega)) (List.getElem_mem _)
 obtain ⟨hv1, hv2⟩ := hU.v (us[(1 + nx L I ((us.length : Int) - 1)).toNat]'(by omega)) (List.getElem_mem _)
 obtain ⟨s, I2, hs, hcall⟩ := QpH (H := (kg, gB L (nxI I) eg) :: H) Qv (Qk (Ne.symm hyk) hy) (Ne.symm hyk) (hC.pr rfl) hL hv2 hv1
 refine OkH.ofX (R := fun d H2 => ∃ x I2, WantIn us.length x /\ d = .agg (Qd5 x) /\ H2 = (kg, gB L I2 eg) :: H) Z5 Tryd.func38 Qqw (Nat.le_of_ble_eq_true Z) ?_
 show TX _ _ tf38.body _ _
 refine Zd fun K hK => ?_
 refine ZE (by repeat (first | exact hB.none (by decide) | refine Zo (by first | decide | omega) ?_)) ?_
 refine hK _ _ (QU (kp3 Z Z Z) ?_)
 refine Zd fun K hK => Qb Z (Qb Z ?_)
 first | refine ZJ rfl Y1 ?_ | refine ZJ rfl rfl ?_
 refine QcP Z Z (by first | exact Qt (by omega) (by omega) | rfl) (Yz (QbL (I := I) Z (Qk (by omega) hg) hL (by omega)) (Zk Z Z (by first | exact Qt (by omega) (by omega) | rfl) (Qb Z (hK _ _ (QU (kp4 Z Z Z Z) ?_)))))
 refine Zd fun K hK => Qb rfl (Qb rfl (Qb rfl (Qb rfl (QaQ rfl rfl (Qk (by omega) (Qk (by omega) hu)) (by simp) (by omega) (by omega) rfl (Qh rfl (Zm (Qk (by omega) (Qk (by omega) hu))) (QE rfl (Yg (Qk (by omega) (Qk (by omega) hu)) (Yv (by omega) (by omega))) rfl (Yz (hcall _ _ rfl (Qam (B := [_, _]) hB Qv (by intro p hp h; simp only [List.mem_cons, List.not_mem_nil, or_false] at hp; rcases hp with rfl | rfl <;> first | rfl | (simp only at h; omega)))) (QX rfl rfl (QY rfl (Qk (by omega) (Qk (by omega) rfl)) rfl rfl rfl rfl rfl rfl (hK _ _ (QU (kp1 rfl) ?_)))))))))))
 refine Qhe ?_
 refine ⟨.agg (Qd5 ⟨1 + nx L I ((us.length : Int) - 1), s⟩), (kg, gB L I2 eg) :: H, ⟨⟨1 + nx L I ((us.length : Int) - 1), s⟩, _, ⟨by show 1 <= 1 + _; omega, by show 1 + _ < (us.length : Int); omega, hs⟩, rfl, rfl⟩, (XA hB hC hkg rfl).1, (XA hB hC hkg rfl).2, ?_⟩
 refine Qb2 (cs := Qd5 ⟨1 + nx L I ((us.length : Int) - 1), s⟩) Z (Yg (by repeat (first | exact Qv | refine Qk (by first | decide | omega) ?_)) Z) Z Z Z ?_
 exact Qam (B := [_, _, _, _]) hB (by repeat (first | exact Qv | refine Qk (by first | decide | omega) ?_)) (by intro p hp h; simp only [List.mem_cons, List.not_mem_nil, or_false] at hp; rcases hp with rfl | rfl | rfl | rfl <;> first | rfl | (simp only at h; omega))
/-- The call of 'want'. -/
theorem QjC {H : List (Nat × Box)} {kg ku : Nat} {L : List Int} {I : Int} {eg eu ec : Nat} {us : List UR} (hg : lk H kg = some (gB L I eg)) (hU : Fam H kg ku eu ec us) (hC : Closed H) (hL : ∀ x ∈ L, I64 x) (h2 : 2 <= us.length) (hn : us.length <= 48) :
  ∃ x I2, WantIn us.length x /\ ∀ (st : St) (args : List Opd), Zu st args = some [.ref kg 0 0, .osl ku us.length] -> (∀ j x, lk H j = some x -> lk st.H j = some x) -> Qbi Tryd.prog 38 args st H [] [(kg, gB L I2 eg)] (.agg (Qd5 x)) := by
 obtain ⟨d, H2, ⟨x, I2, hx, rfl, rfl⟩, hok⟩ := Qct (H := upH H) (kg := upN kg) (ku := upN ku) (L := L) (I := I) (eg := eg) (eu := eu) (ec := ec) (us := us.map UR.ren) (by unfold upN; omega) (by rw [Qan, hg]; rfl) hU.up QiS (QdS hC) hL (by simpa using h2) (by simpa using hn)
 obtain ⟨pu, hu⟩ := hU.u
 rw [List.length_map] at hx hok
 refine ⟨x, I2, hx, fun st args ha hF => Qi4 (b' := gB L I2 eg) (ds' := [.ref (upN kg) 0 0, .osl (upN ku) us.length]) ha hF hC (fun x hx j hj => ?_) (Zm hg) Z Z Z Z hok⟩
 simp only [List.mem_cons, List.not_mem_nil, or_false] at hx
 rcases hx with rfl | rfl
 ·simp [D.ids, D.sid] at hj; subst hj; exact Zm hg
 ·simp [D.ids, D.sid] at hj; subst hj; exact Zm hu
end Go.Proofs
namespace Go.Proofs
open Go Go.Abs M3 M25
set_option linter.unusedVariables false
set_option linter.unusedSimpArgs false
theorem Qca {H : List (Nat × Box)} {kg ku : Nat} {L : List Int} {I most : Int} {eg eu ec : Nat} {us : List UR} (hkg : 1000000 <= kg) (hg : lk H kg = some (gB L I eg)) (hU : Fam H kg ku eu ec us) (hB : Big H) (hC : Closed H) (hL : ∀ x ∈ L, I64 x) (h2n : 2 <= us.length) (hn : us.length <= 48) (hm0 : 0 <= most) (hm1 : most <= 10) : ∃ d H2, (∃ ns I2, Qew us.length most ns /\ d = QP ns /\ H2 = (kg, gB L I2 eg) :: H) /\ OkH Tryd.prog 35 [.ref kg 0 0, .osl ku us.length, .int .i64 most] H d H2 := by
 obtain ⟨pu, hu⟩ := hU.u
 have hku := hB _ _ hu
 have hne := hU.ne
 have hk0 : 0 <= nx L I (most + 1) := Qf1
 have hk1 : nx L I (most + 1) < most + 1 := Qf0 (by omega)
 refine OkH.ofX (R := fun d H2 => ∃ ns I2, Qew us.length most ns /\ d = QP ns /\ H2 = (kg, gB L I2 eg) :: H) Z5 Tryd.func35 Qqt (Nat.le_of_ble_eq_true Z) ?_
 show TX _ _ tf35.body _ _
 refine Zd fun K hK => Qb Z (hK _ _ (QU (kp3 Z Z Z) ?_))
 refine Zd fun K hK => Qb Z (hK _ _ (QU (kp4 Z Z Z Z) ?_))
 refine Qac ?_ -- 0
 refine Zd fun K hK => Qb Z (Qb Z (Zk Z Z (by first | exact Qt (by omega) (by omega) | rfl) (Yz (QbL (I := I) Z hg hL (by omega)) (Qb Z (hK _ _ (QU (kp4 Z Z Z Z) ?_))))))
 refine Y6 ?_
 refine QeA (ι := Nat × List (List WantT) × Int) (fun ⟨k, ns, J⟩ => ⟨[(0, .ref kg 0 0), (1, .osl ku us.length), (7, .osl 7 ns.length), (8, .int .i64 k)], [(7, ⟨(ns).map (fun r => [Q0 r]), 1, 51, true⟩), (kg, gB L J eg)] ++ H⟩) (fun ⟨k, ns, J⟩ => (ns.length : Int) + k <= most /\ ∀ r ∈ ns, Qhd us.length r) (fun ⟨k, ns, J⟩ => k) ((nx L I (most + 1)).toNat, [], nxI I) ?_ ?_ ?_
 ·exact le_trans (X7 7 7 1 51 rfl (by repeat (first | exact hB.none (by decide) | refine Zo (by first | decide | omega) ?_))) (Qe0 (l := [0, 1, 7, 8]) (B := [_, _]) (kp4 rfl rfl rfl rfl) (by simp only [Int.toNat_of_nonneg hk0] <;> rfl) (by intro p hp; simp only [List.mem_cons, List.not_mem_nil, or_false] at hp; rcases hp with rfl | rfl <;> exact ⟨by repeat (first | exact Qv | refine Qk (by first | decide | omega) ?_), rfl⟩) rfl (by intro p hp h; simp only [List.mem_cons, List.not_mem_nil, or_false] at hp; rcases hp with rfl | rfl <;> first | (simp only at h; omega) | (repeat (first | exact QT | refine QQ ?_))) hB hC (by intro p hp k hk; simp only [List.mem_cons, List.not_mem_nil, or_false] at hp; rcases hp with rfl | rfl | rfl | rfl <;> first | (simp [D.ids, D.sid, Q0, QP, ZQ] at hk; done) | (simp [D.ids, D.sid, Q0, QP, ZQ] at hk; subst hk; repeat (first | exact QT | exact Zm hg | exact Zm hu | refine QQ ?_))))
 ·exact ⟨by simp only [List.length_nil]; omega, by simp⟩
 intro ⟨k, ns, J⟩ hI
 try dsimp only at hI
 try dsimp only
 refine Qac ?_ -- 1
 refine Zd fun K hK => Qb Z (Qdx Z Z (hK _ _ (QU (kp5 Z Z Z Z Z) ?_)))
 refine Xo Z (fun h1 => ?_) (fun h1 => ?_)
 ·try rw [h1]
  try simp only [qA] at h1
  refine XC (Q5 (kp4 Z Z Z Z) ?_)
  refine Qac ?_ -- 2
  refine Y6 (Zd fun K hK => Qb Z (Qb Z ?_))
  obtain ⟨x1, J1, hx1, hc1⟩ := QjC (I := J) (H := (kg, gB L (J) eg) :: H) Qv hU.cons (hC.pr rfl) hL h2n hn
  refine Yz (hc1 _ _ rfl (Qam (B := [_, _]) hB (by repeat (first | exact Qv | refine Qk (by first | decide | omega) ?_)) (by intro p hp h; simp only [List.mem_cons, List.not_mem_nil, or_false] at hp; rcases hp with rfl | rfl <;> first | rfl | (simp only at h; omega)))) ?_
  refine QL Z (by repeat (first | exact hB.none (by decide) | refine Zo (by first | decide | omega) ?_)) ?_
  refine Qb Z (hK _ _ (QU (kp5 Z Z Z Z Z) ?_))
  refine QoD (ι := List WantT × Int) (fun ⟨r, J4⟩ => ⟨[(0, .ref kg 0 0), (1, .osl ku us.length), (7, .osl 7 ns.length), (8, .int .i64 k), (9, Q0 r)], [(7, ⟨(ns).map (fun r => [Q0 r]), 1, 51, true⟩), (kg, gB L J4 eg)] ++ H⟩) (fun ⟨r, J4⟩ => Qhd us.length r) ?_ ?_
  ·skip
   refine Zd fun K hK => Qb Z (Yz (QbL (I := J1) Z (Qk (by omega) Qv) hL (by omega)) (Yy Z Z (hK _ _ (QU (kp6 Z Z Z Z Z Z) ?_))))
   refine Xo Z (fun h2 => ?_) (fun h2 => ?_)
   ·try rw [h2]
    try simp only [qA] at h2
    refine ZU fun K hK => Qb Z (Qb Z (Qb Z ?_))
    obtain ⟨x2, J2, hx2, hc2⟩ := QjC (I := nxI J1) (H := (kg, gB L (nxI J1) eg) :: H) Qv hU.cons (hC.pr rfl) hL h2n hn
    refine Yz (hc2 _ _ rfl (Qam (B := [_, _, _, _, _]) hB (by repeat (first | exact Qv | refine Qk (by first | decide | omega) ?_)) (by intro p hp h; simp only [List.mem_cons, List.not_mem_nil, or_false] at hp; rcases hp with rfl | rfl | rfl | rfl | rfl <;> first | rfl | (simp only at h; omega)))) ?_
    refine QL Z (by repeat (first | exact hB.none (by decide) | refine Zo (by first | decide | omega) ?_)) ?_
    refine Qni Z Z (by simp [D.ids, D.sid]) ⟨_, rfl, rfl, rfl, rfl, rfl⟩ (by repeat (first | exact hB.none (by decide) | refine Zo (by first | decide | omega) ?_)) (Qk (by decide) (Qk (by omega) (Qk (by omega) Z))) Z Z Z (by simp) (by simp) ?_
    refine Qb Z (hK _ ?_)
    refine Xr ([x1, x2], J2) ?_ ?_
    ·exact le_trans (Qiz (l := [0, 1, 7, 8]) (B := [_, _, _, _, _, _, _, _, _]) (A := [(7, ⟨(ns).map (fun r => [Q0 r]), 1, 51, true⟩), (kg, gB L J2 eg)]) 30 9 (kp4 rfl rfl rfl rfl) rfl rfl rfl (by first | (simp; done) | (simp; omega)) (by intro p hp hk; simp only [List.mem_cons, List.not_mem_nil, or_false] at hp; rcases hp with rfl | rfl | rfl | rfl <;> first | (simp [D.ids, D.sid, Q0, QP, ZQ] at hk; done) | (simp [D.ids, D.sid, Q0, QP, ZQ] at hk; omega)) (by intro p hp; simp only [List.mem_cons, List.not_mem_nil, or_false] at hp; rcases hp with rfl | rfl <;> exact ⟨by first | decide | (simp only; omega), by repeat (first | exact Qv | refine Qk (by first | decide | omega) ?_), rfl⟩) (by intro p hp h; simp only [List.mem_cons, List.not_mem_nil, or_false] at hp; rcases hp with rfl | rfl | rfl | rfl | rfl | rfl | rfl | rfl | rfl <;> first | (simp only at h; omega) | (repeat (first | exact QT | refine QQ ?_))) hB hC (by intro p hp k hk; simp only [List.mem_cons, List.not_mem_nil, or_false] at hp; rcases hp with rfl | rfl | rfl | rfl <;> first | (simp [D.ids, D.sid, Q0, QP, ZQ] at hk; done) | (simp [D.ids, D.sid, Q0, QP, ZQ] at hk; subst hk; repeat (first | exact QT | exact Zm hg | exact Zm hu | refine QQ ?_)))) (Qe0 (l := [0, 1, 7, 8, 9]) (B := [_, _]) (kp5 rfl rfl rfl rfl rfl) rfl (by intro p hp; simp only [List.mem_cons, List.not_mem_nil, or_false] at hp; rcases hp with rfl | rfl <;> exact ⟨by repeat (first | exact Qv | refine Qk (by first | decide | omega) ?_), rfl⟩) rfl (by intro p hp h; simp only [List.mem_cons, List.not_mem_nil, or_false] at hp; rcases hp with rfl | rfl <;> first | (simp only at h; omega) | (repeat (first | exact QT | refine QQ ?_))) hB hC (by intro p hp k hk; simp only [List.mem_cons, List.not_mem_nil, or_false] at hp; rcases hp with rfl | rfl | rfl | rfl | rfl <;> first | (simp [D.ids, D.sid, Q0, QP, ZQ] at hk; done) | (simp [D.ids, D.sid, Q0, QP, ZQ] at hk; subst hk; repeat (first | exact QT | exact Zm hg | exact Zm hu | refine QQ ?_))))
    ·exact Qn1 hx1 hx2
   ·try rw [h2]
    try simp only [qA] at h2
    refine XC ?_
    refine Xr ([x1], nxI J1) ?_ ?_
    ·exact le_trans (Qiz (l := [0, 1, 7, 8]) (B := [_, _, _, _, _]) (A := [(7, ⟨(ns).map (fun r => [Q0 r]), 1, 51, true⟩), (kg, gB L (nxI J1) eg)]) 21 9 (kp4 rfl rfl rfl rfl) rfl (Qk (by omega) rfl) rfl (by first | (simp; done) | (simp; omega)) (by intro p hp hk; simp only [List.mem_cons, List.not_mem_nil, or_false] at hp; rcases hp with rfl | rfl | rfl | rfl <;> first | (simp [D.ids, D.sid, Q0, QP, ZQ] at hk; done) | (simp [D.ids, D.sid, Q0, QP, ZQ] at hk; omega)) (by intro p hp; simp only [List.mem_cons, List.not_mem_nil, or_false] at hp; rcases hp with rfl | rfl <;> exact ⟨by first | decide | (simp only; omega), by repeat (first | exact Qv | refine Qk (by first | decide | omega) ?_), rfl⟩) (by intro p hp h; simp only [List.mem_cons, List.not_mem_nil, or_false] at hp; rcases hp with rfl | rfl | rfl | rfl | rfl <;> first | (simp only at h; omega) | (repeat (first | exact QT | refine QQ ?_))) hB hC (by intro p hp k hk; simp only [List.mem_cons, List.not_mem_nil, or_false] at hp; rcases hp with rfl | rfl | rfl | rfl <;> first | (simp [D.ids, D.sid, Q0, QP, ZQ] at hk; done) | (simp [D.ids, D.sid, Q0, QP, ZQ] at hk; subst hk; repeat (first | exact QT | exact Zm hg | exact Zm hu | refine QQ ?_)))) (Qe0 (l := [0, 1, 7, 8, 9]) (B := [_, _]) (kp5 rfl rfl rfl rfl rfl) rfl (by intro p hp; simp only [List.mem_cons, List.not_mem_nil, or_false] at hp; rcases hp with rfl | rfl <;> exact ⟨by repeat (first | exact Qv | refine Qk (by first | decide | omega) ?_), rfl⟩) rfl (by intro p hp h; simp only [List.mem_cons, List.not_mem_nil, or_false] at hp; rcases hp with rfl | rfl <;> first | (simp only at h; omega) | (repeat (first | exact QT | refine QQ ?_))) hB hC (by intro p hp k hk; simp only [List.mem_cons, List.not_mem_nil, or_false] at hp; rcases hp with rfl | rfl | rfl | rfl | rfl <;> first | (simp [D.ids, D.sid, Q0, QP, ZQ] at hk; done) | (simp [D.ids, D.sid, Q0, QP, ZQ] at hk; subst hk; repeat (first | exact QT | exact Zm hg | exact Zm hu | refine QQ ?_))))
    ·exact Qn0 hx1
  intro ⟨r, J4⟩ hJ
  try dsimp only at hJ
  try dsimp only
  refine ZU fun K hK => Qb Z (Qb Z ?_)
  refine QL Z (by repeat (first | exact hB.none (by decide) | refine Zo (by first | decide | omega) ?_)) ?_
  refine Qcj Z Z (fun _ h => QbS Z Z Z h) Z (by simp) Z Z Z (by simp; omega) (by simp; omega) (Qb Z (hK _ ?_))
  refine Ql (Q5 (kp4 Z Z Z Z) (ZU fun K hK => Qb Z (QcP Z Z (by first | exact Qt (by omega) (by omega) | rfl) (Qb Z (hK _ ?_)))))
  refine Qp (k - 1, ns ++ [r], J4) ?_ ?_ ?_
  ·exact le_trans (QoV (B := [_, _, _, _]) 7 hB hC) (Qe0 (l := [0, 1, 7, 8]) (A := [(7, ⟨ns.map (fun r => [Q0 r]) ++ [[Q0 r]], 1, 51, true⟩), (kg, gB L J4 eg)]) (B := [_, _, _, _]) (kp4 rfl rfl rfl rfl) (by simp [D.scrub, show ¬ kg = 7 by omega, show ¬ ku = 7 by omega] <;> omega) (by intro p hp; simp only [List.mem_cons, List.not_mem_nil, or_false] at hp; rcases hp with rfl | rfl <;> exact ⟨by repeat (first | exact Qv | refine Qk (by first | decide | omega) ?_), rfl⟩) (by simp) (by intro p hp h; simp only [List.mem_cons, List.not_mem_nil, or_false] at hp; rcases hp with rfl | rfl | rfl | rfl <;> first | (simp only at h; omega) | (repeat (first | exact QT | refine QQ ?_))) hB hC (by intro p hp k hk; simp only [List.mem_cons, List.not_mem_nil, or_false] at hp; rcases hp with rfl | rfl | rfl | rfl <;> first | (simp [D.ids, D.sid, Q0, QP, ZQ] at hk; done) | (simp [D.ids, D.sid, Q0, QP, ZQ] at hk; subst hk; repeat (first | exact QT | exact Zm hg | exact Zm hu | refine QQ ?_))))
  ·exact ⟨by simp only [List.length_append, List.length_singleton]; omega, Qlw hI.2 hJ⟩
  ·show k - 1 < k; omega
 ·try rw [h1]
  try simp only [qA] at h1
  refine QdU (XH (QD (QJ (Q5 (kp1 Z) (Zd fun K hK => Qb Z (Qb Z (hK _ _ (QU (kp1 Z) ?_))))))))
  refine Qhe ?_
  refine ⟨QP ns, (kg, gB L J eg) :: H, ⟨ns, _, ⟨by omega, hI.2⟩, rfl, rfl⟩, (XA hB hC hkg rfl).1, (XA hB hC hkg rfl).2, ?_⟩
  refine Qaa Z (by simp [QlN, D.fz, D.fzS, QfC, lk, D.can, D.canS, QP]) ?_
  exact Qam (B := [_, _]) hB (by repeat (first | exact Qv | refine Qk (by first | decide | omega) ?_)) (by intro p hp h; simp only [List.mem_cons, List.not_mem_nil, or_false] at hp; rcases hp with rfl | rfl <;> first | rfl | (simp only at h; omega))
end Go.Proofs
