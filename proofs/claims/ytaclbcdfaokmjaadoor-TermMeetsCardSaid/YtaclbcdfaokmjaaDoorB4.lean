/- Part 4 of the means of the proof: a verified abstract evaluator, the prepared functions, and contracts of functions. It states nothing of the claim by itself. -/
import Derived.Test.YtaclbcdfaokmjaaDoorB3
set_option maxRecDepth 4000
set_option linter.unusedSimpArgs false
set_option linter.unusedVariables false
namespace Go.Proofs
open Go Go.Abs M3
set_option linter.unusedVariables false
set_option linter.unusedSimpArgs false
theorem QaC {s : List UInt8} (hl : s.length <= 1000000) : Ok Tryd.prog 96 [.str s] (.tup [.int .i64 (Yh s).1, .bool (Yh s).2]) := by
 refine Ok.ofT Z3 Tryd.func96 QrR (Nat.le_of_ble_eq_true Z) ?_
 show TW _ _ tf96.body _ _
 refine Qe fun K hK => Qb Z (Qb Z (hK _ _ (Qa (kp1 Z) ?_)))
 refine Qkz (ι := Unit) (fun _u => ⟨[(0, .str s)], []⟩) (fun _u => ¬ (s = [] \/ 4 < s.length \/ (1 < s.length /\ s.head? = some 48))) ?_ ?_
 ·skip
  refine Qe fun K hK => Qb Z (QbA Z Z (Qb Z ?_))
  refine Qw (g := 9) Z (fun h1 => ?_) (fun h1 => ?_)
  ·try rw [h1]
   try simp only [qB, Bool.and_eq_true, Bool.and_eq_false_iff, decide_eq_true_eq] at h1
   refine Qq Z (Qq Z (Qq Z (Qi Z Z (Qb Z (Qq Z (Qq Z (Qq Z (Qq Z (QG Z (QG Z (QG Z ?_)))))))))))
   refine Qq Z (Qi Z Z (hK _ _ (Qa (kp2 Z Z) ?_)))
   refine Zm Z (Qe fun K hK => Qb Z (Qb Z (hK _ _ (Qa (kp2 Z Z) ?_))))
   refine Qr (Qcc (ZR Z Z ?_))
   first | (rw [Qay (s := s) (by first | (left; assumption) | (right; omega))]; exact ⟨rfl, rfl⟩) | (rw [YC (s := s) (by omega) (by assumption)]; exact ⟨rfl, rfl⟩) | (rw [Xs (s := s) (i := i) (by omega) (by simp [Yo]; omega)]; exact ⟨rfl, rfl⟩) | (rw [QbX (s := s) (i := i) hJ (by omega) hI.2.1]; exact ⟨rfl, by simp [Qai, D.fz, D.fzS, D.can, D.canS]; omega⟩)
  ·try rw [h1]
   try simp only [qB, Bool.and_eq_true, Bool.and_eq_false_iff, decide_eq_true_eq] at h1
   refine Qg Z (Qb Z (Qg Z (Yp Z (Qg Z (QdG Z Z (Qi Z Z (Qb Z ?_)))))))
   refine Qw (g := 14) Z (fun h2 => ?_) (fun h2 => ?_)
   ·try rw [h2]
    try simp only [qB, Bool.and_eq_true, Bool.and_eq_false_iff, decide_eq_true_eq] at h2
    refine Qq Z (Qq Z (Qq Z (Qq Z (QG Z (QG Z (QG Z (Qq Z (Qi Z Z (hK _ _ (Qa (kp2 Z Z) ?_))))))))))
    refine Zm Z (Qe fun K hK => Qb Z (Qb Z (hK _ _ (Qa (kp2 Z Z) ?_))))
    refine Qr (Qcc (ZR Z Z ?_))
    first | (rw [Qay (s := s) (by first | (left; assumption) | (right; omega))]; exact ⟨rfl, rfl⟩) | (rw [YC (s := s) (by omega) (by assumption)]; exact ⟨rfl, rfl⟩) | (rw [Xs (s := s) (i := i) (by omega) (by simp [Yo]; omega)]; exact ⟨rfl, rfl⟩) | (rw [QbX (s := s) (i := i) hJ (by omega) hI.2.1]; exact ⟨rfl, by simp [Qai, D.fz, D.fzS, D.can, D.canS]; omega⟩)
   ·try rw [h2]
    try simp only [qB, Bool.and_eq_true, Bool.and_eq_false_iff, decide_eq_true_eq] at h2
    refine Qg Z (Qb Z (Qg Z (Yk Z Z (by omega) (QbN (i := 0) (List.length_pos_iff.2 (by assumption))) (Qg Z (YF Z Z (Qg Z (Qb Z ?_)))))))
    refine Qw (g := 18) Z (fun h3 => ?_) (fun h3 => ?_)
    ·try rw [h3]
     try simp only [qB, Bool.and_eq_true, Bool.and_eq_false_iff, decide_eq_true_eq] at h3
     refine Qg Z (Qb Z (Qg Z (Yp Z (Qg Z (QdG Z Z (Qg Z (Qi Z Z (Qi Z Z (hK _ _ (Qa (kp2 Z Z) ?_))))))))))
     refine QA Z (fun h4 => ?_) (fun h4 => ?_)
     ·try rw [h4]
      try simp only [qB, Bool.and_eq_true, Bool.and_eq_false_iff, decide_eq_true_eq] at h4
      refine Qe fun K hK => Qb Z (Qb Z (hK _ _ (Qa (kp2 Z Z) ?_)))
      refine Qr (Qcc (ZR Z Z ?_))
      first | (rw [Qay (s := s) (by first | (left; assumption) | (right; omega))]; exact ⟨rfl, rfl⟩) | (rw [YC (s := s) (by omega) (by assumption)]; exact ⟨rfl, rfl⟩) | (rw [Xs (s := s) (i := i) (by omega) (by simp [Yo]; omega)]; exact ⟨rfl, rfl⟩) | (rw [QbX (s := s) (i := i) hJ (by omega) hI.2.1]; exact ⟨rfl, by simp [Qai, D.fz, D.fzS, D.can, D.canS]; omega⟩)
     ·try rw [h4]
      try simp only [qB, Bool.and_eq_true, Bool.and_eq_false_iff, decide_eq_true_eq] at h4
      refine Qy ?_
      refine Xz () ?_ ?_
      ·exact Zb (kp1 rfl)
      ·rintro (q | q | q) <;> first | (simp_all; done) | omega | exact QgL (s := s) (by omega) (by assumption) q.2
    ·try rw [h3]
     try simp only [qB, Bool.and_eq_true, Bool.and_eq_false_iff, decide_eq_true_eq] at h3
     refine Qq Z (Qq Z (Qq Z (Qg Z (Qi Z Z (Qi Z Z (hK _ _ (Qa (kp2 Z Z) ?_)))))))
     refine ZE Z (Qy ?_)
     refine Xz () ?_ ?_
     ·exact Zb (kp1 rfl)
     ·rintro (q | q | q) <;> first | (simp_all; done) | omega | exact QgL (s := s) (by omega) (by assumption) q.2
 intro _u hJ
 try dsimp only
 refine Qe fun K hK => Qb Z (hK _ _ (Qa (kp2 Z Z) ?_))
 refine QH ?_ -- 1
 refine Qe fun K hK => Qb Z (Qkx Z Z (hK _ _ (Qa (kp2 Z Z) ?_)))
 refine QM ?_
 refine Ya (ι := Nat) (fun i => ⟨[(4, .int .i64 (val (s.take i))), (25, .ref 25 0 0)], [(25, ⟨[], 0, Zq s i, false⟩)]⟩) (fun i => i <= s.length /\ (s.take i).all Yo = true /\ s.length <= 4 /\ 0 < s.length) (fun i => s.length - i) 0 ?_ ?_ ?_
 ·exact Zx (l := [4, 25]) (lH := [25]) (kp2 rfl rfl) (Qx rfl QC) (by simp [val]) rfl rfl
 ·exact ⟨Nat.zero_le _, rfl, Nat.le_of_not_lt fun h => hJ (.inr (.inl h)), List.length_pos_iff.2 fun h => hJ (.inl h)⟩
 intro i hI
 have hv := QlW (s := s.take i) hI.2.1
 have hp : 10 ^ (s.take i).length <= 10 ^ 4 := Nat.pow_le_pow_right (by omega) (by simp; omega)
 have hI1 := hI.1
 have hI3 := hI.2.2.1
 try dsimp only
 refine Qe fun K hK => ?_
 rcases Nat.lt_or_ge (i) (s).length with h5 | h5
 ·rcases Nat.lt_or_ge (((s)[i]).toNat) 128 with h6 | h6
  ·refine Qjg Z Z h5 (QhE h5 h6) (Zh Z Z (hK _ _ (Qa (kp4 Z Z Z Z) ?_)))
   refine QH ?_ -- 2
   refine Zm Z (Qy (Qf (kp3 Z Z Z) (QM (Qe fun K hK => Zh Z Z (Qb Z (hK _ _ (Qa (kp3 Z Z Z) ?_)))))))
   refine QM (Qe fun K hK => Qb Z (Qjf Z Z (Qb Z ?_)))
   refine Qw (g := 32) Z (fun h7 => ?_) (fun h7 => ?_)
   ·try rw [h7]
    try simp only [qB, Bool.and_eq_true, Bool.and_eq_false_iff, decide_eq_true_eq] at h7
    refine Qg Z (Qb Z (Qg Z (Qma Z Z (Qi Z Z (Qb Z (hK _ _ (Qa (kp4 Z Z Z Z) ?_)))))))
    refine QA Z (fun h8 => ?_) (fun h8 => ?_)
    ·try rw [h8]
     try simp only [qB, Bool.and_eq_true, Bool.and_eq_false_iff, decide_eq_true_eq] at h8
     refine Zg fun K hK => Qb Z (Qmb Z Z (by first | exact Qt (by omega) (by omega) | exact QZ (by omega) (by omega) | exact Zd (by omega) (by omega) | rfl) (Qb Z (Qc0 Z Z (by first | exact Qt (by omega) (by omega) | exact QZ (by omega) (by omega) | exact Zd (by omega) (by omega) | rfl) (QfP Z (by first | exact Qt (by omega) (by omega) | exact QZ (by omega) (by omega) | exact Zd (by omega) (by omega) | rfl) (Zl Z Z (by first | exact Qt (by omega) (by omega) | exact QZ (by omega) (by omega) | exact Zd (by omega) (by omega) | rfl) (Qb Z (hK _ ?_)))))))
     refine Qm (Qm ?_)
     refine Qp (i + 1) ?_ ?_ ?_
     ·first | exact Zx (l := [4, 25]) (lH := [25]) (kp2 rfl rfl) (Qx rfl QC) rfl rfl rfl | exact Zx (l := [4, 25]) (lH := [25]) (kp2 rfl rfl) (Qx rfl QC) (by rw [QeA (by omega)]; simp; omega) rfl rfl | (exfalso; omega)
     ·first | exact ⟨by omega, Zf (by omega) hI.2.1 (by simp [Yo]; omega), hI.2.2⟩ | (exfalso; omega)
     ·first | omega | (simp only; omega) | (dsimp only; omega)
    ·try rw [h8]
     try simp only [qB, Bool.and_eq_true, Bool.and_eq_false_iff, decide_eq_true_eq] at h8
     refine Qe fun K hK => Qb Z (Qb Z (hK _ _ (Qa (kp2 Z Z) ?_)))
     refine Qr (Qu (Qu (Q9 (Qu (Qk (ZR Z Z ?_))))))
     first | (rw [Qay (s := s) (by first | (left; assumption) | (right; omega))]; exact ⟨rfl, rfl⟩) | (rw [YC (s := s) (by omega) (by assumption)]; exact ⟨rfl, rfl⟩) | (rw [Xs (s := s) (i := i) (by omega) (by simp [Yo]; omega)]; exact ⟨rfl, rfl⟩) | (rw [QbX (s := s) (i := i) hJ (by omega) hI.2.1]; exact ⟨rfl, by simp [Qai, D.fz, D.fzS, D.can, D.canS]; omega⟩)
   ·try rw [h7]
    try simp only [qB, Bool.and_eq_true, Bool.and_eq_false_iff, decide_eq_true_eq] at h7
    refine Qq Z (Qq Z (Qi Z Z (Qb Z (hK _ _ (Qa (kp4 Z Z Z Z) ?_)))))
    refine ZE Z (Qe fun K hK => Qb Z (Qb Z (hK _ _ (Qa (kp2 Z Z) ?_))))
    refine Qr (Qu (Qu (Q9 (Qu (Qk (ZR Z Z ?_))))))
    first | (rw [Qay (s := s) (by first | (left; assumption) | (right; omega))]; exact ⟨rfl, rfl⟩) | (rw [YC (s := s) (by omega) (by assumption)]; exact ⟨rfl, rfl⟩) | (rw [Xs (s := s) (i := i) (by omega) (by simp [Yo]; omega)]; exact ⟨rfl, rfl⟩) | (rw [QbX (s := s) (i := i) hJ (by omega) hI.2.1]; exact ⟨rfl, by simp [Qai, D.fz, D.fzS, D.can, D.canS]; omega⟩)
  ·obtain ⟨cwh6, nwh6, hch6, hdh6⟩ := Qjn h5 h6
   refine Qjg Z Z h5 hdh6 (Zh Z Z (hK _ _ (Qa (kp4 Z Z Z Z) ?_)))
   refine QH ?_ -- 2
   refine Zm Z (Qy (Qf (kp3 Z Z Z) (QM (Qe fun K hK => Zh Z Z (Qb Z (hK _ _ (Qa (kp3 Z Z Z) ?_)))))))
   refine QM (Qe fun K hK => Qb Z (Qjf Z Z (Qb Z ?_)))
   refine Qw (g := 32) Z (fun h9 => ?_) (fun h9 => ?_)
   ·try rw [h9]
    try simp only [qB, Bool.and_eq_true, Bool.and_eq_false_iff, decide_eq_true_eq] at h9
    refine Qg Z (Qb Z (Qg Z (Qma Z Z (Qi Z Z (Qb Z (hK _ _ (Qa (kp4 Z Z Z Z) ?_)))))))
    refine QA Z (fun h10 => ?_) (fun h10 => ?_)
    ·try rw [h10]
     try simp only [qB, Bool.and_eq_true, Bool.and_eq_false_iff, decide_eq_true_eq] at h10
     refine Zg fun K hK => Qb Z (Qmb Z Z (by first | exact Qt (by omega) (by omega) | exact QZ (by omega) (by omega) | exact Zd (by omega) (by omega) | rfl) (Qb Z (Qc0 Z Z (by first | exact Qt (by omega) (by omega) | exact QZ (by omega) (by omega) | exact Zd (by omega) (by omega) | rfl) (QfP Z (by first | exact Qt (by omega) (by omega) | exact QZ (by omega) (by omega) | exact Zd (by omega) (by omega) | rfl) (Zl Z Z (by first | exact Qt (by omega) (by omega) | exact QZ (by omega) (by omega) | exact Zd (by omega) (by omega) | rfl) (Qb Z (hK _ ?_)))))))
     refine Qm (Qm ?_)
     refine Qp (i + 1) ?_ ?_ ?_
     ·first | exact Zx (l := [4, 25]) (lH := [25]) (kp2 rfl rfl) (Qx rfl QC) rfl rfl rfl | exact Zx (l := [4, 25]) (lH := [25]) (kp2 rfl rfl) (Qx rfl QC) (by rw [QeA (by omega)]; simp; omega) rfl rfl | (exfalso; omega)
     ·first | exact ⟨by omega, Zf (by omega) hI.2.1 (by simp [Yo]; omega), hI.2.2⟩ | (exfalso; omega)
     ·first | omega | (simp only; omega) | (dsimp only; omega)
    ·try rw [h10]
     try simp only [qB, Bool.and_eq_true, Bool.and_eq_false_iff, decide_eq_true_eq] at h10
     refine Qe fun K hK => Qb Z (Qb Z (hK _ _ (Qa (kp2 Z Z) ?_)))
     refine Qr (Qu (Qu (Q9 (Qu (Qk (ZR Z Z ?_))))))
     first | (rw [Qay (s := s) (by first | (left; assumption) | (right; omega))]; exact ⟨rfl, rfl⟩) | (rw [YC (s := s) (by omega) (by assumption)]; exact ⟨rfl, rfl⟩) | (rw [Xs (s := s) (i := i) (by omega) (by simp [Yo]; omega)]; exact ⟨rfl, rfl⟩) | (rw [QbX (s := s) (i := i) hJ (by omega) hI.2.1]; exact ⟨rfl, by simp [Qai, D.fz, D.fzS, D.can, D.canS]; omega⟩)
   ·try rw [h9]
    try simp only [qB, Bool.and_eq_true, Bool.and_eq_false_iff, decide_eq_true_eq] at h9
    refine Qq Z (Qq Z (Qi Z Z (Qb Z (hK _ _ (Qa (kp4 Z Z Z Z) ?_)))))
    refine ZE Z (Qe fun K hK => Qb Z (Qb Z (hK _ _ (Qa (kp2 Z Z) ?_))))
    refine Qr (Qu (Qu (Q9 (Qu (Qk (ZR Z Z ?_))))))
    first | (rw [Qay (s := s) (by first | (left; assumption) | (right; omega))]; exact ⟨rfl, rfl⟩) | (rw [YC (s := s) (by omega) (by assumption)]; exact ⟨rfl, rfl⟩) | (rw [Xs (s := s) (i := i) (by omega) (by simp [Yo]; omega)]; exact ⟨rfl, rfl⟩) | (rw [QbX (s := s) (i := i) hJ (by omega) hI.2.1]; exact ⟨rfl, by simp [Qai, D.fz, D.fzS, D.can, D.canS]; omega⟩)
 ·refine Qhq Z Z (by omega) (Zh Z Z (hK _ _ (Qa (kp4 Z Z Z Z) ?_)))
  refine QH ?_ -- 2
  refine ZE Z (ZC (QR (QD (QJ (Qf (kp1 Z) (Qe fun K hK => Qb Z (Qb Z (Qma Z Z (Qb Z (Qb Z ?_))))))))))
  refine hK _ _ (Qa (kp2 Z Z) ?_)
  refine Qr (ZR Z Z ?_)
  first | (rw [Qay (s := s) (by first | (left; assumption) | (right; omega))]; exact ⟨rfl, rfl⟩) | (rw [YC (s := s) (by omega) (by assumption)]; exact ⟨rfl, rfl⟩) | (rw [Xs (s := s) (i := i) (by omega) (by simp [Yo]; omega)]; exact ⟨rfl, rfl⟩) | (rw [QbX (s := s) (i := i) hJ (by omega) hI.2.1]; exact ⟨rfl, by simp [Qai, D.fz, D.fzS, D.can, D.canS]; omega⟩)
theorem QaE {s : List UInt8} (hl : s.length <= 1000000) : Ok Tryd.prog 81 [.str s] (.bool (QcD s)) := by
 refine Ok.ofT Z3 Tryd.func81 QrC (Nat.le_of_ble_eq_true Z) ?_
 show TW _ _ tf81.body _ _
 refine Qe fun K hK => Qb Z (hK _ _ (Qa (kp1 Z) ?_))
 refine QnL (Qe fun K hK => Qb Z (Qz (XZ (by omega)) Z Z (.inl Z) (Qb Z (hK _ _ (Qa (kp1 Z) ?_)))))
 refine Qe fun K hK => Qb Z (ZB Z Z (Qma Z Z (Qb Z (hK _ _ (Qa (kp2 Z Z) ?_)))))
 refine QH ?_ -- 0
 refine Qy (Qf (kp2 Z Z) ?_)
 refine QH ?_ -- 1
 refine Qe fun K hK => Qb Z (ZB Z Z (Qb Z (hK _ _ (Qa (kp4 Z Z Z Z) ?_))))
 refine QM ?_
 refine Ya (ι := Nat) (fun i => ⟨[(4, .bool (decide ((Q5 s 46).length <= 4))), (14, .sl (YP (Q5 s 46))), (15, .int .i64 (Q5 s 46).length), (16, .int .i64 i)], []⟩) (fun i => i <= (Q5 s 46).length /\ ((Q5 s 46).take i).all Qby = true) (fun i => (Q5 s 46).length - i) 0 ?_ ?_ ?_
 ·exact Zx (l := [4, 14, 15, 16]) (kp4 rfl rfl rfl rfl) QC (by simp [Qo]; omega) rfl rfl
 ·exact ⟨Nat.zero_le _, rfl⟩
 intro i hI
 have sl := QdD (s := s) (c := 46)
 try dsimp only
 refine Qe fun K hK => YM Z Z (hK _ _ (Qa (kp5 Z Z Z Z Z) ?_))
 refine QH ?_ -- 2
 refine QA Z (fun h1 => ?_) (fun h1 => ?_)
 ·try rw [h1]
  try simp only [qB, Qo] at h1
  refine Qy (Qf (kp4 Z Z Z Z) ?_)
  refine QH ?_ -- 3
  refine QM (Qe fun K hK => QY Z Z Z (by omega) (X2 (by omega)) Z (QF Z Z Z (Qb Z (hK _ _ (Qa (kp5 Z Z Z Z Z) ?_)))))
  refine QH ?_ -- 4
  refine Qe fun K hK => Qb Z (QbA Z Z (Qb Z ?_))
  refine Qw (g := 22) Z (fun h2 => ?_) (fun h2 => ?_)
  ·try rw [h2]
   try simp only [qB, Qo] at h2
   refine Qq Z (Qq Z (Qq Z (Qi Z Z (hK _ _ (Qa (kp6 Z Z Z Z Z Z) ?_)))))
   refine Zm Z (Qe fun K hK => Qb Z (hK _ _ (Qa (kp1 Z) ?_)))
   refine ZC (QR (Zc (by decide) (QR (QD (QJ (Qf (kp1 Z) (Qe fun K hK => Qb Z (Qb Z (hK _ _ (Qa (kp1 Z) ?_))))))))))
   refine Qr (Ql Z ?_)
   first | exact (ZP (i := i) (by omega) (Xr (by first | (left; assumption) | (right; omega)))).symm | exact (ZP (i := i) (by omega) (Xq (Yl (i := j) (by omega) (by simp [ZN]; omega)))).symm | exact (YL (by omega) hI.2).symm
  ·try rw [h2]
   try simp only [qB, Qo] at h2
   refine Qg Z (Qb Z (Qg Z (Yp Z (Qg Z (QdG Z Z (Qi Z Z (hK _ _ (Qa (kp6 Z Z Z Z Z Z) ?_))))))))
   refine QA Z (fun h3 => ?_) (fun h3 => ?_)
   ·try rw [h3]
    try simp only [qB, Qo] at h3
    refine Qe fun K hK => Qb Z (hK _ _ (Qa (kp1 Z) ?_))
    refine ZC (QR (Zc (by decide) (QR (QD (QJ (Qf (kp1 Z) (Qe fun K hK => Qb Z (Qb Z (hK _ _ (Qa (kp1 Z) ?_))))))))))
    refine Qr (Ql Z ?_)
    first | exact (ZP (i := i) (by omega) (Xr (by first | (left; assumption) | (right; omega)))).symm | exact (ZP (i := i) (by omega) (Xq (Yl (i := j) (by omega) (by simp [ZN]; omega)))).symm | exact (YL (by omega) hI.2).symm
   ·try rw [h3]
    try simp only [qB, Qo] at h3
    refine Qy (Qf (kp5 Z Z Z Z Z) (Qe fun K hK => Qb Z (Qkx Z Z (hK _ _ (Qa (kp5 Z Z Z Z Z) ?_)))))
    refine QM ?_
    have hlt : i < (Q5 s 46).length := by omega
    refine Ya (ι := Nat) (fun j => ⟨[(4, .bool (decide ((Q5 s 46).length <= 4))), (14, .sl (YP (Q5 s 46))), (15, .int .i64 (Q5 s 46).length), (16, .int .i64 i), (28, .ref 28 0 0)], [(28, ⟨[], 0, Zq ((Q5 s 46)[i]'hlt) j, false⟩)]⟩) (fun j => j <= ((Q5 s 46)[i]'hlt).length /\ (((Q5 s 46)[i]'hlt).take j).all ZN = true) (fun j => ((Q5 s 46)[i]'hlt).length - j) 0 ?_ ?_ ?_
    ·first | exact Zx (l := [4, 14, 15, 16, 28]) (lH := [28]) (kp5 rfl rfl rfl rfl rfl) (Qx rfl QC) rfl rfl rfl | (exfalso; omega)
    ·exact ⟨Nat.zero_le _, rfl⟩
    intro j hJ
    have hJ1 := hJ.1
    try dsimp only
    refine Qe fun K hK => ?_
    rcases Nat.lt_or_ge (j) (((Q5 s 46)[i]'hlt)).length with h4 | h4
    ·rcases Nat.lt_or_ge (((((Q5 s 46)[i]'hlt))[j]).toNat) 128 with h5 | h5
     ·refine Qjg Z Z h4 (QhE h4 h5) (Zh Z Z (hK _ _ (Qa (kp7 Z Z Z Z Z Z Z) ?_)))
      refine QH ?_ -- 5
      refine Zm Z (Qy (Qf (kp6 Z Z Z Z Z Z) (QM (Qe fun K hK => Zh Z Z (Qb Z (hK _ _ (Qa (kp6 Z Z Z Z Z Z) ?_)))))))
      refine Qe fun K hK => Qb Z (YM Z Z (Qb Z ?_))
      refine Qw (g := 34) Z (fun h6 => ?_) (fun h6 => ?_)
      ·try rw [h6]
       try simp only [qB, Qo] at h6
       refine Qq Z (Qq Z (Qi Z Z (Qb Z (Qg Z (Qb Z (Qg Z (YM Z Z (Qg Z (Qb Z ?_)))))))))
       refine Qw (g := 41) Z (fun h7 => ?_) (fun h7 => ?_)
       ·try rw [h7]
        try simp only [qB, Qo] at h7
        refine Qq Z (Qq Z (Qg Z (Qi Z Z (Qi Z Z (Qb Z (Qg Z (Qb Z (Qg Z (YN Z Z (Qi Z Z (hK _ _ (Qa (kp6 Z Z Z Z Z Z) ?_))))))))))))
        refine QA Z (fun h8 => ?_) (fun h8 => ?_)
        ·try rw [h8]
         try simp only [qB, Qo] at h8
         refine Qe fun K hK => Qb Z (hK _ _ (Qa (kp1 Z) ?_))
         refine ZC (Zc (by decide) (QD (Zc (by decide) (Zc (by decide) (QR (QD (QJ (Qf (kp1 Z) (Qe fun K hK => Qb Z (Qb Z ?_))))))))))
         refine hK _ _ (Qa (kp1 Z) ?_)
         refine Qr (Ql Z ?_)
         first | exact (ZP (i := i) (by omega) (Xr (by first | (left; assumption) | (right; omega)))).symm | exact (ZP (i := i) (by omega) (Xq (Yl (i := j) (by omega) (by simp [ZN]; omega)))).symm | exact (YL (by omega) hI.2).symm
        ·try rw [h8]
         try simp only [qB, Qo] at h8
         refine Qy (Qm ?_)
         refine Qp (j + 1) ?_ ?_ ?_
         ·first | exact Zx (l := [4, 14, 15, 16, 28]) (lH := [28]) (kp5 rfl rfl rfl rfl rfl) (Qx rfl QC) rfl rfl rfl | (exfalso; omega)
         ·first | exact ⟨by omega, Zf (by omega) hJ.2 (by simp [ZN]; omega)⟩ | (exfalso; omega)
         ·first | omega | (simp only; omega) | (dsimp only; omega)
       ·try rw [h7]
        try simp only [qB, Qo] at h7
        refine Qg Z (Qb Z (Qg Z (QdG Z Z (Qg Z (Qi Z Z (Qi Z Z (Qb Z ?_)))))))
        refine Qw (g := 46) Z (fun h9 => ?_) (fun h9 => ?_)
        ·try rw [h9]
         try simp only [qB, Qo] at h9
         refine Qg Z (Qb Z (Qg Z (YN Z Z (Qi Z Z (hK _ _ (Qa (kp6 Z Z Z Z Z Z) ?_))))))
         refine QA Z (fun h10 => ?_) (fun h10 => ?_)
         ·try rw [h10]
          try simp only [qB, Qo] at h10
          refine Qe fun K hK => Qb Z (hK _ _ (Qa (kp1 Z) ?_))
          refine ZC (Zc (by decide) (QD (Zc (by decide) (Zc (by decide) (QR (QD (QJ (Qf (kp1 Z) (Qe fun K hK => Qb Z (Qb Z ?_))))))))))
          refine hK _ _ (Qa (kp1 Z) ?_)
          refine Qr (Ql Z ?_)
          first | exact (ZP (i := i) (by omega) (Xr (by first | (left; assumption) | (right; omega)))).symm | exact (ZP (i := i) (by omega) (Xq (Yl (i := j) (by omega) (by simp [ZN]; omega)))).symm | exact (YL (by omega) hI.2).symm
         ·try rw [h10]
          try simp only [qB, Qo] at h10
          refine Qy (Qm ?_)
          refine Qp (j + 1) ?_ ?_ ?_
          ·first | exact Zx (l := [4, 14, 15, 16, 28]) (lH := [28]) (kp5 rfl rfl rfl rfl rfl) (Qx rfl QC) rfl rfl rfl | (exfalso; omega)
          ·first | exact ⟨by omega, Zf (by omega) hJ.2 (by simp [ZN]; omega)⟩ | (exfalso; omega)
          ·first | omega | (simp only; omega) | (dsimp only; omega)
        ·try rw [h9]
         try simp only [qB, Qo] at h9
         refine Qq Z (Qq Z (Qi Z Z (hK _ _ (Qa (kp6 Z Z Z Z Z Z) ?_))))
         refine ZE Z (Qy (Qm ?_))
         refine Qp (j + 1) ?_ ?_ ?_
         ·first | exact Zx (l := [4, 14, 15, 16, 28]) (lH := [28]) (kp5 rfl rfl rfl rfl rfl) (Qx rfl QC) rfl rfl rfl | (exfalso; omega)
         ·first | exact ⟨by omega, Zf (by omega) hJ.2 (by simp [ZN]; omega)⟩ | (exfalso; omega)
         ·first | omega | (simp only; omega) | (dsimp only; omega)
      ·try rw [h6]
       try simp only [qB, Qo] at h6
       refine Qg Z (Qb Z (Qg Z (QdG Z Z (Qi Z Z (Qb Z ?_)))))
       refine Qw (g := 38) Z (fun h11 => ?_) (fun h11 => ?_)
       ·try rw [h11]
        try simp only [qB, Qo] at h11
        refine Qg Z (Qb Z (Qg Z (YM Z Z (Qg Z (Qb Z ?_)))))
        refine Qw (g := 41) Z (fun h12 => ?_) (fun h12 => ?_)
        ·try rw [h12]
         try simp only [qB, Qo] at h12
         refine Qq Z (Qq Z (Qg Z (Qi Z Z (Qi Z Z (Qb Z (Qg Z (Qb Z (Qg Z (YN Z Z (Qi Z Z (hK _ _ (Qa (kp6 Z Z Z Z Z Z) ?_))))))))))))
         refine QA Z (fun h13 => ?_) (fun h13 => ?_)
         ·try rw [h13]
          try simp only [qB, Qo] at h13
          refine Qe fun K hK => Qb Z (hK _ _ (Qa (kp1 Z) ?_))
          refine ZC (Zc (by decide) (QD (Zc (by decide) (Zc (by decide) (QR (QD (QJ (Qf (kp1 Z) (Qe fun K hK => Qb Z (Qb Z ?_))))))))))
          refine hK _ _ (Qa (kp1 Z) ?_)
          refine Qr (Ql Z ?_)
          first | exact (ZP (i := i) (by omega) (Xr (by first | (left; assumption) | (right; omega)))).symm | exact (ZP (i := i) (by omega) (Xq (Yl (i := j) (by omega) (by simp [ZN]; omega)))).symm | exact (YL (by omega) hI.2).symm
         ·try rw [h13]
          try simp only [qB, Qo] at h13
          refine Qy (Qm ?_)
          refine Qp (j + 1) ?_ ?_ ?_
          ·first | exact Zx (l := [4, 14, 15, 16, 28]) (lH := [28]) (kp5 rfl rfl rfl rfl rfl) (Qx rfl QC) rfl rfl rfl | (exfalso; omega)
          ·first | exact ⟨by omega, Zf (by omega) hJ.2 (by simp [ZN]; omega)⟩ | (exfalso; omega)
          ·first | omega | (simp only; omega) | (dsimp only; omega)
        ·try rw [h12]
         try simp only [qB, Qo] at h12
         refine Qg Z (Qb Z (Qg Z (QdG Z Z (Qg Z (Qi Z Z (Qi Z Z (Qb Z ?_)))))))
         refine Qw (g := 46) Z (fun h14 => ?_) (fun h14 => ?_)
         ·try rw [h14]
          try simp only [qB, Qo] at h14
          refine Qg Z (Qb Z (Qg Z (YN Z Z (Qi Z Z (hK _ _ (Qa (kp6 Z Z Z Z Z Z) ?_))))))
          refine QA Z (fun h15 => ?_) (fun h15 => ?_)
          ·try rw [h15]
           try simp only [qB, Qo] at h15
           refine Qe fun K hK => Qb Z (hK _ _ (Qa (kp1 Z) ?_))
           refine ZC (Zc (by decide) (QD (Zc (by decide) (Zc (by decide) (QR (QD (QJ (Qf (kp1 Z) (Qe fun K hK => Qb Z (Qb Z ?_))))))))))
           refine hK _ _ (Qa (kp1 Z) ?_)
           refine Qr (Ql Z ?_)
           first | exact (ZP (i := i) (by omega) (Xr (by first | (left; assumption) | (right; omega)))).symm | exact (ZP (i := i) (by omega) (Xq (Yl (i := j) (by omega) (by simp [ZN]; omega)))).symm | exact (YL (by omega) hI.2).symm
          ·try rw [h15]
           try simp only [qB, Qo] at h15
           refine Qy (Qm ?_)
           refine Qp (j + 1) ?_ ?_ ?_
           ·first | exact Zx (l := [4, 14, 15, 16, 28]) (lH := [28]) (kp5 rfl rfl rfl rfl rfl) (Qx rfl QC) rfl rfl rfl | (exfalso; omega)
           ·first | exact ⟨by omega, Zf (by omega) hJ.2 (by simp [ZN]; omega)⟩ | (exfalso; omega)
           ·first | omega | (simp only; omega) | (dsimp only; omega)
         ·try rw [h14]
          try simp only [qB, Qo] at h14
          refine Qq Z (Qq Z (Qi Z Z (hK _ _ (Qa (kp6 Z Z Z Z Z Z) ?_))))
          refine ZE Z (Qy (Qm ?_))
          refine Qp (j + 1) ?_ ?_ ?_
          ·first | exact Zx (l := [4, 14, 15, 16, 28]) (lH := [28]) (kp5 rfl rfl rfl rfl rfl) (Qx rfl QC) rfl rfl rfl | (exfalso; omega)
          ·first | exact ⟨by omega, Zf (by omega) hJ.2 (by simp [ZN]; omega)⟩ | (exfalso; omega)
          ·first | omega | (simp only; omega) | (dsimp only; omega)
       ·try rw [h11]
        try simp only [qB, Qo] at h11
        refine Qq Z (Qq Z (Qq Z (QG Z (QG Z (Qq Z (Qi Z Z (Qb Z (Qq Z (Qq Z (Qi Z Z (hK _ _ (Qa (kp6 Z Z Z Z Z Z) ?_))))))))))))
        refine ZE Z (Qy (Qm ?_))
        refine Qp (j + 1) ?_ ?_ ?_
        ·first | exact Zx (l := [4, 14, 15, 16, 28]) (lH := [28]) (kp5 rfl rfl rfl rfl rfl) (Qx rfl QC) rfl rfl rfl | (exfalso; omega)
        ·first | exact ⟨by omega, Zf (by omega) hJ.2 (by simp [ZN]; omega)⟩ | (exfalso; omega)
        ·first | omega | (simp only; omega) | (dsimp only; omega)
     ·obtain ⟨cwh5, nwh5, hch5, hdh5⟩ := Qjn h4 h5
      refine Qjg Z Z h4 hdh5 (Zh Z Z (hK _ _ (Qa (kp7 Z Z Z Z Z Z Z) ?_)))
      refine QH ?_ -- 5
      refine Zm Z (Qy (Qf (kp6 Z Z Z Z Z Z) (QM (Qe fun K hK => Zh Z Z (Qb Z (hK _ _ (Qa (kp6 Z Z Z Z Z Z) ?_)))))))
      refine Qe fun K hK => Qb Z (YM Z Z (Qb Z ?_))
      refine Qw (g := 34) Z (fun h16 => ?_) (fun h16 => ?_)
      ·try rw [h16]
       try simp only [qB, Qo] at h16
       refine Qq Z (Qq Z (Qi Z Z (Qb Z (Qg Z (Qb Z (Qg Z (YM Z Z (Qg Z (Qb Z ?_)))))))))
       refine Qw (g := 41) Z (fun h17 => ?_) (fun h17 => ?_)
       ·try rw [h17]
        try simp only [qB, Qo] at h17
        refine Qq Z (Qq Z (Qg Z (Qi Z Z (Qi Z Z (Qb Z (Qg Z (Qb Z (Qg Z (YN Z Z (Qi Z Z (hK _ _ (Qa (kp6 Z Z Z Z Z Z) ?_))))))))))))
        refine QA Z (fun h18 => ?_) (fun h18 => ?_)
        ·try rw [h18]
         try simp only [qB, Qo] at h18
         refine Qe fun K hK => Qb Z (hK _ _ (Qa (kp1 Z) ?_))
         refine ZC (Zc (by decide) (QD (Zc (by decide) (Zc (by decide) (QR (QD (QJ (Qf (kp1 Z) (Qe fun K hK => Qb Z (Qb Z ?_))))))))))
         refine hK _ _ (Qa (kp1 Z) ?_)
         refine Qr (Ql Z ?_)
         first | exact (ZP (i := i) (by omega) (Xr (by first | (left; assumption) | (right; omega)))).symm | exact (ZP (i := i) (by omega) (Xq (Yl (i := j) (by omega) (by simp [ZN]; omega)))).symm | exact (YL (by omega) hI.2).symm
        ·try rw [h18]
         try simp only [qB, Qo] at h18
         refine Qy (Qm ?_)
         refine Qp (j + 1) ?_ ?_ ?_
         ·first | exact Zx (l := [4, 14, 15, 16, 28]) (lH := [28]) (kp5 rfl rfl rfl rfl rfl) (Qx rfl QC) rfl rfl rfl | (exfalso; omega)
         ·first | exact ⟨by omega, Zf (by omega) hJ.2 (by simp [ZN]; omega)⟩ | (exfalso; omega)
         ·first | omega | (simp only; omega) | (dsimp only; omega)
       ·try rw [h17]
        try simp only [qB, Qo] at h17
        refine Qg Z (Qb Z (Qg Z (QdG Z Z (Qg Z (Qi Z Z (Qi Z Z (Qb Z ?_)))))))
        refine Qw (g := 46) Z (fun h19 => ?_) (fun h19 => ?_)
        ·try rw [h19]
         try simp only [qB, Qo] at h19
         refine Qg Z (Qb Z (Qg Z (YN Z Z (Qi Z Z (hK _ _ (Qa (kp6 Z Z Z Z Z Z) ?_))))))
         refine QA Z (fun h20 => ?_) (fun h20 => ?_)
         ·try rw [h20]
          try simp only [qB, Qo] at h20
          refine Qe fun K hK => Qb Z (hK _ _ (Qa (kp1 Z) ?_))
          refine ZC (Zc (by decide) (QD (Zc (by decide) (Zc (by decide) (QR (QD (QJ (Qf (kp1 Z) (Qe fun K hK => Qb Z (Qb Z ?_))))))))))
          refine hK _ _ (Qa (kp1 Z) ?_)
          refine Qr (Ql Z ?_)
          first | exact (ZP (i := i) (by omega) (Xr (by first | (left; assumption) | (right; omega)))).symm | exact (ZP (i := i) (by omega) (Xq (Yl (i := j) (by omega) (by simp [ZN]; omega)))).symm | exact (YL (by omega) hI.2).symm
         ·try rw [h20]
          try simp only [qB, Qo] at h20
          refine Qy (Qm ?_)
          refine Qp (j + 1) ?_ ?_ ?_
          ·first | exact Zx (l := [4, 14, 15, 16, 28]) (lH := [28]) (kp5 rfl rfl rfl rfl rfl) (Qx rfl QC) rfl rfl rfl | (exfalso; omega)
          ·first | exact ⟨by omega, Zf (by omega) hJ.2 (by simp [ZN]; omega)⟩ | (exfalso; omega)
          ·first | omega | (simp only; omega) | (dsimp only; omega)
        ·try rw [h19]
         try simp only [qB, Qo] at h19
         refine Qq Z (Qq Z (Qi Z Z (hK _ _ (Qa (kp6 Z Z Z Z Z Z) ?_))))
         refine ZE Z (Qy (Qm ?_))
         refine Qp (j + 1) ?_ ?_ ?_
         ·first | exact Zx (l := [4, 14, 15, 16, 28]) (lH := [28]) (kp5 rfl rfl rfl rfl rfl) (Qx rfl QC) rfl rfl rfl | (exfalso; omega)
         ·first | exact ⟨by omega, Zf (by omega) hJ.2 (by simp [ZN]; omega)⟩ | (exfalso; omega)
         ·first | omega | (simp only; omega) | (dsimp only; omega)
      ·try rw [h16]
       try simp only [qB, Qo] at h16
       refine Qg Z (Qb Z (Qg Z (QdG Z Z (Qi Z Z (Qb Z ?_)))))
       refine Qw (g := 38) Z (fun h21 => ?_) (fun h21 => ?_)
       ·try rw [h21]
        try simp only [qB, Qo] at h21
        refine Qg Z (Qb Z (Qg Z (YM Z Z (Qg Z (Qb Z ?_)))))
        refine Qw (g := 41) Z (fun h22 => ?_) (fun h22 => ?_)
        ·try rw [h22]
         try simp only [qB, Qo] at h22
         refine Qq Z (Qq Z (Qg Z (Qi Z Z (Qi Z Z (Qb Z (Qg Z (Qb Z (Qg Z (YN Z Z (Qi Z Z (hK _ _ (Qa (kp6 Z Z Z Z Z Z) ?_))))))))))))
         refine QA Z (fun h23 => ?_) (fun h23 => ?_)
         ·try rw [h23]
          try simp only [qB, Qo] at h23
          refine Qe fun K hK => Qb Z (hK _ _ (Qa (kp1 Z) ?_))
          refine ZC (Zc (by decide) (QD (Zc (by decide) (Zc (by decide) (QR (QD (QJ (Qf (kp1 Z) (Qe fun K hK => Qb Z (Qb Z ?_))))))))))
          refine hK _ _ (Qa (kp1 Z) ?_)
          refine Qr (Ql Z ?_)
          first | exact (ZP (i := i) (by omega) (Xr (by first | (left; assumption) | (right; omega)))).symm | exact (ZP (i := i) (by omega) (Xq (Yl (i := j) (by omega) (by simp [ZN]; omega)))).symm | exact (YL (by omega) hI.2).symm
         ·try rw [h23]
          try simp only [qB, Qo] at h23
          refine Qy (Qm ?_)
          refine Qp (j + 1) ?_ ?_ ?_
          ·first | exact Zx (l := [4, 14, 15, 16, 28]) (lH := [28]) (kp5 rfl rfl rfl rfl rfl) (Qx rfl QC) rfl rfl rfl | (exfalso; omega)
          ·first | exact ⟨by omega, Zf (by omega) hJ.2 (by simp [ZN]; omega)⟩ | (exfalso; omega)
          ·first | omega | (simp only; omega) | (dsimp only; omega)
        ·try rw [h22]
         try simp only [qB, Qo] at h22
         refine Qg Z (Qb Z (Qg Z (QdG Z Z (Qg Z (Qi Z Z (Qi Z Z (Qb Z ?_)))))))
         refine Qw (g := 46) Z (fun h24 => ?_) (fun h24 => ?_)
         ·try rw [h24]
          try simp only [qB, Qo] at h24
          refine Qg Z (Qb Z (Qg Z (YN Z Z (Qi Z Z (hK _ _ (Qa (kp6 Z Z Z Z Z Z) ?_))))))
          refine QA Z (fun h25 => ?_) (fun h25 => ?_)
          ·try rw [h25]
           try simp only [qB, Qo] at h25
           refine Qe fun K hK => Qb Z (hK _ _ (Qa (kp1 Z) ?_))
           refine ZC (Zc (by decide) (QD (Zc (by decide) (Zc (by decide) (QR (QD (QJ (Qf (kp1 Z) (Qe fun K hK => Qb Z (Qb Z ?_))))))))))
           refine hK _ _ (Qa (kp1 Z) ?_)
           refine Qr (Ql Z ?_)
           first | exact (ZP (i := i) (by omega) (Xr (by first | (left; assumption) | (right; omega)))).symm | exact (ZP (i := i) (by omega) (Xq (Yl (i := j) (by omega) (by simp [ZN]; omega)))).symm | exact (YL (by omega) hI.2).symm
          ·try rw [h25]
           try simp only [qB, Qo] at h25
           refine Qy (Qm ?_)
           refine Qp (j + 1) ?_ ?_ ?_
           ·first | exact Zx (l := [4, 14, 15, 16, 28]) (lH := [28]) (kp5 rfl rfl rfl rfl rfl) (Qx rfl QC) rfl rfl rfl | (exfalso; omega)
           ·first | exact ⟨by omega, Zf (by omega) hJ.2 (by simp [ZN]; omega)⟩ | (exfalso; omega)
           ·first | omega | (simp only; omega) | (dsimp only; omega)
         ·try rw [h24]
          try simp only [qB, Qo] at h24
          refine Qq Z (Qq Z (Qi Z Z (hK _ _ (Qa (kp6 Z Z Z Z Z Z) ?_))))
          refine ZE Z (Qy (Qm ?_))
          refine Qp (j + 1) ?_ ?_ ?_
          ·first | exact Zx (l := [4, 14, 15, 16, 28]) (lH := [28]) (kp5 rfl rfl rfl rfl rfl) (Qx rfl QC) rfl rfl rfl | (exfalso; omega)
          ·first | exact ⟨by omega, Zf (by omega) hJ.2 (by simp [ZN]; omega)⟩ | (exfalso; omega)
          ·first | omega | (simp only; omega) | (dsimp only; omega)
       ·try rw [h21]
        try simp only [qB, Qo] at h21
        refine Qq Z (Qq Z (Qq Z (QG Z (QG Z (Qq Z (Qi Z Z (Qb Z (Qq Z (Qq Z (Qi Z Z (hK _ _ (Qa (kp6 Z Z Z Z Z Z) ?_))))))))))))
        refine ZE Z (Qy (Qm ?_))
        refine Qp (j + 1) ?_ ?_ ?_
        ·first | exact Zx (l := [4, 14, 15, 16, 28]) (lH := [28]) (kp5 rfl rfl rfl rfl rfl) (Qx rfl QC) rfl rfl rfl | (exfalso; omega)
        ·first | exact ⟨by omega, Zf (by omega) hJ.2 (by simp [ZN]; omega)⟩ | (exfalso; omega)
        ·first | omega | (simp only; omega) | (dsimp only; omega)
    ·refine Qhq Z Z (by omega) (Zh Z Z (hK _ _ (Qa (kp7 Z Z Z Z Z Z Z) ?_)))
     refine QH ?_ -- 5
     refine ZE Z (ZC (QR (QD (QJ (Qm (Qf (kp4 Z Z Z Z) (Zg fun K hK => Zl Z Z (by first | exact Qt (by omega) (by omega) | exact QZ (by omega) (by omega) | exact Zd (by omega) (by omega) | rfl) (Qb Z (hK _ ?_)))))))))
     refine Qp (i + 1) ?_ ?_ ?_
     ·exact Zx (l := [4, 14, 15, 16]) (kp4 rfl rfl rfl rfl) QC rfl rfl rfl
     ·exact ⟨by omega, Zf (by omega) hI.2 (Qoa (by assumption) (by omega) (Xb (by omega) hJ.2))⟩
     ·first | omega | (simp only; omega) | (dsimp only; omega)
 ·try rw [h1]
  try simp only [qB, Qo] at h1
  refine ZC (QR (QD (QJ (Qf (kp1 Z) (Qe fun K hK => Qb Z (Qb Z (hK _ _ (Qa (kp1 Z) ?_))))))))
  refine Qr (Ql Z ?_)
  first | exact (ZP (i := i) (by omega) (Xr (by first | (left; assumption) | (right; omega)))).symm | exact (ZP (i := i) (by omega) (Xq (Yl (i := j) (by omega) (by simp [ZN]; omega)))).symm | exact (YL (by omega) hI.2).symm
end Go.Proofs
namespace Go.Proofs
open Go Go.Abs M3
set_option linter.unusedVariables false
set_option linter.unusedSimpArgs false
theorem Qgx {a b : List UInt8} (ha : a.length <= 1000000) (hb : b.length <= 1000000) : Ok Tryd.prog 110 [.str a, .str b] (.int .i64 (QfK a b)) := by
 refine Ok.ofT Z3 Tryd.func110 Qqn (Nat.le_of_ble_eq_true Z) ?_
 show TW _ _ tf110.body _ _
 refine Qe fun K hK => Qb Z (hK _ _ (Qa (kp2 Z Z) ?_))
 refine Qe fun K hK => Qb Z (Qz (Xy (by omega)) Z Z (.inr Z) (Qb Z (Qz (Xy (by omega)) Z Z (.inr Z) (Qb Z (Qb Z (hK _ _ (Qa (kp4 Z Z Z Z) ?_)))))))
 refine QH ?_ -- 0
 refine Qe fun K hK => Qb Z (Qb Z ?_)
 refine Qw (g := 16) Z (fun h1 => ?_) (fun h1 => ?_)
 ·try rw [h1]
  try simp only [qB] at h1
  refine Qg Z (Qb Z (Qi Z Z (hK _ _ (Qa (kp5 Z Z Z Z Z) ?_))))
  refine QA Z (fun h2 => ?_) (fun h2 => ?_)
  ·try rw [h2]
   try simp only [qB] at h2
   refine Qe fun K hK => Qb Z (Qz (QaC (by omega)) Z Z (.inr Z) (Qb Z (Zh Z Z (Zh Z Z (Qb Z (Qb Z (hK _ _ (Qa (kp2 Z Z) ?_))))))))
   refine Qe fun K hK => Qb Z (Qz (QaC (by omega)) Z Z (.inr Z) (Qb Z (Zh Z Z (Zh Z Z (Qb Z (Qb Z (hK _ _ (Qa (kp2 Z Z) ?_))))))))
   refine Qe fun K hK => Qb Z (Qb Z (Qz (ZI) Z Z (.inr Z) (Qb Z (hK _ _ (Qa (kp1 Z) ?_)))))
   refine Qr (Qk (Qv Z ?_))
   (repeat clear hK K); first | (simp [QfK, h1, h2]; done) | (simp_all [QfK]; done)
  ·try rw [h2]
   try simp only [qB] at h2
   refine Qy (Qf (kp4 Z Z Z Z) ?_)
   refine QH ?_ -- 1
   refine Qe fun K hK => Qb Z (Qb Z (QoV Z Z (hK _ _ (Qa (kp4 Z Z Z Z) ?_))))
   refine QA Z (fun h3 => ?_) (fun h3 => ?_)
   ·try rw [h3]
    try simp only [qB] at h3
    refine QH ?_ -- 2
    refine Qe fun K hK => Qb Z (hK _ _ (Qa (kp1 Z) ?_))
    refine Zm Z (Qe fun K hK => Qb Z (hK _ _ (Qa (kp1 Z) ?_)))
    refine Qr (Qk (Qk (Qv Z ?_)))
    (repeat clear hK K); first | (simp [QfK, h1, h2, h3]; done) | (simp_all [QfK]; done)
   ·try rw [h3]
    try simp only [qB] at h3
    refine Qy (Qf (kp2 Z Z) (Qe fun K hK => Qb Z (Qb Z (Qz (XS) Z Z (.inr Z) (Qb Z (hK _ _ (Qa (kp1 Z) ?_)))))))
    refine Qr (Qv Z ?_)
    (repeat clear hK K); first | (simp [QfK, h1, h2, h3]; done) | (simp_all [QfK]; done)
 ·try rw [h1]
  try simp only [qB] at h1
  refine Qq Z (Qi Z Z (hK _ _ (Qa (kp5 Z Z Z Z Z) ?_)))
  refine ZE Z (Qy (Qf (kp4 Z Z Z Z) ?_))
  refine QH ?_ -- 1
  refine Qe fun K hK => Qb Z (Qb Z (QoV Z Z (hK _ _ (Qa (kp4 Z Z Z Z) ?_))))
  refine QA Z (fun h4 => ?_) (fun h4 => ?_)
  ·try rw [h4]
   try simp only [qB] at h4
   refine QH ?_ -- 2
   refine Qe fun K hK => Qb Z (hK _ _ (Qa (kp1 Z) ?_))
   refine ZE Z (Qy (Qf (QV) (Qe fun K hK => Qb Z (hK _ _ (Qa (kp1 Z) ?_)))))
   refine Qr (Qk (Qv Z ?_))
   (repeat clear hK K); first | (simp [QfK, h1, h4]; done) | (simp_all [QfK]; done)
  ·try rw [h4]
   try simp only [qB] at h4
   refine Qy (Qf (kp2 Z Z) (Qe fun K hK => Qb Z (Qb Z (Qz (XS) Z Z (.inr Z) (Qb Z (hK _ _ (Qa (kp1 Z) ?_)))))))
   refine Qr (Qv Z ?_)
   (repeat clear hK K); first | (simp [QfK, h1, h4]; done) | (simp_all [QfK]; done)
theorem Qgw {s : List UInt8} (hl : s.length <= 1000000) : Ok Tryd.prog 80 [.str s] (.bool (QfL s)) := by
 refine Ok.ofT Z3 Tryd.func80 QrB (Nat.le_of_ble_eq_true Z) ?_
 show TW _ _ tf80.body _ _
 refine Qe fun K hK => Qb Z (hK _ _ (Qa (kp1 Z) ?_))
 refine QH ?_ -- 0
 refine Qe fun K hK => Qb Z (Qz (QaE (by omega)) Z Z (.inr Z) (ZM Z (hK _ _ (Qa (kp2 Z Z) ?_))))
 refine QA Z (fun h1 => ?_) (fun h1 => ?_)
 ·try rw [h1]
  try simp only [qB, Qo] at h1
  refine Qe fun K hK => Qb Z (hK _ _ (Qa (kp1 Z) ?_))
  refine Qr (Qk (Ql Z ?_))
  first | (simp [QfL, h1]; done) | exact (QiU (i := i) (by omega) (by simp [Qeh, h1])).symm | exact (Qg2 (i := i) (by assumption) (by omega) hI.2).symm
 ·try rw [h1]
  try simp only [qB, Qo] at h1
  refine Qy (Qf (kp1 Z) ?_)
  refine QH ?_ -- 1
  refine Qe fun K hK => Qb Z (Qz (XZ (by omega)) Z Z (.inl Z) (ZB Z Z (Qb Z (hK _ _ (Qa (kp3 Z Z Z) ?_)))))
  refine QM ?_
  refine Ya (ι := Nat) (fun i => ⟨[(11, .sl (YP (Q5 s 46))), (12, .int .i64 (Q5 s 46).length), (13, .int .i64 i)], []⟩) (fun i => i <= (Q5 s 46).length /\ ((Q5 s 46).take i).all Qeh = true) (fun i => (Q5 s 46).length - i) 0 ?_ ?_ ?_
  ·exact Zx (l := [11, 12, 13]) (kp3 rfl rfl rfl) QC (by simp [Qo]) rfl rfl
  ·exact ⟨Nat.zero_le _, rfl⟩
  intro i hI
  have sl := QdD (s := s) (c := 46)
  try dsimp only
  refine Qe fun K hK => YM Z Z (hK _ _ (Qa (kp4 Z Z Z Z) ?_))
  refine QH ?_ -- 2
  refine QA Z (fun h2 => ?_) (fun h2 => ?_)
  ·try rw [h2]
   try simp only [qB, Qo] at h2
   refine Qy (Qf (kp3 Z Z Z) ?_)
   refine QH ?_ -- 3
   refine QM (Qe fun K hK => QY Z Z Z (by omega) (X2 (by omega)) Z (QF Z Z Z (Qb Z (hK _ _ (Qa (kp4 Z Z Z Z) ?_)))))
   refine Qe fun K hK => Qb Z (Qz (QaC (X6 (by omega) hl)) Z Z (.inr Z) (Qb Z (Zh Z Z (Zh Z Z (Qb Z (Qb Z (hK _ _ (Qa (kp5 Z Z Z Z Z) ?_))))))))
   refine Qe fun K hK => Qb Z (Qz (Xy (X6 (by omega) hl)) Z Z (.inr Z) (Qb Z ?_))
   refine Qw (g := 24) Z (fun h3 => ?_) (fun h3 => ?_)
   ·try rw [h3]
    try simp only [qB, Qo] at h3
    refine Qg Z (Qb Z (Qg Z (ZM Z (Qi Z Z (hK _ _ (Qa (kp4 Z Z Z Z) ?_))))))
    refine QA Z (fun h4 => ?_) (fun h4 => ?_)
    ·try rw [h4]
     try simp only [qB, Qo] at h4
     refine Qe fun K hK => Qb Z (hK _ _ (Qa (kp1 Z) ?_))
     refine Qr (Qu (Qk (Q9 (Qu (Qk (Ql Z ?_))))))
     first | (simp [QfL, h1, h2, h3, h4]; done) | exact (QiU (i := i) (by omega) (by simp [Qeh, h1, h2, h3, h4])).symm | exact (Qg2 (i := i) (by assumption) (by omega) hI.2).symm
    ·try rw [h4]
     try simp only [qB, Qo] at h4
     refine Qy (Qm (Qf (kp3 Z Z Z) (Zg fun K hK => Zl Z Z (by first | exact Qt (by omega) (by omega) | exact QZ (by omega) (by omega) | exact Zd (by omega) (by omega) | rfl) (Qb Z (hK _ ?_)))))
     refine Qp (i + 1) ?_ ?_ ?_
     ·exact Zb (kp3 rfl rfl rfl)
     ·exact ⟨by omega, Zf (by omega) hI.2 (by simp [Qeh, h1, h2, h3, h4])⟩
     ·first | omega | (simp only; omega) | (dsimp only; omega)
   ·try rw [h3]
    try simp only [qB, Qo] at h3
    refine Qq Z (Qq Z (Qi Z Z (hK _ _ (Qa (kp4 Z Z Z Z) ?_))))
    refine ZE Z (Qy (Qm (Qf (kp3 Z Z Z) (Zg fun K hK => Zl Z Z (by first | exact Qt (by omega) (by omega) | exact QZ (by omega) (by omega) | exact Zd (by omega) (by omega) | rfl) (Qb Z (hK _ ?_))))))
    refine Qp (i + 1) ?_ ?_ ?_
    ·exact Zb (kp3 rfl rfl rfl)
    ·exact ⟨by omega, Zf (by omega) hI.2 (by simp [Qeh, h1, h2, h3])⟩
    ·first | omega | (simp only; omega) | (dsimp only; omega)
  ·try rw [h2]
   try simp only [qB, Qo] at h2
   refine ZC (QR (QD (QJ (Qf (QV) (Qe fun K hK => Qb Z (hK _ _ (Qa (kp1 Z) ?_)))))))
   refine Qr (Ql Z ?_)
   first | (simp [QfL, h1, h2]; done) | exact (QiU (i := i) (by omega) (by simp [Qeh, h1, h2])).symm | exact (Qg2 (i := i) (by assumption) (by omega) hI.2).symm
theorem YO {a b c : Int} {p q : List UInt8} (hp : p.length <= 1000000) (hq : q.length <= 1000000) : Ok Tryd.prog 60 [.agg [.int .i64 a, .int .i64 b, .int .i64 c, .str p, .str q]] (.bool (Qbj a b c p q)) := by
 refine Ok.ofT Z3 Tryd.func60 Qrh (Nat.le_of_ble_eq_true Z) ?_
 show TW _ _ tf60.body _ _
 refine Qe fun K hK => ZL Z Z Z (Qb Z (hK _ _ (Qa (kp1 Z) ?_)))
 refine Qe fun K hK => Qh Z Z (QF Z Z Z (Qz (QaD) Z Z (.inr Z) (Qb Z ?_)))
 refine Qw (g := 6) Z (fun h1 => ?_) (fun h1 => ?_)
 ·try rw [h1]
  try simp only [qB] at h1
  refine Qg Z (Qh Z Z (Qg Z (QF Z Z Z (Qg Z (Qz (QaD) Z Z (.inr Z) (Qi Z Z (Qb Z ?_)))))))
  refine Qw (g := 11) Z (fun h2 => ?_) (fun h2 => ?_)
  ·try rw [h2]
   try simp only [qB] at h2
   refine Qg Z (Qh Z Z (Qg Z (QF Z Z Z (Qg Z (Qz (QaD) Z Z (.inr Z) (Qi Z Z (Qb Z ?_)))))))
   refine Qw (g := 16) Z (fun h3 => ?_) (fun h3 => ?_)
   ·try rw [h3]
    try simp only [qB] at h3
    refine Qg Z (Qh Z Z (Qg Z (QF Z Z Z (Qg Z (QbA Z Z (Qg Z (Qb Z ?_)))))))
    refine Qw (g := 20) Z (fun h4 => ?_) (fun h4 => ?_)
    ·try rw [h4]
     try simp only [qB] at h4
     refine Qq Z (Qq Z (Qq Z (Qg Z (Qi Z Z (Qi Z Z (Qb Z (Qg Z (Qh Z Z (Qg Z (QF Z Z Z (Qg Z ?_)))))))))))
     refine QbA Z Z (Qg Z (Qb Z ?_))
     refine Qw (g := 30) Z (fun h5 => ?_) (fun h5 => ?_)
     ·try rw [h5]
      try simp only [qB] at h5
      refine Qq Z (Qq Z (Qq Z (Qg Z (Qi Z Z (Qi Z Z (Qb Z (hK _ _ (Qa (kp1 Z) ?_))))))))
      refine Qr (Ql Z ?_)
      simp [Qbj, YK, Xf, h1, h2, h3, h4, h5]
     ·try rw [h5]
      try simp only [qB] at h5
      refine Qg Z (Qh Z Z (Qg Z (QF Z Z Z (Qg Z (Qz (QaE (by omega)) Z Z (.inr Z) (Qg Z (Qi Z Z (Qi Z Z (Qb Z (hK _ _ (Qa (kp1 Z) ?_)))))))))))
      refine Qr (Ql Z ?_)
      simp [Qbj, YK, Xf, h1, h2, h3, h4, h5]
    ·try rw [h4]
     try simp only [qB] at h4
     refine Qg Z (Qh Z Z (Qg Z (QF Z Z Z (Qg Z (Qz (Qgw (by omega)) Z Z (.inr Z) (Qg Z (Qi Z Z (Qi Z Z (Qb Z ?_)))))))))
     refine Qw (g := 26) Z (fun h6 => ?_) (fun h6 => ?_)
     ·try rw [h6]
      try simp only [qB] at h6
      refine Qg Z (Qh Z Z (Qg Z (QF Z Z Z (Qg Z (QbA Z Z (Qg Z (Qb Z ?_)))))))
      refine Qw (g := 30) Z (fun h7 => ?_) (fun h7 => ?_)
      ·try rw [h7]
       try simp only [qB] at h7
       refine Qq Z (Qq Z (Qq Z (Qg Z (Qi Z Z (Qi Z Z (Qb Z (hK _ _ (Qa (kp1 Z) ?_))))))))
       refine Qr (Ql Z ?_)
       simp [Qbj, YK, Xf, h1, h2, h3, h4, h6, h7]
      ·try rw [h7]
       try simp only [qB] at h7
       refine Qg Z (Qh Z Z (Qg Z (QF Z Z Z (Qg Z (Qz (QaE (by omega)) Z Z (.inr Z) (Qg Z (Qi Z Z (Qi Z Z (Qb Z (hK _ _ (Qa (kp1 Z) ?_)))))))))))
       refine Qr (Ql Z ?_)
       simp [Qbj, YK, Xf, h1, h2, h3, h4, h6, h7]
     ·try rw [h6]
      try simp only [qB] at h6
      refine Qq Z (Qq Z (Qq Z (Qq Z (QG Z (QG Z (QG Z (Qq Z (Qi Z Z (Qb Z (hK _ _ (Qa (kp1 Z) ?_)))))))))))
      refine Qr (Ql Z ?_)
      simp [Qbj, YK, Xf, h1, h2, h3, h4, h6]
   ·try rw [h3]
    try simp only [qB] at h3
    refine Qq Z (Qq Z (Qq Z (Qq Z (QG Z (QG Z (QG Z (Qq Z (Qi Z Z (Qb Z (Qq Z (Qq Z ?_)))))))))))
    refine Qq Z (Qq Z (QG Z (QG Z (QG Z (Qq Z (Qi Z Z (Qb Z (hK _ _ (Qa (kp1 Z) ?_)))))))))
    refine Qr (Ql Z ?_)
    simp [Qbj, YK, Xf, h1, h2, h3]
  ·try rw [h2]
   try simp only [qB] at h2
   refine Qq Z (Qq Z (Qq Z (Qi Z Z (Qb Z (Qq Z (Qq Z (Qq Z (Qq Z (QG Z (QG Z (QG Z ?_)))))))))))
   refine Qq Z (Qi Z Z (Qb Z (Qq Z (Qq Z (Qq Z (Qq Z (QG Z (QG Z (QG Z (Qq Z (Qi Z Z ?_)))))))))))
   refine Qb Z (hK _ _ (Qa (kp1 Z) ?_))
   refine Qr (Ql Z ?_)
   simp [Qbj, YK, Xf, h1, h2]
 ·try rw [h1]
  try simp only [qB] at h1
  refine Qq Z (Qq Z (Qq Z (Qi Z Z (Qb Z (Qq Z (Qq Z (Qq Z (Qi Z Z (Qb Z (Qq Z (Qq Z ?_)))))))))))
  refine Qq Z (Qq Z (QG Z (QG Z (QG Z (Qq Z (Qi Z Z (Qb Z (Qq Z (Qq Z (Qq Z (Qq Z ?_)))))))))))
  refine QG Z (QG Z (QG Z (Qq Z (Qi Z Z (Qb Z (hK _ _ (Qa (kp1 Z) ?_)))))))
  refine Qr (Ql Z ?_)
  simp [Qbj, YK, Xf, h1]
theorem QaO {a b c : Int} {p q : List UInt8} (hp : p.length <= 1000000) (hq : q.length <= 1000000) {a' b' c' : Int} {p' q' : List UInt8} (hp' : p'.length <= 1000000) (hq' : q'.length <= 1000000) : Ok Tryd.prog 105 [.agg [.int .i64 a, .int .i64 b, .int .i64 c, .str p, .str q], .agg [.int .i64 a', .int .i64 b', .int .i64 c', .str p', .str q']] (.int .i64 (QcO a b c p q a' b' c' p' q')) := by
 refine Ok.ofT Z3 Tryd.func105 Qqi (Nat.le_of_ble_eq_true Z) ?_
 show TW _ _ tf105.body _ _
 refine Qe fun K hK => ZL Z Z Z (ZL Z Z Z (Qb Z (hK _ _ (Qa (kp2 Z Z) ?_))))
 refine QH ?_ -- 0
 refine Qe fun K hK => QK (ds0 := [13, 12, 11, 10, 9, 8, 7, 6, 5, 4, 3, 2, 1, 0]) (cs := [_, _, _, _, _]) Z Z Z Z Z Z (QX (ds0 := [12, 11, 10, 9, 8, 7, 6, 5, 4, 3, 2, 1, 0]) (YO (by omega) (by omega)) Z Z (.inr Z) Z Z (ZM Z (Qb Z ?_)))
 refine Qw (g := 13) Z (fun h1 => ?_) (fun h1 => ?_)
 ·try rw [h1]
  try simp only [qB, Qo] at h1
  refine Qq Z (Qq Z (Qq Z (Qi Z Z (Qb Z (Qq Z (Qq Z (Qq Z (Qq Z (Qq Z (Qi Z Z (hK _ _ (Qa (kp3 Z Z Z) ?_))))))))))))
  refine Zm Z (Qe fun K hK => Qb Z (hK _ _ (Qa (kp1 Z) ?_)))
  refine Qr (Qk (Qv Z ?_))
  first | (simp [QcO, h1]; done) | (exact (Qdg (by assumption) (by assumption) (by assumption)).symm) | (exact Qa7 (by assumption) (by assumption) (by assumption)) | (exact (X0 (by assumption) (by assumption) (by assumption) (by assumption) (by assumption)).symm) | (exact (X1 (by assumption) (by assumption) (by assumption) (by assumption) (by assumption)).symm) | (rw [hI.2.2, Yt (by omega) (by omega) (by assumption)]) | (rw [hI.2.2, Ys (by omega) (by omega) (by omega)]; simp [Qo])
 ·try rw [h1]
  try simp only [qB, Qo] at h1
  refine Qg Z (QK (ds0 := [9, 8, 7, 6, 5, 4, 3, 2, 1, 0]) (cs := [_, _, _, _, _]) Z Z Z Z Z Z (Qg Z (QX (ds0 := [8, 7, 6, 5, 4, 3, 2, 1, 0]) (YO (by omega) (by omega)) Z Z (.inr Z) Z Z (Qg Z (ZM Z (Qi Z Z (Qb Z ?_)))))))
  refine Qw (g := 18) Z (fun h2 => ?_) (fun h2 => ?_)
  ·try rw [h2]
   try simp only [qB, Qo] at h2
   refine Qq Z (Qq Z (Qq Z (Qq Z (Qq Z (Qi Z Z (hK _ _ (Qa (kp3 Z Z Z) ?_)))))))
   refine Zm Z (Qe fun K hK => Qb Z (hK _ _ (Qa (kp1 Z) ?_)))
   refine Qr (Qk (Qv Z ?_))
   first | (simp [QcO, h1, h2]; done) | (exact (Qdg (by assumption) (by assumption) (by assumption)).symm) | (exact Qa7 (by assumption) (by assumption) (by assumption)) | (exact (X0 (by assumption) (by assumption) (by assumption) (by assumption) (by assumption)).symm) | (exact (X1 (by assumption) (by assumption) (by assumption) (by assumption) (by assumption)).symm) | (rw [hI.2.2, Yt (by omega) (by omega) (by assumption)]) | (rw [hI.2.2, Ys (by omega) (by omega) (by omega)]; simp [Qo])
  ·try rw [h2]
   try simp only [qB, Qo] at h2
   refine Qg Z (QK (ds0 := [4, 1, 0]) (cs := [_, _, _, _, _]) Z Z Z Z Z Z (Qg Z (QX (ds0 := [1, 0]) (Qcw) Z Z (.inl Z) Z Z (Qg Z (QK (ds0 := [2, 1, 0]) (cs := [_, _, _, _, _]) Z Z Z Z Z Z (Qg Z (QX (ds0 := [1, 0]) (Qcw) Z Z (.inl Z) Z Z (Qg Z (Qhp Z Z Z (Qi Z Z (hK _ _ (Qa (kp3 Z Z Z) ?_))))))))))))
   refine QA Z (fun h3 => ?_) (fun h3 => ?_)
   ·try rw [h3]
    try simp only [qB, Qo] at h3
    refine Qe fun K hK => Qb Z (hK _ _ (Qa (kp1 Z) ?_))
    refine Qr (Qk (Qv Z ?_))
    first | (simp [QcO, h1, h2, h3]; done) | (exact (Qdg (by assumption) (by assumption) (by assumption)).symm) | (exact Qa7 (by assumption) (by assumption) (by assumption)) | (exact (X0 (by assumption) (by assumption) (by assumption) (by assumption) (by assumption)).symm) | (exact (X1 (by assumption) (by assumption) (by assumption) (by assumption) (by assumption)).symm) | (rw [hI.2.2, Yt (by omega) (by omega) (by assumption)]) | (rw [hI.2.2, Ys (by omega) (by omega) (by omega)]; simp [Qo])
   ·try rw [h3]
    try simp only [qB, Qo] at h3
    refine Qy (Qf (kp2 Z Z) ?_)
    refine QH ?_ -- 1
    refine Qe fun K hK => Qh Z Z (Zi (ds0 := [13, 2, 1, 0]) Z Z Z Z Z (Qh Z Z (Zi (ds0 := [13, 2, 1, 0]) Z Z Z Z Z (QX (ds0 := [2, 1, 0]) (ZI) Z Z (.inr Z) Z Z (Qh Z Z (Zi (ds0 := [8, 2, 1, 0]) Z Z Z Z Z (Qh Z Z (Zi (ds0 := [8, 2, 1, 0]) Z Z Z Z Z (QX (ds0 := [2, 1, 0]) (ZI) Z Z (.inr Z) Z Z (Qh Z Z ?_))))))))))
    refine Zi (ds0 := [3, 2, 1, 0]) Z Z Z Z Z (Qh Z Z (Zi (ds0 := [3, 2, 1, 0]) Z Z Z Z Z (QX (ds0 := [2, 1, 0]) (ZI) Z Z (.inr Z) Z Z (QN Z Z (QX (ds0 := [0]) (Qhy (l := [ZV a a', ZV b b', ZV c c']) (by simp)) Z Z (.inr Z) Z Z (Qb Z (hK _ _ (Qa (kp3 Z Z Z) ?_))))))))
    refine Qe fun K hK => Qb Z (YN Z Z (hK _ _ (Qa (kp4 Z Z Z Z) ?_)))
    refine QA Z (fun h4 => ?_) (fun h4 => ?_)
    ·try rw [h4]
     try simp only [qB, Qo] at h4
     refine Qe fun K hK => Qb Z (Qb Z (hK _ _ (Qa (kp1 Z) ?_)))
     refine Qr (Qk (Qv Z ?_))
     first | (simp [QcO, h1, h2, h3, h4]; done) | (exact (Qdg (by assumption) (by assumption) (by assumption)).symm) | (exact Qa7 (by assumption) (by assumption) (by assumption)) | (exact (X0 (by assumption) (by assumption) (by assumption) (by assumption) (by assumption)).symm) | (exact (X1 (by assumption) (by assumption) (by assumption) (by assumption) (by assumption)).symm) | (rw [hI.2.2, Yt (by omega) (by omega) (by assumption)]) | (rw [hI.2.2, Ys (by omega) (by omega) (by omega)]; simp [Qo])
    ·try rw [h4]
     try simp only [qB, Qo] at h4
     refine Qy (Qf (kp2 Z Z) ?_)
     refine QH ?_ -- 2
     refine Qe fun K hK => Qh Z Z (QF Z Z Z (QbA Z Z (hK _ _ (Qa (kp3 Z Z Z) ?_))))
     refine QA Z (fun h5 => ?_) (fun h5 => ?_)
     ·try rw [h5]
      try simp only [qB, Qo] at h5
      refine Qe fun K hK => Qb Z (hK _ _ (Qa (kp1 Z) ?_))
      refine Qr (Qk (Qv Z ?_))
      first | (simp [QcO, h1, h2, h3, h4, h5]; done) | (exact (Qdg (by assumption) (by assumption) (by assumption)).symm) | (exact Qa7 (by assumption) (by assumption) (by assumption)) | (exact (X0 (by assumption) (by assumption) (by assumption) (by assumption) (by assumption)).symm) | (exact (X1 (by assumption) (by assumption) (by assumption) (by assumption) (by assumption)).symm) | (rw [hI.2.2, Yt (by omega) (by omega) (by assumption)]) | (rw [hI.2.2, Ys (by omega) (by omega) (by omega)]; simp [Qo])
     ·try rw [h5]
      try simp only [qB, Qo] at h5
      refine Qy (Qf (kp2 Z Z) ?_)
      refine QH ?_ -- 3
      refine Qe fun K hK => Qh Z Z (QF Z Z Z (QbA Z Z (hK _ _ (Qa (kp3 Z Z Z) ?_))))
      refine QA Z (fun h6 => ?_) (fun h6 => ?_)
      ·try rw [h6]
       try simp only [qB, Qo] at h6
       refine Qe fun K hK => Qb Z (hK _ _ (Qa (kp1 Z) ?_))
       refine Qr (Qk (Qv Z ?_))
       first | (simp [QcO, h1, h2, h3, h4, h5, h6]; done) | (exact (Qdg (by assumption) (by assumption) (by assumption)).symm) | (exact Qa7 (by assumption) (by assumption) (by assumption)) | (exact (X0 (by assumption) (by assumption) (by assumption) (by assumption) (by assumption)).symm) | (exact (X1 (by assumption) (by assumption) (by assumption) (by assumption) (by assumption)).symm) | (rw [hI.2.2, Yt (by omega) (by omega) (by assumption)]) | (rw [hI.2.2, Ys (by omega) (by omega) (by omega)]; simp [Qo])
      ·try rw [h6]
       try simp only [qB, Qo] at h6
       refine Qy (Qf (kp2 Z Z) (Qe fun K hK => Qh Z Z (Zi (ds0 := [5, 1]) Z Z Z Z Z (QX (ds0 := [1]) (XZ (by omega)) Z Z (.inl Z) Z Z (Qh Z Z (Zi (ds0 := [2, 0]) Z Z Z Z Z (QX (ds0 := [0]) (XZ (by omega)) Z Z (.inl Z) Z Z (Qb Z (Qb Z (hK _ _ (Qa (kp2 Z Z) ?_)))))))))))
       refine QH ?_ -- 4
       refine Qe fun K hK => Qb Z (hK _ _ (Qa (kp3 Z Z Z) ?_))
       refine QM ?_
       refine Ya (ι := Nat) (fun i => ⟨[(6, .sl (YP (Q5 p 46))), (7, .sl (YP (Q5 p' 46))), (8, .int .i64 i)], []⟩) (fun i => i <= (Q5 p 46).length /\ i <= (Q5 p' 46).length /\ QcO a b c p q a' b' c' p' q' = QjM ((Q5 p 46).drop i) ((Q5 p' 46).drop i)) (fun i => (Q5 p 46).length - i) 0 ?_ ?_ ?_
       ·exact Zx (l := [6, 7, 8]) (kp3 rfl rfl rfl) QC rfl rfl rfl
       ·exact ⟨Nat.zero_le _, Nat.zero_le _, QnZ (by assumption) (by assumption) (by assumption) (by assumption) (by assumption) (by assumption)⟩
       intro i hI
       have sl := QdD (s := p) (c := 46)
       try dsimp only
       refine QH ?_ -- 5
       refine Qe fun K hK => Qb Z (Qb Z (ZB Z Z (YM Z Z (Qb Z ?_))))
       refine Qw (g := 61) Z (fun h7 => ?_) (fun h7 => ?_)
       ·try rw [h7]
        try simp only [qB, Qo] at h7
        refine Qg Z (Qb Z (Qg Z (Qb Z (Qg Z (ZB Z Z (Qg Z (YM Z Z (Qi Z Z (hK _ _ (Qa (kp4 Z Z Z Z) ?_))))))))))
        refine QA Z (fun h8 => ?_) (fun h8 => ?_)
        ·try rw [h8]
         try simp only [qB, Qo] at h8
         refine Qy (Qf (kp3 Z Z Z) ?_)
         refine QH ?_ -- 6
         refine QM (Qe fun K hK => Qb Z (Qb Z (QY Z Z Z (by omega) (X2 (by omega)) Z (Zi (ds0 := [1, 0]) Z Z Z Z Z (Qb Z (Qb Z (QY Z Z Z (by omega) (X2 (by omega)) Z (Zi (ds0 := [1, 0]) Z Z Z Z Z (QX (ds0 := [0]) (Qgx (X6 (by omega) hp) (X6 (by omega) hp')) Z Z (.inr Z) Z Z (Qb Z ?_))))))))))
         refine hK _ _ (Qa (kp4 Z Z Z Z) ?_)
         refine Qe fun K hK => Qb Z (YN Z Z (hK _ _ (Qa (kp5 Z Z Z Z Z) ?_)))
         refine QA Z (fun h9 => ?_) (fun h9 => ?_)
         ·try rw [h9]
          try simp only [qB, Qo] at h9
          refine Qe fun K hK => Qb Z (Qb Z (hK _ _ (Qa (kp1 Z) ?_)))
          refine Qr (Qu (Qk (Q9 (Qu (Qk (Qv Z ?_))))))
          first | (simp [QcO, h1, h2, h3, h4, h5, h6, h7, h8, h9]; done) | (exact (Qdg (by assumption) (by assumption) (by assumption)).symm) | (exact Qa7 (by assumption) (by assumption) (by assumption)) | (exact (X0 (by assumption) (by assumption) (by assumption) (by assumption) (by assumption)).symm) | (exact (X1 (by assumption) (by assumption) (by assumption) (by assumption) (by assumption)).symm) | (rw [hI.2.2, Yt (by omega) (by omega) (by assumption)]) | (rw [hI.2.2, Ys (by omega) (by omega) (by omega)]; simp [Qo])
         ·try rw [h9]
          try simp only [qB, Qo] at h9
          refine Qy (Qm (Qf (kp3 Z Z Z) (Zg fun K hK => Qb Z (Zl Z Z (by first | exact Qt (by omega) (by omega) | exact QZ (by omega) (by omega) | exact Zd (by omega) (by omega) | rfl) (Qb Z (hK _ ?_))))))
          refine Qp (i + 1) ?_ ?_ ?_
          ·exact Zb (kp3 rfl rfl rfl)
          ·exact ⟨by omega, by omega, by rw [hI.2.2, Qh0 (by omega) (by omega) (by assumption)]⟩
          ·first | omega | (simp only; omega) | (dsimp only; omega)
        ·try rw [h8]
         try simp only [qB, Qo] at h8
         refine ZC (QR (QD (QJ (Qf (kp2 Z Z) (Qe fun K hK => Qb Z (ZB Z Z (Qb Z (ZB Z Z (Qz (ZI) Z Z (.inr Z) (Qb Z ?_))))))))))
         refine hK _ _ (Qa (kp1 Z) ?_)
         refine Qr (Qv Z ?_)
         first | (simp [QcO, h1, h2, h3, h4, h5, h6, h7, h8]; done) | (exact (Qdg (by assumption) (by assumption) (by assumption)).symm) | (exact Qa7 (by assumption) (by assumption) (by assumption)) | (exact (X0 (by assumption) (by assumption) (by assumption) (by assumption) (by assumption)).symm) | (exact (X1 (by assumption) (by assumption) (by assumption) (by assumption) (by assumption)).symm) | (rw [hI.2.2, Yt (by omega) (by omega) (by assumption)]) | (rw [hI.2.2, Ys (by omega) (by omega) (by omega)]; simp [Qo])
       ·try rw [h7]
        try simp only [qB, Qo] at h7
        refine Qq Z (Qq Z (Qq Z (Qq Z (Qi Z Z (hK _ _ (Qa (kp4 Z Z Z Z) ?_))))))
        refine ZE Z (ZC (QR (QD (QJ (Qf (kp2 Z Z) (Qe fun K hK => Qb Z (ZB Z Z (Qb Z (ZB Z Z (Qz (ZI) Z Z (.inr Z) ?_))))))))))
        refine Qb Z (hK _ _ (Qa (kp1 Z) ?_))
        refine Qr (Qv Z ?_)
        first | (simp [QcO, h1, h2, h3, h4, h5, h6, h7]; done) | (exact (Qdg (by assumption) (by assumption) (by assumption)).symm) | (exact Qa7 (by assumption) (by assumption) (by assumption)) | (exact (X0 (by assumption) (by assumption) (by assumption) (by assumption) (by assumption)).symm) | (exact (X1 (by assumption) (by assumption) (by assumption) (by assumption) (by assumption)).symm) | (rw [hI.2.2, Yt (by omega) (by omega) (by assumption)]) | (rw [hI.2.2, Ys (by omega) (by omega) (by omega)]; simp [Qo])
theorem QbE {e a b c : Int} {p q : List UInt8} {f : Bool} (hp : p.length <= 1000000) (hq : q.length <= 1000000) : Ok Tryd.prog 103 [.agg [.int .i64 e, .int .i64 a, .int .i64 b, .int .i64 c, .str p, .str q, .bool f]] (.bool (Y4 e a b c p q f)) := by
 refine Ok.ofT Z3 Tryd.func103 Qqg (Nat.le_of_ble_eq_true Z) ?_
 show TW _ _ tf103.body _ _
 refine Qe fun K hK => ZL Z Z Z (Qb Z (hK _ _ (Qa (kp1 Z) ?_)))
 refine QH ?_ -- 0
 refine Qe fun K hK => Qh Z Z (QF Z Z Z (YF Z Z (Qb Z ?_)))
 refine Qw (g := 6) Z (fun h1 => ?_) (fun h1 => ?_)
 ·try rw [h1]
  try simp only [qB] at h1
  refine Qq Z (Qq Z (Qq Z (Qi Z Z (hK _ _ (Qa (kp2 Z Z) ?_)))))
  refine Zm Z (Qe fun K hK => Qh Z Z (QE (cs := [_, _, _, _, _]) Z Z Z Z (Q4 Z Z (Qhp Z Z Z (Qb Z ?_)))))
  refine Qw (g := 15) Z (fun h2 => ?_) (fun h2 => ?_)
  ·try rw [h2]
   try simp only [qB] at h2
   refine Qg Z (Qh Z Z (Qg Z (QF Z Z Z (Qg Z (ZM Z (Qi Z Z (Qb Z (hK _ _ (Qa (kp1 Z) ?_)))))))))
   refine Qr (Qk (Ql Z ?_))
   (repeat clear hK K); first | (simp_all [Y4]; done) | (simp_all [Y4]; omega)
  ·try rw [h2]
   try simp only [qB] at h2
   refine Qq Z (Qq Z (Qq Z (Qi Z Z (Qb Z (hK _ _ (Qa (kp1 Z) ?_))))))
   refine Qr (Qk (Ql Z ?_))
   (repeat clear hK K); first | (simp_all [Y4]; done) | (simp_all [Y4]; omega)
 ·try rw [h1]
  try simp only [qB] at h1
  refine Qg Z (Qh Z Z (Qg Z (QF Z Z Z (Qg Z (YF Z Z (Qi Z Z (hK _ _ (Qa (kp2 Z Z) ?_))))))))
  refine QA Z (fun h3 => ?_) (fun h3 => ?_)
  ·try rw [h3]
   try simp only [qB] at h3
   refine Qe fun K hK => Qh Z Z (QE (cs := [_, _, _, _, _]) Z Z Z Z (Q4 Z Z (Qhp Z Z Z (Qb Z ?_))))
   refine Qw (g := 15) Z (fun h4 => ?_) (fun h4 => ?_)
   ·try rw [h4]
    try simp only [qB] at h4
    refine Qg Z (Qh Z Z (Qg Z (QF Z Z Z (Qg Z (ZM Z (Qi Z Z (Qb Z (hK _ _ (Qa (kp1 Z) ?_)))))))))
    refine Qr (Qk (Ql Z ?_))
    (repeat clear hK K); first | (simp_all [Y4]; done) | (simp_all [Y4]; omega)
   ·try rw [h4]
    try simp only [qB] at h4
    refine Qq Z (Qq Z (Qq Z (Qi Z Z (Qb Z (hK _ _ (Qa (kp1 Z) ?_))))))
    refine Qr (Qk (Ql Z ?_))
    (repeat clear hK K); first | (simp_all [Y4]; done) | (simp_all [Y4]; omega)
  ·try rw [h3]
   try simp only [qB] at h3
   refine Qe fun K hK => Qh Z Z (QF Z Z Z (YN Z Z (hK _ _ (Qa (kp2 Z Z) ?_))))
   refine QA Z (fun h5 => ?_) (fun h5 => ?_)
   ·try rw [h5]
    try simp only [qB] at h5
    refine Qe fun K hK => Qb Z (hK _ _ (Qa (kp1 Z) ?_))
    refine Qr (Qk (Ql Z ?_))
    (repeat clear hK K); first | (simp_all [Y4]; done) | (simp_all [Y4]; omega)
   ·try rw [h5]
    try simp only [qB] at h5
    refine Qy (Qf (kp1 Z) (Qe fun K hK => Qh Z Z (QE (cs := [_, _, _, _, _]) Z Z Z Z (Qz (YO (by omega) (by omega)) Z Z (.inr Z) (Qb Z ?_)))))
    refine Qw (g := 26) Z (fun h6 => ?_) (fun h6 => ?_)
    ·try rw [h6]
     try simp only [qB] at h6
     refine Qg Z (Qh Z Z (Qg Z (Qh Z Z (Qg Z (QF Z Z Z (Qg Z (QbA Z Z (Qi Z Z (Qb Z (hK _ _ (Qa (kp1 Z) ?_)))))))))))
     refine Qr (Ql Z ?_)
     (repeat clear hK K); first | (simp_all [Y4]; done) | (simp_all [Y4]; omega)
    ·try rw [h6]
     try simp only [qB] at h6
     refine Qq Z (Qq Z (Qq Z (Qq Z (Qi Z Z (Qb Z (hK _ _ (Qa (kp1 Z) ?_)))))))
     refine Qr (Ql Z ?_)
     (repeat clear hK K); first | (simp_all [Y4]; done) | (simp_all [Y4]; omega)
theorem Qc6 {e a b c : Int} {p q : List UInt8} {f : Bool} (hp : p.length <= 1000000) (hq : q.length <= 1000000) {e' a' b' c' : Int} {p' q' : List UInt8} {f' : Bool} (hp' : p'.length <= 1000000) (hq' : q'.length <= 1000000) : Ok Tryd.prog 94 [.agg [.int .i64 e, .int .i64 a, .int .i64 b, .int .i64 c, .str p, .str q, .bool f], .agg [.int .i64 e', .int .i64 a', .int .i64 b', .int .i64 c', .str p', .str q', .bool f']] (.int .i64 (Yw e a b c p q f e' a' b' c' p' q' f')) := by
 refine Ok.ofT Z3 Tryd.func94 QrP (Nat.le_of_ble_eq_true Z) ?_
 show TW _ _ tf94.body _ _
 refine Qe fun K hK => ZL Z Z Z (ZL Z Z Z (Qb Z (hK _ _ (Qa (kp2 Z Z) ?_))))
 refine QH ?_ -- 0
 refine Qe fun K hK => QE (cs := [_, _, _, _, _, _, _]) Z Z Z Z (Qz (QbE (by omega) (by omega)) Z Z (.inr Z) (ZM Z (Qb Z ?_)))
 refine Qw (g := 9) Z (fun h1 => ?_) (fun h1 => ?_)
 ·try rw [h1]
  try simp only [qB] at h1
  refine Qq Z (Qq Z (Qq Z (Qi Z Z (hK _ _ (Qa (kp3 Z Z Z) ?_)))))
  refine Zm Z (Qe fun K hK => Qb Z (hK _ _ (Qa (kp1 Z) ?_)))
  refine Qr (Qk (Qv Z ?_))
  (repeat clear hK K); first | (simp [Yw, h1]; done) | exact (Qat (by assumption) (by assumption) (by first | (left; assumption) | (right; assumption))).symm | (simp_all [Yw]; done)
 ·try rw [h1]
  try simp only [qB] at h1
  refine Qg Z (QE (cs := [_, _, _, _, _, _, _]) Z Z Z Z (Qg Z (Qz (QbE (by omega) (by omega)) Z Z (.inr Z) (Qg Z (ZM Z (Qi Z Z (hK _ _ (Qa (kp3 Z Z Z) ?_))))))))
  refine QA Z (fun h2 => ?_) (fun h2 => ?_)
  ·try rw [h2]
   try simp only [qB] at h2
   refine Qe fun K hK => Qb Z (hK _ _ (Qa (kp1 Z) ?_))
   refine Qr (Qk (Qv Z ?_))
   (repeat clear hK K); first | (simp [Yw, h1, h2]; done) | exact (Qat (by assumption) (by assumption) (by first | (left; assumption) | (right; assumption))).symm | (simp_all [Yw]; done)
  ·try rw [h2]
   try simp only [qB] at h2
   refine Qe fun K hK => Qh Z Z (QF Z Z Z (YN Z Z (Qb Z ?_)))
   refine Qw (g := 17) Z (fun h3 => ?_) (fun h3 => ?_)
   ·try rw [h3]
    try simp only [qB] at h3
    refine Qq Z (Qq Z (Qq Z (Qi Z Z (hK _ _ (Qa (kp3 Z Z Z) ?_)))))
    refine Zm Z (Qe fun K hK => Qh Z Z (QF Z Z Z (Qh Z Z (QF Z Z Z (Qz (ZI) Z Z (.inr Z) (Qb Z (hK _ _ (Qa (kp1 Z) ?_))))))))
    refine Qr (Qk (Qv Z ?_))
    (repeat clear hK K); first | (simp [Yw, h1, h2, h3]; done) | exact (Qat (by assumption) (by assumption) (by first | (left; assumption) | (right; assumption))).symm | (simp_all [Yw]; done)
   ·try rw [h3]
    try simp only [qB] at h3
    refine Qg Z (Qh Z Z (Qg Z (QF Z Z Z (Qg Z (YN Z Z (Qi Z Z (hK _ _ (Qa (kp3 Z Z Z) ?_))))))))
    refine QA Z (fun h4 => ?_) (fun h4 => ?_)
    ·try rw [h4]
     try simp only [qB] at h4
     refine Qe fun K hK => Qh Z Z (QF Z Z Z (Qh Z Z (QF Z Z Z (Qz (ZI) Z Z (.inr Z) (Qb Z (hK _ _ (Qa (kp1 Z) ?_)))))))
     refine Qr (Qk (Qv Z ?_))
     (repeat clear hK K); first | (simp [Yw, h1, h2, h3, h4]; done) | exact (Qat (by assumption) (by assumption) (by first | (left; assumption) | (right; assumption))).symm | (simp_all [Yw]; done)
    ·try rw [h4]
     try simp only [qB] at h4
     refine Qe fun K hK => Qh Z Z (QE (cs := [_, _, _, _, _]) Z Z Z Z (Qh Z Z (QE (cs := [_, _, _, _, _]) Z Z Z Z (Qz (QaO (by omega) (by omega) (by omega) (by omega)) Z Z (.inr Z) (Qb Z (hK _ _ (Qa (kp3 Z Z Z) ?_)))))))
     refine Qe fun K hK => Qb Z (YN Z Z (hK _ _ (Qa (kp4 Z Z Z Z) ?_)))
     refine QA Z (fun h5 => ?_) (fun h5 => ?_)
     ·try rw [h5]
      try simp only [qB] at h5
      refine Qe fun K hK => Qb Z (Qb Z (hK _ _ (Qa (kp1 Z) ?_)))
      refine Qr (Qk (Qv Z ?_))
      (repeat clear hK K); first | (simp [Yw, h1, h2, h3, h4, h5]; done) | exact (Qat (by assumption) (by assumption) (by first | (left; assumption) | (right; assumption))).symm | (simp_all [Yw]; done)
     ·try rw [h5]
      try simp only [qB] at h5
      refine Qe fun K hK => Qh Z Z (QF Z Z Z (Qh Z Z (QF Z Z Z (Ql9 Z Z (hK _ _ (Qa (kp2 Z Z) ?_))))))
      refine QA Z (fun h6 => ?_) (fun h6 => ?_)
      ·try rw [h6]
       try simp only [qB] at h6
       refine Qe fun K hK => Qb Z (hK _ _ (Qa (kp1 Z) ?_))
       refine Qr (Qk (Qv Z ?_))
       (repeat clear hK K); first | (simp [Yw, h1, h2, h3, h4, h5, h6]; done) | exact (Qat (by assumption) (by assumption) (by first | (left; assumption) | (right; assumption))).symm | (simp_all [Yw]; done)
      ·try rw [h6]
       try simp only [qB] at h6
       refine Qe fun K hK => Qh Z Z (QF Z Z Z (hK _ _ (Qa (kp1 Z) ?_)))
       refine QA Z (fun h7 => ?_) (fun h7 => ?_)
       ·try rw [h7]
        try simp only [qB] at h7
        refine Qe fun K hK => Qb Z (hK _ _ (Qa (kp1 Z) ?_))
        refine Qr (Qk (Qv Z ?_))
        (repeat clear hK K); first | (simp [Yw, h1, h2, h3, h4, h5, h6, h7]; done) | exact (Qat (by assumption) (by assumption) (by first | (left; assumption) | (right; assumption))).symm | (simp_all [Yw]; done)
       ·try rw [h7]
        try simp only [qB] at h7
        refine Qy (Qf (QV) (Qe fun K hK => Qb Z (hK _ _ (Qa (kp1 Z) ?_))))
        refine Qr (Qv Z ?_)
        (repeat clear hK K); first | (simp [Yw, h1, h2, h3, h4, h5, h6, h7]; done) | exact (Qat (by assumption) (by assumption) (by first | (left; assumption) | (right; assumption))).symm | (simp_all [Yw]; done)
theorem QeN {e a b c : Int} {p q : List UInt8} {f : Bool} (hp : p.length <= 1000000) (hq : q.length <= 1000000) {a' b' c' : Int} {p' q' : List UInt8} (hp' : p'.length <= 1000000) (hq' : q'.length <= 1000000) : Ok Tryd.prog 98 [.agg [.int .i64 e, .int .i64 a, .int .i64 b, .int .i64 c, .str p, .str q, .bool f], .agg [.int .i64 a', .int .i64 b', .int .i64 c', .str p', .str q']] (.bool (Yi e a b c p q f a' b' c' p' q')) := by
 refine Ok.ofT Z3 Tryd.func98 QrT (Nat.le_of_ble_eq_true Z) ?_
 show TW _ _ tf98.body _ _
 refine Qe fun K hK => ZL Z Z Z (ZL Z Z Z (Qb Z (hK _ _ (Qa (kp2 Z Z) ?_))))
 refine QH ?_ -- 0
 refine Qe fun K hK => QE (cs := [_, _, _, _, _, _, _]) Z Z Z Z (Qz (QbE (by omega) (by omega)) Z Z (.inr Z) (ZM Z (Qb Z ?_)))
 refine Qw (g := 9) Z (fun h1 => ?_) (fun h1 => ?_)
 ·try rw [h1]
  try simp only [qB] at h1
  refine Qq Z (Qq Z (Qq Z (Qi Z Z (hK _ _ (Qa (kp3 Z Z Z) ?_)))))
  refine Zm Z (Qe fun K hK => Qb Z (hK _ _ (Qa (kp1 Z) ?_)))
  refine Qr (Qk (Ql Z ?_))
  (repeat clear hK K); first | (simp [Yi, h1]; done) | (simp_all [Yi]; done)
 ·try rw [h1]
  try simp only [qB] at h1
  refine Qg Z (QE (cs := [_, _, _, _, _]) Z Z Z Z (Qg Z (Qz (YO (by omega) (by omega)) Z Z (.inr Z) (Qg Z (ZM Z (Qi Z Z (hK _ _ (Qa (kp3 Z Z Z) ?_))))))))
  refine QA Z (fun h2 => ?_) (fun h2 => ?_)
  ·try rw [h2]
   try simp only [qB] at h2
   refine Qe fun K hK => Qb Z (hK _ _ (Qa (kp1 Z) ?_))
   refine Qr (Qk (Ql Z ?_))
   (repeat clear hK K); first | (simp [Yi, h1, h2]; done) | (simp_all [Yi]; done)
  ·try rw [h2]
   try simp only [qB] at h2
   refine Qe fun K hK => Qh Z Z (QF Z Z Z (YN Z Z (hK _ _ (Qa (kp3 Z Z Z) ?_))))
   refine QA Z (fun h3 => ?_) (fun h3 => ?_)
   ·try rw [h3]
    try simp only [qB] at h3
    refine Qe fun K hK => Qh Z Z (QF Z Z Z (YM Z Z (Qb Z (hK _ _ (Qa (kp1 Z) ?_)))))
    refine Qr (Qk (Ql Z ?_))
    (repeat clear hK K); first | (simp [Yi, h1, h2, h3]; done) | (simp_all [Yi]; done)
   ·try rw [h3]
    try simp only [qB] at h3
    refine Qy (Qf (kp2 Z Z) (Qe fun K hK => Qh Z Z (QE (cs := [_, _, _, _, _]) Z Z Z Z (QE (cs := [_, _, _, _, _]) Z Z Z Z (Qz (QaO (by omega) (by omega) (by omega) (by omega)) Z Z (.inr Z) (Qb Z (hK _ _ (Qa (kp2 Z Z) ?_))))))))
    refine Qe fun K hK => Qb Z (YM Z Z (Qb Z ?_))
    refine Qw (g := 26) Z (fun h4 => ?_) (fun h4 => ?_)
    ·try rw [h4]
     try simp only [qB] at h4
     refine Qq Z (Qq Z (Qq Z (QG Z (QG Z (QG Z (Qq Z (Qi Z Z (Qb Z (hK _ _ (Qa (kp1 Z) ?_))))))))))
     refine Qr (Ql Z ?_)
     (repeat clear hK K); first | (simp [Yi, h1, h2, h3, h4]; done) | (simp_all [Yi]; done)
    ·try rw [h4]
     try simp only [qB] at h4
     refine Qg Z (Qb Z (Qg Z (YF Z Z (Qg Z (Qb Z ?_)))))
     refine Qw (g := 29) Z (fun h5 => ?_) (fun h5 => ?_)
     ·try rw [h5]
      try simp only [qB] at h5
      refine Qg Z (Qh Z Z (Qg Z (QF Z Z Z (Qg Z (ZM Z (Qg Z (Qi Z Z (Qi Z Z (Qb Z (hK _ _ (Qa (kp1 Z) ?_)))))))))))
      refine Qr (Ql Z ?_)
      (repeat clear hK K); first | (simp [Yi, h1, h2, h3, h4, h5]; done) | (simp_all [Yi]; done)
     ·try rw [h5]
      try simp only [qB] at h5
      refine Qq Z (Qq Z (Qq Z (Qg Z (Qi Z Z (Qi Z Z (Qb Z (hK _ _ (Qa (kp1 Z) ?_))))))))
      refine Qr (Ql Z ?_)
      (repeat clear hK K); first | (simp [Yi, h1, h2, h3, h4, h5]; done) | (simp_all [Yi]; done)
theorem Qc7 {e a b c : Int} {p q : List UInt8} {f : Bool} (hp : p.length <= 1000000) (hq : q.length <= 1000000) {e' a' b' c' : Int} {p' q' : List UInt8} {f' : Bool} (hp' : p'.length <= 1000000) (hq' : q'.length <= 1000000) : Ok Tryd.prog 93 [.agg [.int .i64 e, .int .i64 a, .int .i64 b, .int .i64 c, .str p, .str q, .bool f, .int .i64 e', .int .i64 a', .int .i64 b', .int .i64 c', .str p', .str q', .bool f']] (.bool (QbV e a b c p q f e' a' b' c' p' q' f')) := by
 refine Ok.ofT Z3 Tryd.func93 QrO (Nat.le_of_ble_eq_true Z) ?_
 show TW _ _ tf93.body _ _
 refine Qe fun K hK => ZL Z Z Z (Qb Z (hK _ _ (Qa (kp1 Z) ?_)))
 refine Qe fun K hK => Qh Z Z (QE (cs := [_, _, _, _, _, _, _]) Z Z Z Z (Qz (QbE (by omega) (by omega)) Z Z (.inr Z) (Qb Z ?_)))
 refine Qw (g := 6) Z (fun h1 => ?_) (fun h1 => ?_)
 ·try rw [h1]
  try simp only [qB] at h1
  refine Qg Z (Qh Z Z (Qg Z (QE (cs := [_, _, _, _, _, _, _]) Z Z Z Z (Qg Z (Qz (QbE (by omega) (by omega)) Z Z (.inr Z) (Qi Z Z (Qb Z ?_)))))))
  refine Qw (g := 11) Z (fun h2 => ?_) (fun h2 => ?_)
  ·try rw [h2]
   try simp only [qB] at h2
   refine Qg Z (Qh Z Z (Qg Z (QE (cs := [_, _, _, _, _, _, _]) Z Z Z Z (Qg Z (Qh Z Z (Qg Z (QE (cs := [_, _, _, _, _, _, _]) Z Z Z Z (Qg Z (Qz (Qc6 (by omega) (by omega) (by omega) (by omega)) Z Z (.inr Z) (Qg Z (YM Z Z ?_)))))))))))
   refine Qi Z Z (Qb Z (hK _ _ (Qa (kp1 Z) ?_)))
   refine Qr (Ql Z ?_)
   (repeat clear hK K); first | (simp [QbV, h1, h2]; done) | (simp_all [QbV]; done)
  ·try rw [h2]
   try simp only [qB] at h2
   refine Qq Z (Qq Z (Qq Z (Qq Z (Qq Z (Qq Z (Qi Z Z (Qb Z (hK _ _ (Qa (kp1 Z) ?_)))))))))
   refine Qr (Ql Z ?_)
   (repeat clear hK K); first | (simp [QbV, h1, h2]; done) | (simp_all [QbV]; done)
 ·try rw [h1]
  try simp only [qB] at h1
  refine Qq Z (Qq Z (Qq Z (Qi Z Z (Qb Z (Qq Z (Qq Z (Qq Z (Qq Z (Qq Z (Qq Z (Qi Z Z ?_)))))))))))
  refine Qb Z (hK _ _ (Qa (kp1 Z) ?_))
  refine Qr (Ql Z ?_)
  (repeat clear hK K); first | (simp [QbV, h1]; done) | (simp_all [QbV]; done)
theorem Qiy {e a b c : Int} {p q : List UInt8} {f : Bool} (hp : p.length <= 1000000) (hq : q.length <= 1000000) {e' a' b' c' : Int} {p' q' : List UInt8} {f' : Bool} (hp' : p'.length <= 1000000) (hq' : q'.length <= 1000000) {x y z : Int} {r s : List UInt8} (hr : r.length <= 1000000) (hs : s.length <= 1000000) : Ok Tryd.prog 82 [.agg [.int .i64 e, .int .i64 a, .int .i64 b, .int .i64 c, .str p, .str q, .bool f, .int .i64 e', .int .i64 a', .int .i64 b', .int .i64 c', .str p', .str q', .bool f'], .agg [.int .i64 x, .int .i64 y, .int .i64 z, .str r, .str s]] (.bool (Xp e a b c p q f e' a' b' c' p' q' f' x y z r s)) := by
 refine Ok.ofT Z3 Tryd.func82 QrD (Nat.le_of_ble_eq_true Z) ?_
 show TW _ _ tf82.body _ _
 refine Qe fun K hK => ZL Z Z Z (ZL Z Z Z (Qb Z (hK _ _ (Qa (kp2 Z Z) ?_))))
 refine Qe fun K hK => QE (cs := [_, _, _, _, _, _, _, _, _, _, _, _, _, _]) Z Z Z Z (Qz (Qc7 (by omega) (by omega) (by omega) (by omega)) Z Z (.inr Z) (Qb Z ?_))
 refine Qw (g := 7) Z (fun h1 => ?_) (fun h1 => ?_)
 ·try rw [h1]
  try simp only [qB] at h1
  refine Qg Z (QE (cs := [_, _, _, _, _]) Z Z Z Z (Qg Z (Qz (YO (by omega) (by omega)) Z Z (.inr Z) (Qi Z Z (Qb Z ?_)))))
  refine Qw (g := 11) Z (fun h2 => ?_) (fun h2 => ?_)
  ·try rw [h2]
   try simp only [qB] at h2
   refine Qg Z (Qh Z Z (Qg Z (QE (cs := [_, _, _, _, _, _, _]) Z Z Z Z (Qg Z (QE (cs := [_, _, _, _, _]) Z Z Z Z (Qg Z (Qz (QeN (by omega) (by omega) (by omega) (by omega)) Z Z (.inr Z) (Qi Z Z (Qb Z ?_)))))))))
   refine Qw (g := 17) Z (fun h3 => ?_) (fun h3 => ?_)
   ·try rw [h3]
    try simp only [qB] at h3
    refine Qg Z (Qh Z Z (Qg Z (QE (cs := [_, _, _, _, _, _, _]) Z Z Z Z (Qg Z (QE (cs := [_, _, _, _, _]) Z Z Z Z (Qg Z (Qz (QeN (by omega) (by omega) (by omega) (by omega)) Z Z (.inr Z) (Qg Z (ZM Z (Qi Z Z (Qb Z ?_)))))))))))
    refine hK _ _ (Qa (kp1 Z) ?_)
    refine Qr (Ql Z ?_)
    (repeat clear hK K); first | (simp [Xp, h1, h2, h3]; done) | (simp_all [Xp]; done)
   ·try rw [h3]
    try simp only [qB] at h3
    refine Qq Z (Qq Z (Qq Z (Qq Z (Qq Z (Qi Z Z (Qb Z (hK _ _ (Qa (kp1 Z) ?_))))))))
    refine Qr (Ql Z ?_)
    (repeat clear hK K); first | (simp [Xp, h1, h2, h3]; done) | (simp_all [Xp]; done)
  ·try rw [h2]
   try simp only [qB] at h2
   refine Qq Z (Qq Z (Qq Z (Qq Z (Qi Z Z (Qb Z (Qq Z (Qq Z (Qq Z (Qq Z (Qq Z (Qi Z Z ?_)))))))))))
   refine Qb Z (hK _ _ (Qa (kp1 Z) ?_))
   refine Qr (Ql Z ?_)
   (repeat clear hK K); first | (simp [Xp, h1, h2]; done) | (simp_all [Xp]; done)
 ·try rw [h1]
  try simp only [qB] at h1
  refine Qq Z (Qq Z (Qi Z Z (Qb Z (Qq Z (Qq Z (Qq Z (Qq Z (Qi Z Z (Qb Z (Qq Z (Qq Z ?_)))))))))))
  refine Qq Z (Qq Z (Qq Z (Qi Z Z (Qb Z (hK _ _ (Qa (kp1 Z) ?_))))))
  refine Qr (Ql Z ?_)
  (repeat clear hK K); first | (simp [Xp, h1]; done) | (simp_all [Xp]; done)
end Go.Proofs
namespace M3
open Go Go.Abs
end M3
namespace M3
open Go Go.Abs
end M3
namespace M3
open Go Go.Abs
end M3
namespace M25
open Go Go.Abs M3
def Qd7 (a b c : Int) : Bool := decide (a = 0) && decide (b = 0) && decide (c = 0)
def X3 (a b c : Int) (p q : List UInt8) (part : Int) : Option (Int × Int × Int) :=
 if Qbj a b c p q = false \/ part < 0 \/ 2 < part then none
 else
  let o := if part = 0 then (a + 1, 0, 0) else if part = 1 then (a, b + 1, 0) else (a, b, c + 1)
  if Qbj o.1 o.2.1 o.2.2 [] [] = true then some o else none
def dOV (o : Option (Int × Int × Int)) : D := .tup [.agg [.int .i64 (o.getD (0, 0, 0)).1, .int .i64 (o.getD (0, 0, 0)).2.1, .int .i64 (o.getD (0, 0, 0)).2.2, .str [], .str []], .bool o.isSome]
def XG (a b c : Int) (p q : List UInt8) : Nat -> Option (Int × Int × Int)
 | 0 => none
 | n + 1 => if (X3 a b c p q n).isSome = true then X3 a b c p q n else XG a b c p q n
def QhZ (a b c : Int) (p q : List UInt8) : Option (Int × Int × Int) :=
 if Qbj a b c p q = false then none else if p ≠ [] then some (a, b, c) else XG a b c p q 3
theorem Qce {a b c : Int} {p q : List UInt8} (h : Qbj a b c p q = true) : (0 <= a /\ a <= 9999) /\ (0 <= b /\ b <= 9999) /\ (0 <= c /\ c <= 9999) := by
 simp only [Qbj, QfH, Bool.and_eq_true, decide_eq_true_eq] at h
 omega
theorem Qix {a b c : Int} {p q : List UInt8} {m : Nat} (hm : 0 < m) (h : (X3 a b c p q ((m : Int) - 1)).isSome = false) : XG a b c p q m = XG a b c p q (m - 1) := by
 obtain ⟨n, rfl⟩ : ∃ n, m = n + 1 := ⟨m - 1, by omega⟩
 rw [show ((n + 1 : Nat) : Int) - 1 = (n : Int) by omega] at h
 rw [XG, if_neg (by rw [h]; simp)]; rfl
theorem Qhx {a b c : Int} {p q : List UInt8} {m : Nat} (hm : 0 < m) (h : (X3 a b c p q ((m : Int) - 1)).isSome = true) : XG a b c p q m = X3 a b c p q ((m : Int) - 1) := by
 obtain ⟨n, rfl⟩ : ∃ n, m = n + 1 := ⟨m - 1, by omega⟩
 rw [show ((n + 1 : Nat) : Int) - 1 = (n : Int) by omega] at h ⊢
 rw [XG, if_pos h]
def dCu (x : Cu) : List D := [.int .i64 x.e, .int .i64 x.a, .int .i64 x.b, .int .i64 x.c, .str x.p, .str x.q, .bool x.f]
def Qee (s : Cu × Cu) : List D := dCu s.1 ++ dCu s.2
def Q8 (l : List (Cu × Cu)) : D := .sl (l.map Qee)
def Qdh (s : List (Cu × Cu) × List (Cu × Cu)) : D := .agg [Q8 s.1, Q8 s.2]
def Qcx : Cu := ⟨-1, 0, 0, 0, [], [], false⟩
def QfG : Cu := ⟨1, 0, 0, 0, [], [], false⟩
def Qff (a b c : Int) : Cu := if Qd7 a b c = true then Qcx else ⟨0, a, b, c, [], [], false⟩
def Qds (a b c : Int) : Cu := match QhZ a b c [] [] with
 | none => QfG
 | some o => ⟨0, o.1, o.2.1, o.2.2, [], [], false⟩
def YJ (a b c : Int) (p q : List UInt8) : List (Cu × Cu) × List (Cu × Cu) :=
 if Qbj a b c p q = false then ([], []) else if p ≠ [] then ([], [(⟨0, a, b, c, p, [], false⟩, ⟨0, a, b, c, p, [], true⟩)]) else ([(Qff a b c, Qds a b c)], [])
def Qd8 (e a b c : Int) (p q : List UInt8) (f : Bool) : Bool := !decide (e = 0) || (!f && decide (p = []) && !Qd7 a b c)
def Cu.sm (x : Cu) : Prop := x.p.length <= 1000000 /\ x.q.length <= 1000000
def Sm (l : List (Cu × Cu)) : Prop := l.length <= 1000000 /\ ∀ s ∈ l, Cu.sm s.1 /\ Cu.sm s.2
theorem Sm.at {l : List (Cu × Cu)} (h : Sm l) {i : Nat} (hi : i < l.length) : (l[i].1.p.length <= 1000000 /\ l[i].1.q.length <= 1000000) /\ (l[i].2.p.length <= 1000000 /\ l[i].2.q.length <= 1000000) := h.2 _ (List.getElem_mem hi)
def QcC (s : Cu × Cu) : Bool := QbV s.1.e s.1.a s.1.b s.1.c s.1.p s.1.q s.1.f s.2.e s.2.a s.2.b s.2.c s.2.p s.2.q s.2.f
def Qbi (x y : Cu) : Int := Yw x.e x.a x.b x.c x.p x.q x.f y.e y.a y.b y.c y.p y.q y.f
def Qof (l : List (Cu × Cu)) (i : Nat) : Bool := match l[i]? with
 | none => true
 | some s => QcC s && (decide (i = 0) || match l[i - 1]? with | none => true | some r => decide (Qbi r.2 s.1 < 0))
theorem QiR {l : List (Cu × Cu)} {i : Nat} (h : i < l.length) : Qof l i = (QcC l[i] && (decide (i = 0) || decide (Qbi (l[i - 1]'(by omega)).2 l[i].1 < 0))) := by
 unfold Qof
 rw [List.getElem?_eq_getElem h, List.getElem?_eq_getElem (show i - 1 < l.length by omega)]
theorem QjQ {l : List (Cu × Cu)} {i : Nat} (h : i < l.length) (h1 : QcC l[i] = true) (h2 : i = 0 \/ Qbi (l[i - 1]'(by omega)).2 l[i].1 < 0) : Qof l i = true := by
 rw [QiR h, h1]; simpa using h2
theorem Qbs {l : List (Cu × Cu)} {i : Nat} (h : i < l.length) (h1 : QcC l[i] = false \/ (i ≠ 0 /\ 0 <= Qbi (l[i - 1]'(by omega)).2 l[i].1)) : Qof l i = false := by
 rw [QiR h]
 rcases h1 with h1 | ⟨h1, h2⟩
 ·rw [h1]; rfl
 ·simp only [Bool.and_eq_false_iff, Bool.or_eq_false_iff, decide_eq_false_iff_not]
  exact .inr ⟨h1, by omega⟩
def Qbw (l : List (Cu × Cu)) : Bool := (List.range l.length).all (Qof l)
theorem Y9 {n i : Nat} {p : Nat -> Bool} (h : i < n) (hp : p i = false) : (List.range n).all p = false := by
 rw [Bool.eq_false_iff]; intro ha
 rw [List.all_eq_true] at ha
 rw [ha i (List.mem_range.2 h)] at hp; cases hp
theorem Qey {i : Nat} {p : Nat -> Bool} (h : (List.range i).all p = true) (hp : p i = true) : (List.range (i + 1)).all p = true := by
 rw [List.range_succ, List.all_append, h]; simp [hp]
theorem Qcg {i : Nat} {p : Nat -> Bool} {n : Nat} (h : (List.range i).all p = true) (hn : n <= i) : (List.range n).all p = true := by
 rw [List.all_eq_true] at h ⊢
 exact fun x hx => h x (List.mem_range.2 (Nat.lt_of_lt_of_le (List.mem_range.1 hx) hn))
def Qfh (s : Cu × Cu) (a b c : Int) (p q : List UInt8) : Bool := Xp s.1.e s.1.a s.1.b s.1.c s.1.p s.1.q s.1.f s.2.e s.2.a s.2.b s.2.c s.2.p s.2.q s.2.f a b c p q
def QfI (l : List (Cu × Cu)) (a b c : Int) (p q : List UInt8) : Bool := Qbw l && l.any fun s => Qfh s a b c p q
theorem Qb9 {l : List (Cu × Cu)} {a b c : Int} {p q : List UInt8} {i : Nat} (hi : l.length <= i) (h : (l.take i).any (fun s => Qfh s a b c p q) = false) : QfI l a b c p q = false := by
 rw [List.take_of_length_le hi] at h; rw [QfI, h, Bool.and_false]
theorem Qca {l : List (Cu × Cu)} {a b c : Int} {p q : List UInt8} (h : Qbw l = false) : QfI l a b c p q = false := by rw [QfI, h]; rfl
theorem Qcb {l : List (Cu × Cu)} {a b c : Int} {p q : List UInt8} {i : Nat} (h : Qbw l = true) (hi : i < l.length) (hp : Qfh l[i] a b c p q = true) : QfI l a b c p q = true := by
 rw [QfI, h, Bool.true_and]; exact List.any_eq_true.2 ⟨_, List.getElem_mem hi, hp⟩
def inC (x y : Cu) (s : Cu × Cu) : Bool := decide (Qbi s.1 x <= 0) && decide (Qbi y s.2 <= 0)
theorem Qpd {x y : Cu} {s : Cu × Cu} (h1 : Qbi s.1 x <= 0) (h2 : Qbi y s.2 <= 0) : inC x y s = true := by simp [inC, h1, h2]
theorem Qpc {x y : Cu} {s : Cu × Cu} (h : ¬ Qbi s.1 x <= 0 \/ ¬ Qbi y s.2 <= 0) : inC x y s = false := by
 simp only [inC, Bool.and_eq_false_iff, decide_eq_false_iff_not]; exact h
def mIn (l : List (Cu × Cu)) (x y : Cu) : Bool := l.any (inC x y)
theorem QkC {α : Type} {s : List α} {p : α -> Bool} {i : Nat} (h : i < s.length) (hp : p s[i] = true) : s.any p = true := List.any_eq_true.2 ⟨_, List.getElem_mem h, hp⟩
theorem Qnb {α : Type} {s : List α} {p : α -> Bool} {i : Nat} (hi : s.length <= i) (h : (s.take i).any p = false) : s.any p = false := by rwa [List.take_of_length_le hi] at h
theorem Qjj {α : Type} {s : List α} {p : α -> Bool} {i : Nat} (h : i < s.length) (ha : (s.take i).any p = false) (hp : p s[i] = false) : (s.take (i + 1)).any p = false := by
 rw [List.take_succ_eq_append_getElem h, List.any_append, ha]; simp [hp]
def Xh (x : Cu) : Bool := Qd8 x.e x.a x.b x.c x.p x.q x.f
def QcP (s : List (Cu × Cu) × List (Cu × Cu)) : Bool := Qbw s.1 && Qbw s.2 && s.1.all fun x => Xh x.1 && Xh x.2
def Qfg (s : List (Cu × Cu) × List (Cu × Cu)) (a b c : Int) (p q : List UInt8) : Bool :=
 QcP s && Qbj a b c p q && (if p = [] then QfI s.1 a b c p q else QfI s.2 a b c p q)
theorem QaH {s : List (Cu × Cu) × List (Cu × Cu)} (h : Qbw s.1 = false \/ Qbw s.2 = false) : QcP s = false := by
 rw [QcP]; rcases h with h | h <;> simp [h]
theorem Qaf {s : List (Cu × Cu) × List (Cu × Cu)} {i : Nat} (hi : i < s.1.length) (h : Xh s.1[i].1 = false \/ Xh s.1[i].2 = false) : QcP s = false := by
 have : (s.1.all fun x => Xh x.1 && Xh x.2) = false := Yl hi (by rcases h with h | h <;> simp [h])
 rw [QcP, this, Bool.and_false]
theorem Qdv {s : List (Cu × Cu) × List (Cu × Cu)} {i : Nat} (h1 : Qbw s.1 = true) (h2 : Qbw s.2 = true) (hi : s.1.length <= i) (h : (s.1.take i).all (fun x => Xh x.1 && Xh x.2) = true) : QcP s = true := by
 rw [List.take_of_length_le hi] at h
 rw [QcP, h1, h2, h]; rfl
def Qgy (l : List Cu) : D := .sl (l.map dCu)
theorem Qib {l : List Cu} : ∀ r ∈ l.map dCu, r.length = 7 := fun r hr => by obtain ⟨x, _, rfl⟩ := List.mem_map.1 hr; rfl
theorem QmY {l : List Cu} {a b : Nat} : ∀ r ∈ ((l.map dCu).take a).drop b, r.length = 7 := fun r hr => Qib r (List.mem_of_mem_take (List.mem_of_mem_drop hr))
def QbU : List Cu -> Cu -> List Cu
 | [], c => [c]
 | x :: r, c => if Qbi x c < 0 then x :: QbU r c else if Qbi x c = 0 then x :: r else c :: x :: r
theorem Qlu {l : List Cu} {c : Cu} {k : Nat} (hk : k < l.length) (h : Qbi l[k] c < 0) (hi : QbU l c = l.take k ++ QbU (l.drop k) c) : QbU l c = l.take (k + 1) ++ QbU (l.drop (k + 1)) c := by
 rw [hi, List.drop_eq_getElem_cons hk, QbU, if_pos h, List.take_succ_eq_append_getElem hk, List.append_assoc]; rfl
theorem Qlt {l : List Cu} {c : Cu} {k : Nat} (hk : k < l.length) (h : Qbi l[k] c = 0) (hi : QbU l c = l.take k ++ QbU (l.drop k) c) : QbU l c = l := by
 rw [hi, List.drop_eq_getElem_cons hk, QbU, if_neg (by omega), if_pos h, <- List.drop_eq_getElem_cons hk, List.take_append_drop]
theorem QjL {l : List Cu} {c : Cu} {k : Nat} (h : l.length <= k \/ ∃ hk : k < l.length, ¬ Qbi l[k] c < 0 /\ Qbi l[k] c ≠ 0) (hi : QbU l c = l.take k ++ QbU (l.drop k) c) : QbU l c = l.take k ++ c :: l.drop k := by
 rw [hi]
 rcases h with h | ⟨hk, h1, h2⟩
 ·rw [List.drop_eq_nil_of_le h, QbU]
 ·rw [List.drop_eq_getElem_cons hk, QbU, if_neg h1, if_neg h2]
theorem Qes : ∀ (l : List Cu) (c : Cu), (QbU l c).length <= l.length + 1
 | [], c => by simp [QbU]
 | x :: r, c => by
  have := Qes r c
  simp only [QbU]
  (repeat' split) <;> simp <;> omega
theorem QgU : ∀ {l : List Cu} {c : Cu}, (∀ x ∈ l, Cu.sm x) -> Cu.sm c -> ∀ x ∈ QbU l c, Cu.sm x
 | [], c, _, hc, x, hx => by simp [QbU] at hx; exact hx ▸ hc
 | y :: r, c, hl, hc, x, hx => by
  simp only [QbU] at hx
  split at hx
  ·rcases List.mem_cons.1 hx with rfl | hx
   ·exact hl _ (by simp)
   ·exact QgU (fun z hz => hl z (by simp [hz])) hc x hx
  ·split at hx
   ·exact hl x hx
   ·rcases List.mem_cons.1 hx with rfl | hx
    ·exact hc
    ·exact hl x hx
def YU (l : List (Cu × Cu)) : List Cu := l.foldl (fun out s => QbU (QbU out s.1) s.2) [Qcx, QfG]
theorem QmK {l : List (Cu × Cu)} {i : Nat} (h : i < l.length) : YU (l.take (i + 1)) = QbU (QbU (YU (l.take i)) l[i].1) l[i].2 := by
 rw [List.take_succ_eq_append_getElem h, YU, List.foldl_append]; rfl
theorem Qga : ∀ (l : List (Cu × Cu)) (out : List Cu), (l.foldl (fun out s => QbU (QbU out s.1) s.2) out).length <= out.length + 2 * l.length
 | [], out => by simp
 | s :: l, out => by
  have h1 := Qes out s.1
  have h2 := Qes (QbU out s.1) s.2
  have := Qga l (QbU (QbU out s.1) s.2)
  simp only [List.foldl_cons, List.length_cons]; omega
theorem QbR (l : List (Cu × Cu)) : (YU l).length <= 2 + 2 * l.length := Qga l _
theorem QhV : ∀ {l : List (Cu × Cu)} {out : List Cu}, (∀ s ∈ l, Cu.sm s.1 /\ Cu.sm s.2) -> (∀ x ∈ out, Cu.sm x) -> ∀ x ∈ l.foldl (fun out s => QbU (QbU out s.1) s.2) out, Cu.sm x
 | [], _, _, h => h
 | s :: l, out, hl, h => by
  rw [List.foldl_cons]
  exact QhV (fun t ht => hl t (by simp [ht])) (QgU (QgU h (hl s (by simp)).1) (hl s (by simp)).2)
theorem QjJ {l : List (Cu × Cu)} (hl : ∀ s ∈ l, Cu.sm s.1 /\ Cu.sm s.2) : ∀ x ∈ YU l, Cu.sm x := QhV hl (by
 intro x hx
 simp only [List.mem_cons, List.not_mem_nil, or_false] at hx
 rcases hx with rfl | rfl <;> exact ⟨Nat.zero_le _, Nat.zero_le _⟩)
theorem Qer {l : List (Cu × Cu)} (hl : Sm l) (i : Nat) : (YU (l.take i)).length <= 2000002 /\ ∀ x ∈ YU (l.take i), Cu.sm x := by
 refine ⟨?_, QjJ fun s hs => hl.2 s (List.mem_of_mem_take hs)⟩
 have := QbR (l.take i)
 have h2 : (l.take i).length <= l.length := List.length_take_le' ..
 have := hl.1
 omega
def QbT (l : List (Cu × Cu)) (x y : Cu) : List (Cu × Cu) := match l.getLast? with
 | some s => if Qbi s.2 x = 0 then l.dropLast ++ [(s.1, y)] else l ++ [(x, y)]
 | none => l ++ [(x, y)]
theorem QhX {l : List (Cu × Cu)} {x y : Cu} {i : Nat} (hi : i + 1 = l.length) (h : Qbi (l[i]'(by omega)).2 x = 0) : QbT l x y = l.set i ((l[i]'(by omega)).1, y) := by
 have hg : l.getLast? = some (l[i]'(by omega)) := by
  rw [List.getLast?_eq_getElem?, show l.length - 1 = i by omega, List.getElem?_eq_getElem]
 rw [QbT, hg]
 simp only [h, if_true]
 rw [List.dropLast_eq_take, show l.length - 1 = i by omega, List.set_eq_take_append_cons_drop, if_pos (by omega), List.drop_eq_nil_of_le (by omega)]
theorem Qdt {l : List (Cu × Cu)} {x y : Cu} (h : l = [] \/ ∃ i, ∃ hi : i + 1 = l.length, Qbi (l[i]'(by omega)).2 x ≠ 0) : QbT l x y = l ++ [(x, y)] := by
 rcases h with rfl | ⟨i, hi, h⟩
 ·rfl
 ·have hg : l.getLast? = some (l[i]'(by omega)) := by
   rw [List.getLast?_eq_getElem?, show l.length - 1 = i by omega, List.getElem?_eq_getElem]
  rw [QbT, hg]
  simp only [if_neg h]
theorem QhY (l : List (Cu × Cu)) (x y : Cu) : (QbT l x y).length <= l.length + 1 := by
 unfold QbT
 split
 ·split
  ·simp
  ·simp
 ·simp
theorem QjK {l : List (Cu × Cu)} {x y : Cu} (hl : ∀ s ∈ l, Cu.sm s.1 /\ Cu.sm s.2) (hx : Cu.sm x) (hy : Cu.sm y) : ∀ s ∈ QbT l x y, Cu.sm s.1 /\ Cu.sm s.2 := by
 intro s hs
 unfold QbT at hs
 split at hs
 ·rename_i t ht
  have ht' := List.mem_of_getLast? ht
  split at hs
  ·rcases List.mem_append.1 hs with hs | hs
   ·exact hl s (List.dropLast_subset _ hs)
   ·simp at hs; subst hs; exact ⟨(hl t ht').1, hy⟩
  ·rcases List.mem_append.1 hs with hs | hs
   ·exact hl s hs
   ·simp at hs; subst hs; exact ⟨hx, hy⟩
 ·rcases List.mem_append.1 hs with hs | hs
  ·exact hl s hs
  ·simp at hs; subst hs; exact ⟨hx, hy⟩
theorem QjC {α β : Type} {l : List α} {f : α -> β} {i : Nat} (h : i + 1 < l.length) : (l.map f)[((i : Int) + 1).toNat]? = some (f l[i + 1]) := by
 rw [show ((i : Int) + 1).toNat = i + 1 by omega, List.getElem?_map, List.getElem?_eq_getElem h]; rfl
def QbS (f : Cu -> Cu -> Bool) : List Cu -> List (Cu × Cu) -> List (Cu × Cu)
 | x :: y :: r, out => QbS f (y :: r) (if f x y = true then QbT out x y else out)
 | _, out => out
def QiP (l : List (Cu × Cu)) : List (Cu × Cu) := if l.all QcC = true then QbS (mIn l) (YU l) [] else []
theorem Qgb {f : Cu -> Cu -> Bool} {c : List Cu} {out : List (Cu × Cu)} {i : Nat} (h : i + 1 < c.length) : QbS f (c.drop i) out = QbS f (c.drop (i + 1)) (if f c[i] c[i + 1] = true then QbT out c[i] c[i + 1] else out) := by
 rw [List.drop_eq_getElem_cons (show i < c.length by omega), List.drop_eq_getElem_cons h, QbS]
theorem Qlr {f : Cu -> Cu -> Bool} {c : List Cu} {out : List (Cu × Cu)} {i : Nat} (h : c.length <= i + 1) : QbS f (c.drop i) out = out := by
 have : (c.drop i).length <= 1 := by simp; omega
 match hd : c.drop i with
 | [] => rfl
 | [x] => rfl
 | x :: y :: r => rw [hd] at this; simp at this
def FillI (f : Cu -> Cu -> Bool) (c : List Cu) (i : Nat) (out : List (Cu × Cu)) : Prop :=
 out.length <= i /\ (∀ s ∈ out, Cu.sm s.1 /\ Cu.sm s.2) /\ QbS f c [] = QbS f (c.drop i) out
theorem FillI.zero {f : Cu -> Cu -> Bool} {c : List Cu} : FillI f c 0 [] := ⟨Nat.zero_le _, by simp, by simp⟩
theorem FillI.take {f : Cu -> Cu -> Bool} {c : List Cu} {i : Nat} {out : List (Cu × Cu)} (h : FillI f c i out) (hc : ∀ x ∈ c, Cu.sm x) (hi : i + 1 < c.length) (ht : f c[i] c[i + 1] = true) : FillI f c (i + 1) (QbT out c[i] c[i + 1]) := by
 obtain ⟨h1, h2, h3⟩ := h
 refine ⟨Nat.le_trans (QhY ..) (by omega), QjK h2 (hc _ (List.getElem_mem _)) (hc _ (List.getElem_mem _)), ?_⟩
 rw [h3, Qgb hi, if_pos ht]
theorem FillI.skip {f : Cu -> Cu -> Bool} {c : List Cu} {i : Nat} {out : List (Cu × Cu)} (h : FillI f c i out) (hi : i + 1 < c.length) (ht : f c[i] c[i + 1] = false) : FillI f c (i + 1) out := by
 obtain ⟨h1, h2, h3⟩ := h
 exact ⟨by omega, h2, by rw [h3, Qgb hi, if_neg (by rw [ht]; simp)]⟩
theorem FillI.done {f : Cu -> Cu -> Bool} {c : List Cu} {i : Nat} {out : List (Cu × Cu)} (h : FillI f c i out) (hi : c.length <= i + 1) : QbS f c [] = out := by rw [h.2.2, Qlr hi]
theorem QpD {i : Nat} : ((i : Int) + 1).toNat = i + 1 := by omega
theorem Yx {l : List (Cu × Cu)} (hl : Sm l) : ∀ x ∈ YU l, Cu.sm x := QjJ hl.2
def Qnn (a b : List (Cu × Cu)) : List (Cu × Cu) := if Qbw a = true /\ Qbw b = true then QiP (a ++ b) else []
def QiQ (a : List (Cu × Cu)) : List (Cu × Cu) := if Qbw a = true then QbS (fun x y => !mIn a x y) (YU a) [] else []
theorem Qnr {l : List (Cu × Cu)} : ∀ r ∈ l.map Qee, r.length = 14 := fun r hr => by obtain ⟨x, _, rfl⟩ := List.mem_map.1 hr; rfl
theorem Sm.app {a b : List (Cu × Cu)} (ha : Sm a) (hb : Sm b) (h : a.length + b.length <= 1000000) : Sm (a ++ b) := by
 refine ⟨by simp; omega, fun s hs => ?_⟩
 rcases List.mem_append.1 hs with hs | hs
 ·exact ha.2 s hs
 ·exact hb.2 s hs
theorem Qp3 {H : List (Nat × Box)} {S : Nat -> Bool} {k n : Nat} {b : Box} (hS : S k = true) (hb : lk H k = some b) (hp : b.pr = true) (hn : n = b.rows.length) : (D.osl k n).fz H S = .sl b.rows := by
 simp only [D.fz, D.fzS, hS, hb, if_true, hp, hn, and_self]
abbrev Qec := List (Cu × Cu) × List (Cu × Cu)
def QmN (a b : Qec) : Qec := if QcP a = true /\ QcP b = true then (Qnn a.1 b.1, Qnn a.2 b.2) else ([], [])
def QdS (a : Qec) : Qec := if QcP a = true then (QiQ a.1, QiQ a.2) else ([], [])
def mPl (v n : Int) : Int := if n < 1 then 0 else Qfi v n
theorem Qge {v n : Int} : 0 <= mPl v n := by
 unfold mPl; split
 ·omega
 ·exact QmT (by omega)
theorem Qgd {v n : Int} (h : 1 <= n) : mPl v n < n := by
 rw [mPl, if_neg (by omega)]; exact QmS (by omega)
def Qks (l : List Int) (i : Int) : Int := if i < 0 \/ (l.length : Int) <= i then i.tmod 3 else l.getD i.toNat 0
theorem Qlq {l : List Int} {i : Int} (h0 : 0 <= i) (h : i < l.length) : Qks l i = l[i.toNat]'(by omega) := by
 rw [Qks, if_neg (by omega), List.getD_eq_getElem?_getD, List.getElem?_eq_getElem (by omega)]; rfl
def I64 (x : Int) : Prop := -9223372036854775808 <= x /\ x <= 9223372036854775807
theorem QmJ {l : List Int} {i : Int} (hl : ∀ x ∈ l, I64 x) (hi : I64 i) : I64 (Qks l i) := by
 by_cases h : i < 0 \/ (l.length : Int) <= i
 ·rw [Qks, if_pos h]
  have h1 := Int.tmod_lt_of_pos i (show (0 : Int) < 3 by omega)
  have h2 := Int.lt_tmod_of_pos i (show (0 : Int) < 3 by omega)
  exact ⟨by omega, by omega⟩
 ·rw [Qlq (by omega) (by omega)]
  exact hl _ (List.getElem_mem _)
theorem Qfy (x : Int) : I64 (IntKind.i64.wrap x) := by
 unfold IntKind.wrap I64
 simp only [IntKind.bits, IntKind.signed, Bool.true_and]
 split
 ·rename_i h
  have := of_decide_eq_true h
  omega
 ·rename_i h
  have : ¬ (x % 2 ^ 64 >= 2 ^ (64 - 1)) := fun hh => h (decide_eq_true hh)
  omega
theorem QdR {α : Type} {k : Nat} {v : α} {l : List (Nat × α)} : lk ((k, v) :: l) k = some v := by rw [Qn, if_pos rfl]
theorem Qeq {α : Type} {k : Nat} {v : α} {l : List (Nat × α)} : (lk ((k, v) :: l) k).isSome = true := by rw [QdR]; rfl
def gB (L : List Int) (I : Int) (et : Nat) : Box := ⟨[[ZJ L, .int .i64 I]], 2, et, true⟩
def nxI (I : Int) : Int := IntKind.i64.wrap (I + 1)
def nx (L : List Int) (I n : Int) : Int := mPl (Qks L (IntKind.i64.wrap (nxI I - 1))) n
def Qh1 (h m : Int) : Int := if Qbd .and .i64 h m = h then 2 else if Qbd .and .i64 h m = 0 then 0 else 1
def QgW (h m : Int) : Int := if Qbd .andNot .i64 h m = 0 then 2 else if Qbd .and .i64 h m = 0 then 0 else 1
theorem QlA {i : Nat} (h : i <= 62) : 1 <= (2 : Int) ^ i /\ (2 : Int) ^ i <= 4611686018427387904 := by
 have h1 : (2 : Nat) ^ i <= 2 ^ 62 := Nat.pow_le_pow_right (by omega) h
 have h2 : 1 <= (2 : Nat) ^ i := Nat.one_le_two_pow
 have h3 : ((2 ^ i : Nat) : Int) = (2 : Int) ^ i := by simp
 rw [<- h3]
 have h4 : (2 : Nat) ^ 62 = 4611686018427387904 := by decide
 omega
structure Vr where
 a : Int
 b : Int
 c : Int
 p : List UInt8
 q : List UInt8
def dVr (v : Vr) : List D := [.int .i64 v.a, .int .i64 v.b, .int .i64 v.c, .str v.p, .str v.q]
def Vr.sm (v : Vr) : Prop := v.p.length <= 100 /\ v.q.length <= 100
def versions : List Vr := [⟨1, 0, 0, [], []⟩, ⟨1, 2, 0, [], []⟩, ⟨2, 0, 0, [97, 46, 49], []⟩, ⟨2, 0, 0, [], []⟩]
theorem Qi7 : ∀ v ∈ versions, v.sm := by
 intro v hv
 simp only [versions, List.mem_cons, List.not_mem_nil, or_false] at hv
 rcases hv with rfl | rfl | rfl | rfl <;> exact ⟨by decide, by decide⟩
theorem XI {i : Nat} : ((i : Int) - 1).toNat = i - 1 := by omega
end M25
namespace Go.Proofs
open Go Go.Abs M3 M25
set_option linter.unusedVariables false
set_option linter.unusedSimpArgs false
theorem X8 {a b c : Int} {p q : List UInt8} : Ok Tryd.prog 71 [.agg [.int .i64 a, .int .i64 b, .int .i64 c, .str p, .str q]] (.agg [.int .i64 a, .int .i64 b, .int .i64 c, .str p, .str []]) := by
 refine Ok.ofT Z3 Tryd.func71 Qrs (Nat.le_of_ble_eq_true Z) ?_
 show TW _ _ tf71.body _ _
 refine Qe fun K hK => ZL Z Z Z (Zy Z (hK _ _ (Qa (kp2 Z Z) ?_)))
 refine Qe fun K hK => Qh Z Z (QW Z Z Z Z Z Z Z Z (hK _ _ (Qa (kp2 Z Z) ?_)))
 refine Qe fun K hK => QE (cs := [_, _, _, _, _]) Z Z Z Z (QW Z Z Z Z Z Z Z Z (hK _ _ (Qa (kp1 Z) ?_)))
 refine Qr (Zw (cs := [_, _, _, _, _]) Z Z Z Z ?_)
 exact rfl
theorem Y2  : Ok Tryd.prog 73 [] (.agg [.int .i64 (-1), .int .i64 0, .int .i64 0, .int .i64 0, .str [], .str [], .bool false]) := by
 refine Ok.ofT Z3 Tryd.func73 Qru (Nat.le_of_ble_eq_true Z) ?_
 show TW _ _ tf73.body _ _
 refine Qe fun K hK => Zy Z (hK _ _ (Qa (kp1 Z) ?_))
 refine Qe fun K hK => Q4 Z Z (QW Z Z Z Z Z Z Z Z (hK _ _ (Qa (kp1 Z) ?_)))
 refine Qr (Zw (cs := [_, _, _, _, _, _, _]) Z Z Z Z ?_)
 exact rfl
theorem Xc  : Ok Tryd.prog 75 [] (.agg [.int .i64 1, .int .i64 0, .int .i64 0, .int .i64 0, .str [], .str [], .bool false]) := by
 refine Ok.ofT Z3 Tryd.func75 Qrw (Nat.le_of_ble_eq_true Z) ?_
 show TW _ _ tf75.body _ _
 refine Qe fun K hK => Zy Z (hK _ _ (Qa (kp1 Z) ?_))
 refine Qe fun K hK => Q4 Z Z (QW Z Z Z Z Z Z Z Z (hK _ _ (Qa (kp1 Z) ?_)))
 refine Qr (Zw (cs := [_, _, _, _, _, _, _]) Z Z Z Z ?_)
 exact rfl
theorem YH {a b c : Int} {p q : List UInt8} : Ok Tryd.prog 53 [.agg [.int .i64 a, .int .i64 b, .int .i64 c, .str p, .str q]] (.agg [.int .i64 0, .int .i64 a, .int .i64 b, .int .i64 c, .str p, .str [], .bool false]) := by
 refine Ok.ofT Z3 Tryd.func53 Qrb (Nat.le_of_ble_eq_true Z) ?_
 show TW _ _ tf53.body _ _
 refine Qe fun K hK => ZL Z Z Z (Zy Z (hK _ _ (Qa (kp2 Z Z) ?_)))
 refine Qe fun K hK => QE (cs := [_, _, _, _, _]) Z Z Z Z (Qz (X8) Z Z (.inl Z) (Q4 Z Z (QW Z Z Z Z Z Z Z Z (hK _ _ (Qa (kp1 Z) ?_)))))
 refine Qr (Zw (cs := [_, _, _, _, _, _, _]) Z Z Z Z ?_)
 exact rfl
theorem QbH {a b c : Int} {p q : List UInt8} : Ok Tryd.prog 54 [.agg [.int .i64 a, .int .i64 b, .int .i64 c, .str p, .str q]] (.agg [.int .i64 0, .int .i64 a, .int .i64 b, .int .i64 c, .str p, .str [], .bool true]) := by
 refine Ok.ofT Z3 Tryd.func54 Qrc (Nat.le_of_ble_eq_true Z) ?_
 show TW _ _ tf54.body _ _
 refine Qe fun K hK => ZL Z Z Z (Zy Z (hK _ _ (Qa (kp2 Z Z) ?_)))
 refine Qe fun K hK => QE (cs := [_, _, _, _, _]) Z Z Z Z (Qz (X8) Z Z (.inl Z) (Q4 Z Z (QW Z Z Z Z Z Z Z Z (hK _ _ (Qa (kp1 Z) ?_)))))
 refine Qr (Zw (cs := [_, _, _, _, _, _, _]) Z Z Z Z ?_)
 exact rfl
theorem XU {a b c : Int} {p q : List UInt8} : Ok Tryd.prog 72 [.agg [.int .i64 a, .int .i64 b, .int .i64 c, .str p, .str q]] (.bool (Qd7 a b c)) := by
 refine Ok.ofT Z3 Tryd.func72 Qrt (Nat.le_of_ble_eq_true Z) ?_
 show TW _ _ tf72.body _ _
 refine Qe fun K hK => ZL Z Z Z (Qb Z (hK _ _ (Qa (kp1 Z) ?_)))
 refine Qe fun K hK => Qh Z Z (QF Z Z Z (YF Z Z (Qb Z ?_)))
 refine Qw (g := 6) Z (fun h1 => ?_) (fun h1 => ?_)
 ·try rw [h1]
  try simp only [qB] at h1
  refine Qg Z (Qh Z Z (Qg Z (QF Z Z Z (Qg Z (YF Z Z (Qi Z Z (Qb Z ?_)))))))
  refine Qw (g := 11) Z (fun h2 => ?_) (fun h2 => ?_)
  ·try rw [h2]
   try simp only [qB] at h2
   refine Qg Z (Qh Z Z (Qg Z (QF Z Z Z (Qg Z (YF Z Z (Qi Z Z (Qb Z (hK _ _ (Qa (kp1 Z) ?_)))))))))
   refine Qr (Ql Z ?_)
   (repeat clear hK K); simp_all [Qd7]
  ·try rw [h2]
   try simp only [qB] at h2
   refine Qq Z (Qq Z (Qq Z (Qi Z Z (Qb Z (hK _ _ (Qa (kp1 Z) ?_))))))
   refine Qr (Ql Z ?_)
   (repeat clear hK K); simp_all [Qd7]
 ·try rw [h1]
  try simp only [qB] at h1
  refine Qq Z (Qq Z (Qq Z (Qi Z Z (Qb Z (Qq Z (Qq Z (Qq Z (Qi Z Z (Qb Z (hK _ _ (Qa (kp1 Z) ?_)))))))))))
  refine Qr (Ql Z ?_)
  (repeat clear hK K); simp_all [Qd7]
end Go.Proofs
namespace Go.Proofs
open Go Go.Abs M3 M25
set_option linter.unusedVariables false
set_option linter.unusedSimpArgs false
theorem QcI {a b c : Int} {p q : List UInt8} (hp : p.length <= 1000000) (hq : q.length <= 1000000) {part : Int} : Ok Tryd.prog 91 [.agg [.int .i64 a, .int .i64 b, .int .i64 c, .str p, .str q], .int .i64 part] (dOV (X3 a b c p q part)) := by
 refine Ok.ofT Z3 Tryd.func91 QrM (Nat.le_of_ble_eq_true Z) ?_
 show TW _ _ tf91.body _ _
 refine Qe fun K hK => ZL Z Z Z (Zy Z (Qb Z (hK _ _ (Qa (kp3 Z Z Z) ?_))))
 refine QH ?_ -- 0
 refine Qe fun K hK => QE (cs := [_, _, _, _, _]) Z Z Z Z (Qz (Za (by omega) (by omega)) Z Z (.inr Z) (ZM Z (Qb Z ?_)))
 refine Qw (g := 10) Z (fun h1 => ?_) (fun h1 => ?_)
 ·try rw [h1]
  try simp only [qB] at h1
  refine Qq Z (Qq Z (Qi Z Z (Qb Z (Qq Z (Qq Z (Qi Z Z (hK _ _ (Qa (kp4 Z Z Z Z) ?_))))))))
  refine Zm Z (Qe fun K hK => Q4 Z Z (QW Z Z Z Z Z Z Z Z (Qb Z (hK _ _ (Qa (kp2 Z Z) ?_)))))
  refine Qr (Qk (Post.eq (XB (ds := [.int .i64 _, .int .i64 _, .int .i64 _, .str _, .str _]) (d' := .bool _) (cs := [_, _, _, _, _]) Z Z Z Z Z ⟨rfl, rfl⟩) ?_))
  (repeat clear hK K); first | (simp [X3, dOV, h1]; done) | (simp_all [X3, dOV]; done)
 ·try rw [h1]
  try simp only [qB] at h1
  refine Qg Z (Qb Z (Qg Z (YM Z Z (Qi Z Z (Qb Z ?_)))))
  refine Qw (g := 14) Z (fun h2 => ?_) (fun h2 => ?_)
  ·try rw [h2]
   try simp only [qB] at h2
   refine Qq Z (Qq Z (Qi Z Z (hK _ _ (Qa (kp4 Z Z Z Z) ?_))))
   refine Zm Z (Qe fun K hK => Q4 Z Z (QW Z Z Z Z Z Z Z Z (Qb Z (hK _ _ (Qa (kp2 Z Z) ?_)))))
   refine Qr (Qk (Post.eq (XB (ds := [.int .i64 _, .int .i64 _, .int .i64 _, .str _, .str _]) (d' := .bool _) (cs := [_, _, _, _, _]) Z Z Z Z Z ⟨rfl, rfl⟩) ?_))
   (repeat clear hK K); first | (simp [X3, dOV, h1, h2]; done) | (simp_all [X3, dOV]; done)
  ·try rw [h2]
   try simp only [qB] at h2
   refine Qg Z (Qb Z (Qg Z (QdG Z Z (Qi Z Z (hK _ _ (Qa (kp4 Z Z Z Z) ?_))))))
   refine QA Z (fun h3 => ?_) (fun h3 => ?_)
   ·try rw [h3]
    try simp only [qB] at h3
    refine Qe fun K hK => Q4 Z Z (QW Z Z Z Z Z Z Z Z (Qb Z (hK _ _ (Qa (kp2 Z Z) ?_))))
    refine Qr (Qk (Post.eq (XB (ds := [.int .i64 _, .int .i64 _, .int .i64 _, .str _, .str _]) (d' := .bool _) (cs := [_, _, _, _, _]) Z Z Z Z Z ⟨rfl, rfl⟩) ?_))
    (repeat clear hK K); first | (simp [X3, dOV, h1, h2, h3]; done) | (simp_all [X3, dOV]; done)
   ·try rw [h3]
    try simp only [qB] at h3
    refine Qy (Qf (kp3 Z Z Z) (Qe fun K hK => Zy Z (hK _ _ (Qa (kp4 Z Z Z Z) ?_))))
    refine QH ?_ -- 1
    refine Qe fun K hK => Qb Z (hK _ _ (Qa (kp4 Z Z Z Z) ?_))
    refine QM (Qe fun K hK => YF Z Z (Qb Z (hK _ _ (Qa (kp5 Z Z Z Z Z) ?_))))
    refine QA Z (fun h4 => ?_) (fun h4 => ?_)
    ·try rw [h4]
     try simp only [qB] at h4
     refine Zg fun K hK => Qh Z Z (QF Z Z Z (Zl Z Z (Qt (by have := Qce (by simpa using h1); omega) (by have := Qce (by simpa using h1); omega)) (Q4 Z Z (QW Z Z Z Z Z Z Z Z (hK _ ?_)))))
     refine Qm (Qf (kp2 Z Z) ?_)
     refine QH ?_ -- 2
     refine Qe fun K hK => QE (cs := [_, _, _, _, _]) Z Z Z Z (Qz (Za (by simp) (by simp)) Z Z (.inr Z) (ZM Z (hK _ _ (Qa (kp3 Z Z Z) ?_))))
     refine QA Z (fun h5 => ?_) (fun h5 => ?_)
     ·try rw [h5]
      try simp only [qB] at h5
      refine Qe fun K hK => Q4 Z Z (QW Z Z Z Z Z Z Z Z (Qb Z (hK _ _ (Qa (kp2 Z Z) ?_))))
      refine Qr (Qk (Post.eq (XB (ds := [.int .i64 _, .int .i64 _, .int .i64 _, .str _, .str _]) (d' := .bool _) (cs := [_, _, _, _, _]) Z Z Z Z Z ⟨rfl, rfl⟩) ?_))
      (repeat clear hK K); first | (simp [X3, dOV, h1, h2, h3, h4, h5]; done) | (simp_all [X3, dOV]; done)
     ·try rw [h5]
      try simp only [qB] at h5
      refine Qy (Qf (kp2 Z Z) (Qe fun K hK => QE (cs := [_, _, _, _, _]) Z Z Z Z (QW Z Z Z Z Z Z Z Z (Qb Z (hK _ _ (Qa (kp2 Z Z) ?_))))))
      refine Qr (Post.eq (XB (ds := [.int .i64 _, .int .i64 _, .int .i64 _, .str _, .str _]) (d' := .bool _) (cs := [_, _, _, _, _]) Z Z Z Z Z ⟨rfl, rfl⟩) ?_)
      (repeat clear hK K); first | (simp [X3, dOV, h1, h2, h3, h4, h5]; done) | (simp_all [X3, dOV]; done)
    ·try rw [h4]
     try simp only [qB] at h4
     refine Qe fun K hK => YF Z Z (Qb Z (hK _ _ (Qa (kp4 Z Z Z Z) ?_)))
     refine QA Z (fun h6 => ?_) (fun h6 => ?_)
     ·try rw [h6]
      try simp only [qB] at h6
      refine Zg fun K hK => Qh Z Z (QF Z Z Z (Qh Z Z (QF Z Z Z (Zl Z Z (Qt (by have := Qce (by simpa using h1); omega) (by have := Qce (by simpa using h1); omega)) (Q4 Z Z (QW Z Z Z Z Z Z Z Z (hK _ ?_)))))))
      refine Qm (Qf (kp2 Z Z) ?_)
      refine QH ?_ -- 2
      refine Qe fun K hK => QE (cs := [_, _, _, _, _]) Z Z Z Z (Qz (Za (by simp) (by simp)) Z Z (.inr Z) (ZM Z (hK _ _ (Qa (kp3 Z Z Z) ?_))))
      refine QA Z (fun h7 => ?_) (fun h7 => ?_)
      ·try rw [h7]
       try simp only [qB] at h7
       refine Qe fun K hK => Q4 Z Z (QW Z Z Z Z Z Z Z Z (Qb Z (hK _ _ (Qa (kp2 Z Z) ?_))))
       refine Qr (Qk (Post.eq (XB (ds := [.int .i64 _, .int .i64 _, .int .i64 _, .str _, .str _]) (d' := .bool _) (cs := [_, _, _, _, _]) Z Z Z Z Z ⟨rfl, rfl⟩) ?_))
       (repeat clear hK K); first | (simp [X3, dOV, h1, h2, h3, h4, h6, h7]; done) | (simp_all [X3, dOV]; done)
      ·try rw [h7]
       try simp only [qB] at h7
       refine Qy (Qf (kp2 Z Z) (Qe fun K hK => QE (cs := [_, _, _, _, _]) Z Z Z Z (QW Z Z Z Z Z Z Z Z (Qb Z (hK _ _ (Qa (kp2 Z Z) ?_))))))
       refine Qr (Post.eq (XB (ds := [.int .i64 _, .int .i64 _, .int .i64 _, .str _, .str _]) (d' := .bool _) (cs := [_, _, _, _, _]) Z Z Z Z Z ⟨rfl, rfl⟩) ?_)
       (repeat clear hK K); first | (simp [X3, dOV, h1, h2, h3, h4, h6, h7]; done) | (simp_all [X3, dOV]; done)
     ·try rw [h6]
      try simp only [qB] at h6
      refine Zg fun K hK => Qh Z Z (QF Z Z Z (Qh Z Z (QF Z Z Z (Qh Z Z (QF Z Z Z (Zl Z Z (Qt (by have := Qce (by simpa using h1); omega) (by have := Qce (by simpa using h1); omega)) (Q4 Z Z (QW Z Z Z Z Z Z Z Z (hK _ ?_)))))))))
      refine Qm (Qf (kp2 Z Z) ?_)
      refine QH ?_ -- 2
      refine Qe fun K hK => QE (cs := [_, _, _, _, _]) Z Z Z Z (Qz (Za (by simp) (by simp)) Z Z (.inr Z) (ZM Z (hK _ _ (Qa (kp3 Z Z Z) ?_))))
      refine QA Z (fun h8 => ?_) (fun h8 => ?_)
      ·try rw [h8]
       try simp only [qB] at h8
       refine Qe fun K hK => Q4 Z Z (QW Z Z Z Z Z Z Z Z (Qb Z (hK _ _ (Qa (kp2 Z Z) ?_))))
       refine Qr (Qk (Post.eq (XB (ds := [.int .i64 _, .int .i64 _, .int .i64 _, .str _, .str _]) (d' := .bool _) (cs := [_, _, _, _, _]) Z Z Z Z Z ⟨rfl, rfl⟩) ?_))
       (repeat clear hK K); first | (simp [X3, dOV, h1, h2, h3, h4, h6, h8]; done) | (simp_all [X3, dOV]; done)
      ·try rw [h8]
       try simp only [qB] at h8
       refine Qy (Qf (kp2 Z Z) (Qe fun K hK => QE (cs := [_, _, _, _, _]) Z Z Z Z (QW Z Z Z Z Z Z Z Z (Qb Z (hK _ _ (Qa (kp2 Z Z) ?_))))))
       refine Qr (Post.eq (XB (ds := [.int .i64 _, .int .i64 _, .int .i64 _, .str _, .str _]) (d' := .bool _) (cs := [_, _, _, _, _]) Z Z Z Z Z ⟨rfl, rfl⟩) ?_)
       (repeat clear hK K); first | (simp [X3, dOV, h1, h2, h3, h4, h6, h8]; done) | (simp_all [X3, dOV]; done)
theorem QcJ {a b c : Int} {p q : List UInt8} (hp : p.length <= 1000000) (hq : q.length <= 1000000) : Ok Tryd.prog 74 [.agg [.int .i64 a, .int .i64 b, .int .i64 c, .str p, .str q]] (dOV (QhZ a b c p q)) := by
 refine Ok.ofT Z3 Tryd.func74 Qrv (Nat.le_of_ble_eq_true Z) ?_
 show TW _ _ tf74.body _ _
 refine Qe fun K hK => ZL Z Z Z (Zy Z (Qb Z (hK _ _ (Qa (kp2 Z Z) ?_))))
 refine QH ?_ -- 0
 refine Qe fun K hK => QE (cs := [_, _, _, _, _]) Z Z Z Z (Qz (Za (by omega) (by omega)) Z Z (.inr Z) (ZM Z (hK _ _ (Qa (kp3 Z Z Z) ?_))))
 refine QA Z (fun h1 => ?_) (fun h1 => ?_)
 ·try rw [h1]
  try simp only [qB] at h1
  refine Qe fun K hK => Q4 Z Z (QW Z Z Z Z Z Z Z Z (Qb Z (hK _ _ (Qa (kp2 Z Z) ?_))))
  refine Qr (Qk (Post.eq (XB (ds := [.int .i64 _, .int .i64 _, .int .i64 _, .str _, .str _]) (d' := .bool _) (cs := [_, _, _, _, _]) Z Z Z Z Z ⟨rfl, rfl⟩) ?_))
  simp [QhZ, dOV, h1]
 ·try rw [h1]
  try simp only [qB] at h1
  refine Qy (Qf (kp2 Z Z) ?_)
  refine QH ?_ -- 1
  refine Qe fun K hK => Qh Z Z (QF Z Z Z (Qka Z Z (hK _ _ (Qa (kp3 Z Z Z) ?_))))
  refine QA Z (fun h2 => ?_) (fun h2 => ?_)
  ·try rw [h2]
   try simp only [qB] at h2
   refine Qe fun K hK => Qh Z Z (QF Z Z Z (Qh Z Z (QF Z Z Z (Qh Z Z (QF Z Z Z (Q4 Z Z (QW Z Z Z Z Z Z Z Z (Qb Z (hK _ _ (Qa (kp2 Z Z) ?_))))))))))
   refine Qr (Qk (Post.eq (XB (ds := [.int .i64 _, .int .i64 _, .int .i64 _, .str _, .str _]) (d' := .bool _) (cs := [_, _, _, _, _]) Z Z Z Z Z ⟨rfl, rfl⟩) ?_))
   simp [QhZ, dOV, h1, h2]
  ·try rw [h2]
   try simp only [qB] at h2
   refine Qy (Qf (kp2 Z Z) ?_)
   refine QH ?_ -- 2
   refine Qe fun K hK => Qb Z (hK _ _ (Qa (kp3 Z Z Z) ?_))
   refine QM ?_
   refine Ya (ι := Nat) (fun m => ⟨[(1, .ref 1 0 0), (2, .ref 2 0 0), (4, .int .i64 ((m : Int) - 1))], [(1, ⟨[[.int .i64 a, .int .i64 b, .int .i64 c, .str p, .str q]], 5, 49, true⟩), (2, ⟨[[.int .i64 0, .int .i64 0, .int .i64 0, .str [], .str []]], 5, 49, true⟩)]⟩) (fun m => m <= 3 /\ XG a b c p q 3 = XG a b c p q m) (fun m => m) 3 ?_ ?_ ?_
   ·exact Zx (l := [1, 2, 4]) (lH := [1, 2]) (kp3 rfl rfl rfl) (Qx rfl (Qx rfl QC)) rfl rfl rfl
   ·exact ⟨by omega, rfl⟩
   intro m hI
   obtain ⟨hI1, hI2⟩ := hI
   try dsimp only
   refine QH ?_ -- 3
   refine Qe fun K hK => Qb Z (Qjf Z Z (hK _ _ (Qa (kp4 Z Z Z Z) ?_)))
   refine QA Z (fun h3 => ?_) (fun h3 => ?_)
   ·try rw [h3]
    try simp only [qB] at h3
    rcases Nat.eq_zero_or_pos m with hm | hm <;> first | omega | skip
    refine Qy (Qf (kp3 Z Z Z) ?_)
    refine QH ?_ -- 4
    refine QM (Qe fun K hK => QE (cs := [_, _, _, _, _]) Z Z Z Z (Qb Z (Qz (QcI (by omega) (by omega)) Z Z (.inl Z) (Qb Z (Zh Z Z (Zh Z Z (Zy Z (QW Z Z Z Z Z Z Z Z (Qb Z (hK _ _ (Qa (kp5 Z Z Z Z Z) ?_)))))))))))
    refine Qe fun K hK => Qb Z (hK _ _ (Qa (kp5 Z Z Z Z Z) ?_))
    refine QA Z (fun h4 => ?_) (fun h4 => ?_)
    ·try rw [h4]
     try simp only [qB] at h4
     refine Qe fun K hK => QE (cs := [_, _, _, _, _]) Z Z Z Z (QW Z Z Z Z Z Z Z Z (Qb Z (hK _ _ (Qa (kp2 Z Z) ?_))))
     refine Qr (Qu (Qk (Q9 (Qu (Qk (Post.eq (XB (ds := [.int .i64 _, .int .i64 _, .int .i64 _, .str _, .str _]) (d' := .bool _) (cs := [_, _, _, _, _]) Z Z Z Z Z ⟨rfl, rfl⟩) ?_))))))
     subst h2
     simp [QhZ, dOV, h1, hI2, Qhx hm h4, h4]
    ·try rw [h4]
     try simp only [qB] at h4
     refine Qy (Qm (Qf (kp3 Z Z Z) (Zg fun K hK => Qb Z (Qc0 Z Z (by first | exact Qt (by omega) (by omega) | rfl) (Qb Z (hK _ ?_))))))
     refine Qp (m - 1) ?_ ?_ ?_
     ·refine Zx (l := [1, 2, 4]) (lH := [1, 2]) (kp3 Z Z Z) (Qx Z (Qx Z QC)) ?_ Z rfl; simp only [List.cons.injEq, Prod.mk.injEq, D.int.injEq, and_true, true_and]; omega
     ·exact ⟨by omega, by rw [hI2]; exact Qix hm h4⟩
     ·show m - 1 < m; omega
   ·try rw [h3]
    try simp only [qB] at h3
    rcases Nat.eq_zero_or_pos m with hm | hm <;> first | omega | skip
    refine ZC (QR (QD (QJ (Qf (kp1 Z) (Qe fun K hK => Q4 Z Z (QW Z Z Z Z Z Z Z Z (Qb Z (hK _ _ (Qa (kp2 Z Z) ?_)))))))))
    refine Qr (Post.eq (XB (ds := [.int .i64 _, .int .i64 _, .int .i64 _, .str _, .str _]) (d' := .bool _) (cs := [_, _, _, _, _]) Z Z Z Z Z ⟨rfl, rfl⟩) ?_)
    subst h2
    subst hm
    have hb : XG a b c [] q 3 = none := hI2
    simp [QhZ, dOV, h1, hb]
end Go.Proofs
namespace Go.Proofs
open Go Go.Abs M3 M25
set_option linter.unusedVariables false
set_option linter.unusedSimpArgs false
theorem XV {e a b c : Int} {p q : List UInt8} {f : Bool} : Ok Tryd.prog 63 [.agg [.int .i64 e, .int .i64 a, .int .i64 b, .int .i64 c, .str p, .str q, .bool f]] (.bool (Qd8 e a b c p q f)) := by
 refine Ok.ofT Z3 Tryd.func63 Qrk (Nat.le_of_ble_eq_true Z) ?_
 show TW _ _ tf63.body _ _
 refine Qe fun K hK => ZL Z Z Z (Qb Z (hK _ _ (Qa (kp1 Z) ?_)))
 refine Qe fun K hK => Qh Z Z (QF Z Z Z (YN Z Z (Qb Z ?_)))
 refine Qw (g := 6) Z (fun h1 => ?_) (fun h1 => ?_)
 ·try rw [h1]
  try simp only [qB] at h1
  refine Qq Z (Qq Z (Qq Z (Qq Z (QG Z (QG Z (QG Z (QG Z (Qq Z (Qq Z (QG Z (QG Z ?_)))))))))))
  refine QG Z (QG Z (Qq Z (Qi Z Z (Qb Z (hK _ _ (Qa (kp1 Z) ?_))))))
  refine Qr (Ql Z ?_)
  (repeat clear hK K); simp_all [Qd8]
 ·try rw [h1]
  try simp only [qB] at h1
  refine Qg Z (Qh Z Z (Qg Z (QF Z Z Z (Qg Z (ZM Z (Qg Z (Qb Z ?_)))))))
  refine Qw (g := 10) Z (fun h2 => ?_) (fun h2 => ?_)
  ·try rw [h2]
   try simp only [qB] at h2
   refine Qg Z (Qh Z Z (Qg Z (Qh Z Z (Qg Z (QF Z Z Z (Qg Z (QbA Z Z (Qg Z (Qi Z Z (Qg Z (Qb Z ?_)))))))))))
   refine Qw (g := 16) Z (fun h3 => ?_) (fun h3 => ?_)
   ·try rw [h3]
    try simp only [qB] at h3
    refine Qg Z (Qh Z Z (Qg Z (QE (cs := [_, _, _, _, _]) Z Z Z Z (Qg Z (Qz (XU) Z Z (.inr Z) (Qg Z (ZM Z (Qg Z (Qi Z Z (Qi Z Z (Qb Z ?_)))))))))))
    refine hK _ _ (Qa (kp1 Z) ?_)
    refine Qr (Ql Z ?_)
    (repeat clear hK K); simp_all [Qd8]
   ·try rw [h3]
    try simp only [qB] at h3
    refine Qq Z (Qq Z (Qq Z (Qq Z (Qg Z (Qi Z Z (Qi Z Z (Qb Z (hK _ _ (Qa (kp1 Z) ?_)))))))))
    refine Qr (Ql Z ?_)
    (repeat clear hK K); simp_all [Qd8]
  ·try rw [h2]
   try simp only [qB] at h2
   refine Qq Z (Qq Z (Qq Z (Qq Z (Qg Z (Qi Z Z (Qg Z (Qb Z (Qq Z (Qq Z (Qq Z (Qq Z ?_)))))))))))
   refine Qg Z (Qi Z Z (Qi Z Z (Qb Z (hK _ _ (Qa (kp1 Z) ?_)))))
   refine Qr (Ql Z ?_)
   (repeat clear hK K); simp_all [Qd8]
theorem Qcq {a b c : Int} {p q : List UInt8} : Ok Tryd.prog 55 [.agg [.int .i64 a, .int .i64 b, .int .i64 c, .str p, .str q]] (.agg (dCu (Qff a b c))) := by
 refine Ok.ofT Z3 Tryd.func55 Qrd (Nat.le_of_ble_eq_true Z) ?_
 show TW _ _ tf55.body _ _
 refine Qe fun K hK => ZL Z Z Z (Zy Z (hK _ _ (Qa (kp2 Z Z) ?_)))
 refine QH ?_ -- 0
 refine Qe fun K hK => QE (cs := [_, _, _, _, _]) Z Z Z Z (Qz (XU) Z Z (.inr Z) (hK _ _ (Qa (kp3 Z Z Z) ?_)))
 refine QA Z (fun h1 => ?_) (fun h1 => ?_)
 ·try rw [h1]
  try simp only [qB] at h1
  refine Qe fun K hK => Qz (Y2) Z Z (.inl Z) (QW Z Z Z Z Z Z Z Z (hK _ _ (Qa (kp1 Z) ?_)))
  refine Qr (Qk (Post.eq (Zw (ds := [.int .i64 _, .int .i64 _, .int .i64 _, .int .i64 _, .str _, .str _, .bool _]) (cs := [_, _, _, _, _, _, _]) Z Z Z Z Z) ?_))
  simp [Qff, dCu, Qcx, h1]
 ·try rw [h1]
  try simp only [qB] at h1
  refine Qy (Qf (kp2 Z Z) (Qe fun K hK => Qh Z Z (QF Z Z Z (Qh Z Z (QF Z Z Z (Qh Z Z (QF Z Z Z (Q4 Z Z (Qz (YH) Z Z (.inl Z) (QW Z Z Z Z Z Z Z Z ?_))))))))))
  refine hK _ _ (Qa (kp1 Z) ?_)
  refine Qr (Post.eq (Zw (ds := [.int .i64 _, .int .i64 _, .int .i64 _, .int .i64 _, .str _, .str _, .bool _]) (cs := [_, _, _, _, _, _, _]) Z Z Z Z Z) ?_)
  simp [Qff, dCu, Qcx, h1]
theorem QbI {a b c : Int} {p q : List UInt8} : Ok Tryd.prog 56 [.agg [.int .i64 a, .int .i64 b, .int .i64 c, .str p, .str q]] (.agg (dCu (Qds a b c))) := by
 refine Ok.ofT Z3 Tryd.func56 Qre (Nat.le_of_ble_eq_true Z) ?_
 show TW _ _ tf56.body _ _
 refine Qe fun K hK => ZL Z Z Z (Zy Z (hK _ _ (Qa (kp2 Z Z) ?_)))
 refine Qe fun K hK => Qh Z Z (QF Z Z Z (Qh Z Z (QF Z Z Z (Qh Z Z (QF Z Z Z (Q4 Z Z (Qz (QcJ (by simp) (by simp)) Z Z (.inl Z) (Qb Z (Zh Z Z (Zh Z Z ?_))))))))))
 refine Zy Z (QW Z Z Z Z Z Z Z Z (Qb Z (hK _ _ (Qa (kp3 Z Z Z) ?_))))
 refine QH ?_ -- 0
 refine Qe fun K hK => Qb Z (ZM Z (hK _ _ (Qa (kp3 Z Z Z) ?_)))
 refine QA Z (fun h1 => ?_) (fun h1 => ?_)
 ·try rw [h1]
  try simp only [qB] at h1
  refine Qe fun K hK => Qz (Xc) Z Z (.inl Z) (QW Z Z Z Z Z Z Z Z (hK _ _ (Qa (kp1 Z) ?_)))
  refine Qr (Qk (Post.eq (Zw (ds := [.int .i64 _, .int .i64 _, .int .i64 _, .int .i64 _, .str _, .str _, .bool _]) (cs := [_, _, _, _, _, _, _]) Z Z Z Z Z) ?_))
  cases hn : QhZ a b c [] [] <;> simp [Qds, dCu, QfG, hn] at *
 ·try rw [h1]
  try simp only [qB] at h1
  refine Qy (Qf (kp2 Z Z) (Qe fun K hK => QE (cs := [_, _, _, _, _]) Z Z Z Z (Qz (YH) Z Z (.inl Z) (QW Z Z Z Z Z Z Z Z (hK _ _ (Qa (kp1 Z) ?_))))))
  refine Qr (Post.eq (Zw (ds := [.int .i64 _, .int .i64 _, .int .i64 _, .int .i64 _, .str _, .str _, .bool _]) (cs := [_, _, _, _, _, _, _]) Z Z Z Z Z) ?_)
  cases hn : QhZ a b c [] [] <;> simp [Qds, dCu, QfG, hn] at *
theorem XW  : Ok Tryd.prog 92 [] (Q8 [(Qcx, QfG)]) := by
 refine Ok.ofT Z3 Tryd.func92 QrN (Nat.le_of_ble_eq_true Z) ?_
 show TW _ _ tf92.body _ _
 refine Qe fun K hK => Qb Z (hK _ _ (Qa (QV) ?_))
 refine Qe fun K hK => Qz (Y2) Z Z (.inl Z) (Qz (Xc) Z Z (.inl Z) (Q4 Z Z (QN Z Z (Qb Z (hK _ _ (Qa (kp1 Z) ?_))))))
 refine Qr (Z5 Z ?_)
 rfl
theorem ZT  : Ok Tryd.prog 48 [] (Qdh ([], [])) := by
 refine Ok.ofT Z3 Tryd.func48 Qq7 (Nat.le_of_ble_eq_true Z) ?_
 show TW _ _ tf48.body _ _
 refine Qe fun K hK => Zy Z (hK _ _ (Qa (kp1 Z) ?_))
 refine Qe fun K hK => Q4 Z Z (QW Z Z Z Z Z Z Z Z (hK _ _ (Qa (kp1 Z) ?_)))
 refine Qr (Post.eq (Zw (ds := [.sl _, .sl _]) (cs := [_, _]) Z Z Z Z Z) ?_)
 rfl
theorem Qar  : Ok Tryd.prog 76 [] (Qdh ([(Qcx, QfG)], [(Qcx, QfG)])) := by
 refine Ok.ofT Z3 Tryd.func76 Qrx (Nat.le_of_ble_eq_true Z) ?_
 show TW _ _ tf76.body _ _
 refine Qe fun K hK => Zy Z (hK _ _ (Qa (kp1 Z) ?_))
 refine Qe fun K hK => Qz (XW) Z Z (.inl Z) (Qz (XW) Z Z (.inl Z) (Q4 Z Z (QW Z Z Z Z Z Z Z Z (hK _ _ (Qa (kp1 Z) ?_)))))
 refine Qr (Post.eq (Zw (ds := [.sl _, .sl _]) (cs := [_, _]) Z Z Z Z Z) ?_)
 rfl
theorem Yj {a b c : Int} {p q : List UInt8} (hp : p.length <= 1000000) (hq : q.length <= 1000000) : Ok Tryd.prog 36 [.agg [.int .i64 a, .int .i64 b, .int .i64 c, .str p, .str q]] (Qdh (YJ a b c p q)) := by
 refine Ok.ofT Z3 Tryd.func36 QqX (Nat.le_of_ble_eq_true Z) ?_
 show TW _ _ tf36.body _ _
 refine Qe fun K hK => ZL Z Z Z (Zy Z (hK _ _ (Qa (kp2 Z Z) ?_)))
 refine QH ?_ -- 0
 refine Qe fun K hK => QE (cs := [_, _, _, _, _]) Z Z Z Z (Qz (Za (by omega) (by omega)) Z Z (.inr Z) (ZM Z (hK _ _ (Qa (kp3 Z Z Z) ?_))))
 refine QA Z (fun h1 => ?_) (fun h1 => ?_)
 ·try rw [h1]
  try simp only [qB] at h1
  refine Qe fun K hK => Qz (ZT) Z Z (.inl Z) (QW Z Z Z Z Z Z Z Z (hK _ _ (Qa (kp1 Z) ?_)))
  refine Qr (Qk (Post.eq (Zw (ds := [.sl _, .sl _]) (cs := [_, _]) Z Z Z Z Z) ?_))
  simp [YJ, Qdh, Q8, Qee, dCu, h1]
 ·try rw [h1]
  try simp only [qB] at h1
  refine Qy (Qf (kp2 Z Z) ?_)
  refine QH ?_ -- 1
  refine Qe fun K hK => Qh Z Z (QF Z Z Z (Qka Z Z (hK _ _ (Qa (kp3 Z Z Z) ?_))))
  refine QA Z (fun h2 => ?_) (fun h2 => ?_)
  ·try rw [h2]
   try simp only [qB] at h2
   refine Qe fun K hK => QK (ds0 := [6, 3, 2, 1, 0]) (cs := [_, _, _, _, _]) Z Z Z Z Z Z (QX (ds0 := [3, 2, 1, 0]) (YH) Z Z (.inl Z) Z Z (QK (ds0 := [4, 3, 2, 1, 0]) (cs := [_, _, _, _, _]) Z Z Z Z Z Z (QX (ds0 := [3, 2, 1, 0]) (QbH) Z Z (.inl Z) Z Z (Q4 Z Z (QN Z Z (Q4 Z Z (Xj (ds0 := []) Z Z Z Z Z Z Z Z Z Z (hK _ _ (Qa (kp1 Z) ?_)))))))))
   refine Qr (Qk (Post.eq (Zw (ds := [.sl _, .sl _]) (cs := [_, _]) Z Z Z Z Z) ?_))
   simp [YJ, Qdh, Q8, Qee, dCu, h1, h2]
  ·try rw [h2]
   try simp only [qB] at h2
   refine Qy (Qf (kp2 Z Z) (Qe fun K hK => QK (ds0 := [6, 3, 2, 1, 0]) (cs := [_, _, _, _, _]) Z Z Z Z Z Z (QX (ds0 := [3, 2, 1, 0]) (Qcq) Z Z (.inl Z) Z Z (QK (ds0 := [4, 3, 2, 1, 0]) (cs := [_, _, _, _, _]) Z Z Z Z Z Z (QX (ds0 := [3, 2, 1, 0]) (QbI) Z Z (.inl Z) Z Z (Q4 Z Z (QN Z Z (Q4 Z Z (Xj (ds0 := []) Z Z Z Z Z Z Z Z Z Z (hK _ _ (Qa (kp1 Z) ?_)))))))))))
   refine Qr (Post.eq (Zw (ds := [.sl _, .sl _]) (cs := [_, _]) Z Z Z Z Z) ?_)
   subst h2
   simp [YJ, Qdh, Q8, Qee, dCu, h1]
end Go.Proofs
namespace Go.Proofs
open Go Go.Abs M3 M25
set_option linter.unusedVariables false
set_option linter.unusedSimpArgs false
theorem ZX {l : List (Cu × Cu)} (hl : Sm l) : Ok Tryd.prog 62 [Q8 l] (.bool (Qbw l)) := by
 refine Ok.ofT Z3 Tryd.func62 Qrj (Nat.le_of_ble_eq_true Z) ?_
 show TW _ _ tf62.body _ _
 have hn := hl.1
 refine Qe fun K hK => Qb Z (hK _ _ (Qa (kp1 Z) ?_))
 refine QH ?_ -- 0
 refine Qe fun K hK => Qb Z (hK _ _ (Qa (kp2 Z Z) ?_))
 refine QM ?_
 refine Ya (ι := Nat) (fun i => ⟨[(0, Q8 l), (3, .int .i64 i)], []⟩) (fun i => i <= l.length /\ (List.range i).all (Qof l) = true) (fun i => l.length - i) 0 ?_ ?_ ?_
 ·exact Zb (kp2 rfl rfl)
 ·exact ⟨Nat.zero_le _, rfl⟩
 intro i hI
 try dsimp only
 refine QH ?_ -- 1
 refine Qe fun K hK => Qb Z (Qb Z (ZB Z Z (YM Z Z (hK _ _ (Qa (kp3 Z Z Z) ?_)))))
 refine QA Z (fun h1 => ?_) (fun h1 => ?_)
 ·try rw [h1]
  try simp only [qA] at h1
  refine Qy (Qf (kp2 Z Z) ?_)
  refine QH ?_ -- 2
  refine QM (Qe fun K hK => Qb Z (Qb Z (QY Z Z Z (by omega) (ZO (by omega)) Z (QK (ds0 := [20, 19, 18, 17, 16, 15, 14, 13, 12, 11, 10, 9, 8, 7, 6, 5, 4, 3, 2, 1, 0]) (cs := [_, _, _, _, _, _, _, _, _, _, _, _, _, _]) Z Z Z Z Z Z (QX (ds0 := [19, 18, 17, 16, 15, 14, 13, 12, 11, 10, 9, 8, 7, 6, 5, 4, 3, 2, 1, 0]) (YA (hl.at (i := i) (by omega)).1.1 (hl.at (i := i) (by omega)).1.2 (hl.at (i := i) (by omega)).2.1 (hl.at (i := i) (by omega)).2.2) Z Z (.inr Z) Z Z (ZM Z (Qb Z ?_)))))))
  refine Qw (g := 16) Z (fun h2 => ?_) (fun h2 => ?_)
  ·try rw [h2]
   try simp only [qA] at h2
   refine Qq Z (Qq Z (Qq Z (QG Z (QG Z (QG Z (QG Z (QG Z (QG Z (QG Z (QG Z (QG Z ?_)))))))))))
   refine QG Z (QG Z (QG Z (QG Z (Qq Z (Qi Z Z (hK _ _ (Qa (kp3 Z Z Z) ?_)))))))
   refine Zm Z (Qe fun K hK => Qb Z (hK _ _ (Qa (kp1 Z) ?_)))
   refine Qr (Qu (Qk (Q9 (Qu (Qk (Ql Z ?_))))))
   first
    | exact (Qcg hI.2 (by omega)).symm
    | exact (Y9 (i := i) (by omega) (Qbs (by omega) (.inl h2))).symm
    | (simp only [XI] at *; exact (Y9 (i := i) (by omega) (Qbs (by omega) (.inr ⟨by omega, h4⟩))).symm)
  ·try rw [h2]
   try simp only [qA] at h2
   refine Qg Z (Qb Z (Qg Z (QdG Z Z (Qg Z (Qb Z ?_)))))
   refine Qw (g := 19) Z (fun h3 => ?_) (fun h3 => ?_)
   ·try rw [h3]
    try simp only [qA] at h3
    refine Qg Z (Qb Z (Qg Z (Qb Z (Qg Z (Qc0 Z Z (by first | exact Qt (by omega) (by omega) | rfl) (Qg Z (QY Z Z Z (by omega) (Z7 (by omega) (by omega)) Z (Qg Z (ZU Z Z (Qg Z (QK (ds0 := [3, 2, 1, 0]) (cs := [_, _, _, _, _, _, _]) Z Z Z Z Z Z ?_)))))))))))
    refine Qg Z (Qb Z (Qg Z (Qb Z (Qg Z (QY Z Z Z (by omega) (ZO (by omega)) Z (Qg Z (ZU Z Z (Qg Z (QK (ds0 := [3, 2, 1, 0]) (cs := [_, _, _, _, _, _, _]) Z Z Z Z Z Z (Qg Z (QX (ds0 := [2, 1, 0]) (Zu (hl.at (i := ((i : Int) - 1).toNat) (by omega)).2.1 (hl.at (i := ((i : Int) - 1).toNat) (by omega)).2.2 (hl.at (i := i) (by omega)).1.1 (hl.at (i := i) (by omega)).1.2) Z Z (.inr Z) Z Z ?_)))))))))))
    refine Qg Z (Qjf Z Z (Qg Z (Qi Z Z (Qi Z Z (hK _ _ (Qa (kp3 Z Z Z) ?_))))))
    refine QA Z (fun h4 => ?_) (fun h4 => ?_)
    ·try rw [h4]
     try simp only [qA] at h4
     refine Qe fun K hK => Qb Z (hK _ _ (Qa (kp1 Z) ?_))
     refine Qr (Qu (Qk (Q9 (Qu (Qk (Ql Z ?_))))))
     first
      | exact (Qcg hI.2 (by omega)).symm
      | exact (Y9 (i := i) (by omega) (Qbs (by omega) (.inl h2))).symm
      | (simp only [XI] at *; exact (Y9 (i := i) (by omega) (Qbs (by omega) (.inr ⟨by omega, h4⟩))).symm)
    ·try rw [h4]
     try simp only [qA] at h4
     refine Qy (Qm (Qf (kp2 Z Z) (Zg fun K hK => Qb Z (Zl Z Z (by first | exact Qt (by omega) (by omega) | rfl) (Qb Z (hK _ ?_))))))
     refine Qp (i + 1) ?_ ?_ ?_
     ·exact Zb (kp2 rfl rfl)
     ·exact ⟨by omega, Qey hI.2 (QjQ (by omega) h2 (by first | exact .inl (by omega) | (simp only [XI] at *; exact .inr (Int.not_le.1 h4))))⟩
     ·first | omega | (simp only; omega) | (dsimp only; omega)
   ·try rw [h3]
    try simp only [qA] at h3
    refine Qq Z (Qq Z (Qq Z (Qq Z (Qq Z (Qq Z (Qq Z (Qq Z (Qq Z (Qq Z (Qq Z (Qq Z ?_)))))))))))
    refine Qq Z (Qg Z (Qi Z Z (Qi Z Z (hK _ _ (Qa (kp3 Z Z Z) ?_)))))
    refine ZE Z (Qy (Qm (Qf (kp2 Z Z) (Zg fun K hK => Qb Z (Zl Z Z (by first | exact Qt (by omega) (by omega) | rfl) (Qb Z (hK _ ?_)))))))
    refine Qp (i + 1) ?_ ?_ ?_
    ·exact Zb (kp2 rfl rfl)
    ·exact ⟨by omega, Qey hI.2 (QjQ (by omega) h2 (by first | exact .inl (by omega) | (simp only [XI] at *; exact .inr (Int.not_le.1 h4))))⟩
    ·first | omega | (simp only; omega) | (dsimp only; omega)
 ·try rw [h1]
  try simp only [qA] at h1
  refine ZC (QR (QD (QJ (Qf (QV) (Qe fun K hK => Qb Z (hK _ _ (Qa (kp1 Z) ?_)))))))
  refine Qr (Ql Z ?_)
  first
   | exact (Qcg hI.2 (by omega)).symm
   | exact (Y9 (i := i) (by omega) (Qbs (by omega) (.inl h2))).symm
   | (simp only [XI] at *; exact (Y9 (i := i) (by omega) (Qbs (by omega) (.inr ⟨by omega, h4⟩))).symm)
theorem QaM {l : List (Cu × Cu)} (hl : Sm l) {x y : Cu} (hx : Cu.sm x) (hy : Cu.sm y) : Ok Tryd.prog 69 [Q8 l, .agg (dCu x), .agg (dCu y)] (.bool (mIn l x y)) := by
 refine Ok.ofT Z3 Tryd.func69 Qrq (Nat.le_of_ble_eq_true Z) ?_
 show TW _ _ tf69.body _ _
 have hn := hl.1
 refine Qe fun K hK => ZL Z Z Z (ZL Z Z Z (Qb Z (hK _ _ (Qa (kp3 Z Z Z) ?_))))
 refine QH ?_ -- 0
 refine Qe fun K hK => Qb Z (hK _ _ (Qa (kp4 Z Z Z Z) ?_))
 refine QM ?_
 refine Ya (ι := Nat) (fun i => ⟨[(0, Q8 l), (4, .ref 4 0 0), (5, .ref 5 0 0), (7, .int .i64 i)], [(4, ⟨[dCu x], 7, 90, true⟩), (5, ⟨[dCu y], 7, 90, true⟩)]⟩) (fun i => i <= l.length /\ (l.take i).any (inC x y) = false) (fun i => l.length - i) 0 ?_ ?_ ?_
 ·exact Zx (l := [0, 4, 5, 7]) (lH := [4, 5]) (kp4 rfl rfl rfl rfl) (Qx rfl (Qx rfl QC)) rfl rfl rfl
 ·exact ⟨Nat.zero_le _, by simp⟩
 intro i hI
 try dsimp only
 refine QH ?_ -- 1
 refine Qe fun K hK => Qb Z (Qb Z (ZB Z Z (YM Z Z (hK _ _ (Qa (kp5 Z Z Z Z Z) ?_)))))
 refine QA Z (fun h1 => ?_) (fun h1 => ?_)
 ·try rw [h1]
  try simp only [qA] at h1
  refine Qy (Qf (kp4 Z Z Z Z) ?_)
  refine QH ?_ -- 2
  refine QM (Qe fun K hK => Qb Z (Qb Z (QY Z Z Z (by omega) (ZO (by omega)) Z (ZU Z Z (QK (ds0 := [11, 10, 9, 8, 7, 6, 5, 4, 3, 2, 1, 0]) (cs := [_, _, _, _, _, _, _]) Z Z Z Z Z Z (QK (ds0 := [11, 10, 9, 8, 7, 6, 5, 4, 3, 2, 1, 0]) (cs := [_, _, _, _, _, _, _]) Z Z Z Z Z Z (QX (ds0 := [10, 9, 8, 7, 6, 5, 4, 3, 2, 1, 0]) (Zu (hl.at (i := i) (by omega)).1.1 (hl.at (i := i) (by omega)).1.2 hx.1 hx.2) Z Z (.inr Z) Z Z (Qma Z Z (Qb Z ?_)))))))))
  refine Qw (g := 22) Z (fun h2 => ?_) (fun h2 => ?_)
  ·try rw [h2]
   try simp only [qA] at h2
   refine Qg Z (QK (ds0 := [2, 1, 0]) (cs := [_, _, _, _, _, _, _]) Z Z Z Z Z Z (Qg Z (Qb Z (Qg Z (Qb Z (Qg Z (QY Z Z Z (by omega) (ZO (by omega)) Z (Qg Z (ZU Z Z (Qg Z (QK (ds0 := [2, 1, 0]) (cs := [_, _, _, _, _, _, _]) Z Z Z Z Z Z ?_)))))))))))
   refine Qg Z (QX (ds0 := [1, 0]) (Zu hy.1 hy.2 (hl.at (i := i) (by omega)).2.1 (hl.at (i := i) (by omega)).2.2) Z Z (.inr Z) Z Z (Qg Z (Qma Z Z (Qi Z Z (hK _ _ (Qa (kp5 Z Z Z Z Z) ?_))))))
   refine QA Z (fun h3 => ?_) (fun h3 => ?_)
   ·try rw [h3]
    try simp only [qA] at h3
    refine Qe fun K hK => Qb Z (hK _ _ (Qa (kp1 Z) ?_))
    refine Qr (Qu (Qk (Q9 (Qu (Qk (Ql Z ?_))))))
    first
     | exact (Qnb (i := i) (by omega) hI.2).symm
     | exact (QkC (i := i) (by omega) (Qpd h2 h3)).symm
   ·try rw [h3]
    try simp only [qA] at h3
    refine Qy (Qm (Qf (kp4 Z Z Z Z) (Zg fun K hK => Qb Z (Zl Z Z (by first | exact Qt (by omega) (by omega) | rfl) (Qb Z (hK _ ?_))))))
    refine Qp (i + 1) ?_ ?_ ?_
    ·exact Zx (l := [0, 4, 5, 7]) (lH := [4, 5]) (kp4 rfl rfl rfl rfl) (Qx rfl (Qx rfl QC)) rfl rfl rfl
    ·exact ⟨by omega, Qjj (by omega) hI.2 (Qpc (by first | exact .inl h2 | exact .inr h3))⟩
    ·first | omega | (simp only; omega) | (dsimp only; omega)
  ·try rw [h2]
   try simp only [qA] at h2
   refine Qq Z (Qq Z (Qq Z (Qq Z (Qq Z (Qq Z (Qq Z (Qq Z (Qi Z Z (hK _ _ (Qa (kp5 Z Z Z Z Z) ?_))))))))))
   refine ZE Z (Qy (Qm (Qf (kp4 Z Z Z Z) (Zg fun K hK => Qb Z (Zl Z Z (by first | exact Qt (by omega) (by omega) | rfl) (Qb Z (hK _ ?_)))))))
   refine Qp (i + 1) ?_ ?_ ?_
   ·exact Zx (l := [0, 4, 5, 7]) (lH := [4, 5]) (kp4 rfl rfl rfl rfl) (Qx rfl (Qx rfl QC)) rfl rfl rfl
   ·exact ⟨by omega, Qjj (by omega) hI.2 (Qpc (by first | exact .inl h2 | exact .inr h3))⟩
   ·first | omega | (simp only; omega) | (dsimp only; omega)
 ·try rw [h1]
  try simp only [qA] at h1
  refine ZC (QR (QD (QJ (Qf (QV) (Qe fun K hK => Qb Z (hK _ _ (Qa (kp1 Z) ?_)))))))
  refine Qr (Ql Z ?_)
  first
   | exact (Qnb (i := i) (by omega) hI.2).symm
   | exact (QkC (i := i) (by omega) (Qpd h2 h3)).symm
end Go.Proofs
namespace Go.Proofs
open Go Go.Abs M3 M25
set_option linter.unusedVariables false
set_option linter.unusedSimpArgs false
theorem Qao {l : List (Cu × Cu)} (hl : Sm l) {a b c : Int} {p q : List UInt8} (hp : p.length <= 1000000) (hq : q.length <= 1000000) : Ok Tryd.prog 47 [Q8 l, .agg [.int .i64 a, .int .i64 b, .int .i64 c, .str p, .str q]] (.bool (QfI l a b c p q)) := by
 refine Ok.ofT Z3 Tryd.func47 Qq6 (Nat.le_of_ble_eq_true Z) ?_
 show TW _ _ tf47.body _ _
 have hn := hl.1
 refine Qe fun K hK => ZL Z Z Z (Qb Z (hK _ _ (Qa (kp2 Z Z) ?_)))
 refine QH ?_ -- 0
 refine Qe fun K hK => Qb Z (hK _ _ (Qa (kp3 Z Z Z) ?_))
 refine QM ?_
 refine Ya (ι := Nat) (fun i => ⟨[(0, Q8 l), (3, .ref 3 0 0), (5, .int .i64 i)], [(3, ⟨[[.int .i64 a, .int .i64 b, .int .i64 c, .str p, .str q]], 5, 49, true⟩)]⟩) (fun i => i <= l.length /\ (l.take i).any (fun s => Qfh s a b c p q) = false) (fun i => l.length - i) 0 ?_ ?_ ?_
 ·exact Zx (l := [0, 3, 5]) (lH := [3]) (kp3 rfl rfl rfl) (Qx rfl QC) rfl rfl rfl
 ·exact ⟨Nat.zero_le _, by simp⟩
 intro i hI
 try dsimp only
 refine QH ?_ -- 1
 refine Qe fun K hK => Qb Z (Qb Z (ZB Z Z (YM Z Z (Qb Z ?_))))
 refine Qw (g := 10) Z (fun h1 => ?_) (fun h1 => ?_)
 ·try rw [h1]
  try simp only [qA] at h1
  refine Qg Z (Qb Z (Qg Z (Qz (ZX hl) Z Z (.inr Z) (Qi Z Z (hK _ _ (Qa (kp4 Z Z Z Z) ?_))))))
  refine QA Z (fun h2 => ?_) (fun h2 => ?_)
  ·try rw [h2]
   try simp only [qA] at h2
   refine Qy (Qf (kp3 Z Z Z) ?_)
   refine QH ?_ -- 2
   refine QM (Qe fun K hK => Qb Z (Qb Z (QY Z Z Z (by omega) (ZO (by omega)) Z (QK (ds0 := [0]) (cs := [_, _, _, _, _, _, _, _, _, _, _, _, _, _]) Z Z Z Z Z Z (QK (ds0 := [0]) (cs := [_, _, _, _, _]) Z Z Z Z Z Z (QX (ds0 := []) (Qcp (hl.at (i := i) (by omega)).1.1 (hl.at (i := i) (by omega)).1.2 (hl.at (i := i) (by omega)).2.1 (hl.at (i := i) (by omega)).2.2 hp hq) Z Z (.inr Z) Z Z (hK _ _ (Qa (kp4 Z Z Z Z) ?_))))))))
   refine QA Z (fun h3 => ?_) (fun h3 => ?_)
   ·try rw [h3]
    try simp only [qA] at h3
    refine Qe fun K hK => Qb Z (hK _ _ (Qa (kp1 Z) ?_))
    refine Qr (Qu (Qk (Q9 (Qu (Qk (Ql Z ?_))))))
    first
     | exact (Qb9 (i := i) (by omega) hI.2).symm
     | exact (Qca h2).symm
     | exact (Qcb h2 (i := i) (by omega) h3).symm
   ·try rw [h3]
    try simp only [qA] at h3
    refine Qy (Qm (Qf (kp3 Z Z Z) (Zg fun K hK => Qb Z (Zl Z Z (by first | exact Qt (by omega) (by omega) | rfl) (Qb Z (hK _ ?_))))))
    refine Qp (i + 1) ?_ ?_ ?_
    ·exact Zx (l := [0, 3, 5]) (lH := [3]) (kp3 rfl rfl rfl) (Qx rfl QC) rfl rfl rfl
    ·exact ⟨by omega, Qjj (by omega) hI.2 h3⟩
    ·first | omega | (simp only; omega) | (dsimp only; omega)
  ·try rw [h2]
   try simp only [qA] at h2
   refine ZC (QR (QD (QJ (Qf (QV) (Qe fun K hK => Qb Z (hK _ _ (Qa (kp1 Z) ?_)))))))
   refine Qr (Ql Z ?_)
   first
    | exact (Qb9 (i := i) (by omega) hI.2).symm
    | exact (Qca h2).symm
    | exact (Qcb h2 (i := i) (by omega) h3).symm
 ·try rw [h1]
  try simp only [qA] at h1
  refine Qq Z (Qq Z (Qi Z Z (hK _ _ (Qa (kp4 Z Z Z Z) ?_))))
  refine ZE Z (ZC (QR (QD (QJ (Qf (QV) (Qe fun K hK => Qb Z (hK _ _ (Qa (kp1 Z) ?_))))))))
  refine Qr (Ql Z ?_)
  first
   | exact (Qb9 (i := i) (by omega) hI.2).symm
   | exact (Qca h2).symm
   | exact (Qcb h2 (i := i) (by omega) h3).symm
theorem YB {s : List (Cu × Cu) × List (Cu × Cu)} (h1s : Sm s.1) (h2s : Sm s.2) : Ok Tryd.prog 45 [Qdh s] (.bool (QcP s)) := by
 refine Ok.ofT Z3 Tryd.func45 Qq4 (Nat.le_of_ble_eq_true Z) ?_
 show TW _ _ tf45.body _ _
 have hn := h1s.1
 refine Qe fun K hK => ZL Z Z Z (Qb Z (hK _ _ (Qa (kp1 Z) ?_)))
 refine QH ?_ -- 0
 refine Qe fun K hK => Qh Z Z (QF Z Z Z (Qz (ZX h1s) Z Z (.inr Z) (ZM Z (Qb Z ?_))))
 refine Qw (g := 8) Z (fun h1 => ?_) (fun h1 => ?_)
 ·try rw [h1]
  try simp only [qA] at h1
  refine Qq Z (Qq Z (Qq Z (Qq Z (Qi Z Z (hK _ _ (Qa (kp2 Z Z) ?_))))))
  refine Zm Z (Qe fun K hK => Qb Z (hK _ _ (Qa (kp1 Z) ?_)))
  refine Qr (Qk (Ql Z ?_))
  first
   | exact (Qdv (i := i) h1 h2 (by omega) hI.2).symm
   | exact (Qaf (i := i) (by omega) (.inl h4)).symm
   | exact (Qaf (i := i) (by omega) (.inr h5)).symm
   | exact (QaH (.inl h1)).symm
   | exact (QaH (.inr h2)).symm
 ·try rw [h1]
  try simp only [qA] at h1
  refine Qg Z (Qh Z Z (Qg Z (QF Z Z Z (Qg Z (Qz (ZX h2s) Z Z (.inr Z) (Qg Z (ZM Z (Qi Z Z (hK _ _ (Qa (kp2 Z Z) ?_))))))))))
  refine QA Z (fun h2 => ?_) (fun h2 => ?_)
  ·try rw [h2]
   try simp only [qA] at h2
   refine Qe fun K hK => Qb Z (hK _ _ (Qa (kp1 Z) ?_))
   refine Qr (Qk (Ql Z ?_))
   first
    | exact (Qdv (i := i) h1 h2 (by omega) hI.2).symm
    | exact (Qaf (i := i) (by omega) (.inl h4)).symm
    | exact (Qaf (i := i) (by omega) (.inr h5)).symm
    | exact (QaH (.inl h1)).symm
    | exact (QaH (.inr h2)).symm
  ·try rw [h2]
   try simp only [qA] at h2
   refine Qy (Qf (kp1 Z) ?_)
   refine QH ?_ -- 1
   refine Qe fun K hK => Qb Z (hK _ _ (Qa (kp2 Z Z) ?_))
   refine QM ?_
   refine Ya (ι := Nat) (fun i => ⟨[(1, .ref 1 0 0), (3, .int .i64 i)], [(1, ⟨[[Q8 s.1, Q8 s.2]], 2, 30, true⟩)]⟩) (fun i => i <= s.1.length /\ (s.1.take i).all (fun x => Xh x.1 && Xh x.2) = true) (fun i => s.1.length - i) 0 ?_ ?_ ?_
   ·exact Zx (l := [1, 3]) (lH := [1]) (kp2 rfl rfl) (Qx rfl QC) rfl rfl rfl
   ·exact ⟨Nat.zero_le _, by simp⟩
   intro i hI
   try dsimp only
   refine QH ?_ -- 2
   refine Qe fun K hK => Qb Z (Qh Z Z (QF Z Z Z (ZB Z Z (YM Z Z (hK _ _ (Qa (kp3 Z Z Z) ?_))))))
   refine QA Z (fun h3 => ?_) (fun h3 => ?_)
   ·try rw [h3]
    try simp only [qA] at h3
    refine Qy (Qf (kp2 Z Z) ?_)
    refine QH ?_ -- 3
    refine QM (Qe fun K hK => Qh Z Z (QF Z Z Z (Qb Z (QY Z Z Z (by omega) (ZO (by omega)) Z (ZU Z Z (QE (cs := [_, _, _, _, _, _, _]) Z Z Z Z (Qz (XV) Z Z (.inr Z) (ZM Z (Qb Z ?_)))))))))
    refine Qw (g := 29) Z (fun h4 => ?_) (fun h4 => ?_)
    ·try rw [h4]
     try simp only [qA] at h4
     refine Qq Z (Qq Z (Qq Z (Qq Z (Qq Z (Qq Z (Qq Z (Qq Z (Qi Z Z (hK _ _ (Qa (kp3 Z Z Z) ?_))))))))))
     refine Zm Z (Qe fun K hK => Qb Z (hK _ _ (Qa (kp1 Z) ?_)))
     refine Qr (Qu (Qk (Q9 (Qu (Qk (Ql Z ?_))))))
     first
      | exact (Qdv (i := i) h1 h2 (by omega) hI.2).symm
      | exact (Qaf (i := i) (by omega) (.inl h4)).symm
      | exact (Qaf (i := i) (by omega) (.inr h5)).symm
      | exact (QaH (.inl h1)).symm
      | exact (QaH (.inr h2)).symm
    ·try rw [h4]
     try simp only [qA] at h4
     refine Qg Z (Qh Z Z (Qg Z (QF Z Z Z (Qg Z (Qb Z (Qg Z (QY Z Z Z (by omega) (ZO (by omega)) Z (Qg Z (ZU Z Z (Qg Z (QE (cs := [_, _, _, _, _, _, _]) Z Z Z Z ?_)))))))))))
     refine Qg Z (Qz (XV) Z Z (.inr Z) (Qg Z (ZM Z (Qi Z Z (hK _ _ (Qa (kp3 Z Z Z) ?_))))))
     refine QA Z (fun h5 => ?_) (fun h5 => ?_)
     ·try rw [h5]
      try simp only [qA] at h5
      refine Qe fun K hK => Qb Z (hK _ _ (Qa (kp1 Z) ?_))
      refine Qr (Qu (Qk (Q9 (Qu (Qk (Ql Z ?_))))))
      first
       | exact (Qdv (i := i) h1 h2 (by omega) hI.2).symm
       | exact (Qaf (i := i) (by omega) (.inl h4)).symm
       | exact (Qaf (i := i) (by omega) (.inr h5)).symm
       | exact (QaH (.inl h1)).symm
       | exact (QaH (.inr h2)).symm
     ·try rw [h5]
      try simp only [qA] at h5
      refine Qy (Qm (Qf (kp2 Z Z) (Zg fun K hK => Qb Z (Zl Z Z (by first | exact Qt (by omega) (by omega) | rfl) (Qb Z (hK _ ?_))))))
      refine Qp (i + 1) ?_ ?_ ?_
      ·exact Zx (l := [1, 3]) (lH := [1]) (kp2 rfl rfl) (Qx rfl QC) rfl rfl rfl
      ·exact ⟨by omega, Zf (by omega) hI.2 (by rw [show Xh s.1[i].1 = true from h4, show Xh s.1[i].2 = true from h5]; rfl)⟩
      ·first | omega | (simp only; omega) | (dsimp only; omega)
   ·try rw [h3]
    try simp only [qA] at h3
    refine ZC (QR (QD (QJ (Qf (QV) (Qe fun K hK => Qb Z (hK _ _ (Qa (kp1 Z) ?_)))))))
    refine Qr (Ql Z ?_)
    first
     | exact (Qdv (i := i) h1 h2 (by omega) hI.2).symm
     | exact (Qaf (i := i) (by omega) (.inl h4)).symm
     | exact (Qaf (i := i) (by omega) (.inr h5)).symm
     | exact (QaH (.inl h1)).symm
     | exact (QaH (.inr h2)).symm
theorem Qdb {s : List (Cu × Cu) × List (Cu × Cu)} (h1s : Sm s.1) (h2s : Sm s.2) {a b c : Int} {p q : List UInt8} (hp : p.length <= 1000000) (hq : q.length <= 1000000) : Ok Tryd.prog 25 [Qdh s, .agg [.int .i64 a, .int .i64 b, .int .i64 c, .str p, .str q]] (.bool (Qfg s a b c p q)) := by
 refine Ok.ofT Z3 Tryd.func25 QqR (Nat.le_of_ble_eq_true Z) ?_
 show TW _ _ tf25.body _ _
 refine Qe fun K hK => ZL Z Z Z (ZL Z Z Z (Qb Z (hK _ _ (Qa (kp2 Z Z) ?_))))
 refine QH ?_ -- 0
 refine Qe fun K hK => QE (cs := [_, _]) Z Z Z Z (Qz (YB h1s h2s) Z Z (.inr Z) (ZM Z (Qb Z ?_)))
 refine Qw (g := 8) Z (fun h1 => ?_) (fun h1 => ?_)
 ·try rw [h1]
  try simp only [qB] at h1
  refine Qq Z (Qq Z (Qq Z (Qi Z Z (hK _ _ (Qa (kp3 Z Z Z) ?_)))))
  refine Zm Z (Qe fun K hK => Qb Z (hK _ _ (Qa (kp1 Z) ?_)))
  refine Qr (Qk (Ql Z ?_))
  (repeat clear hK K); simp_all [Qfg]
 ·try rw [h1]
  try simp only [qB] at h1
  refine Qg Z (QE (cs := [_, _, _, _, _]) Z Z Z Z (Qg Z (Qz (Za hp hq) Z Z (.inr Z) (Qg Z (ZM Z (Qi Z Z (hK _ _ (Qa (kp3 Z Z Z) ?_))))))))
  refine QA Z (fun h2 => ?_) (fun h2 => ?_)
  ·try rw [h2]
   try simp only [qB] at h2
   refine Qe fun K hK => Qb Z (hK _ _ (Qa (kp1 Z) ?_))
   refine Qr (Qk (Ql Z ?_))
   (repeat clear hK K); simp_all [Qfg]
  ·try rw [h2]
   try simp only [qB] at h2
   refine Qy (Qf (kp2 Z Z) ?_)
   refine QH ?_ -- 1
   refine Qe fun K hK => Qh Z Z (QF Z Z Z (QbA Z Z (hK _ _ (Qa (kp3 Z Z Z) ?_))))
   refine QA Z (fun h3 => ?_) (fun h3 => ?_)
   ·try rw [h3]
    try simp only [qB] at h3
    refine Qe fun K hK => Qh Z Z (QF Z Z Z (QE (cs := [_, _, _, _, _]) Z Z Z Z (Qz (Qao h1s hp hq) Z Z (.inr Z) (Qb Z (hK _ _ (Qa (kp1 Z) ?_))))))
    refine Qr (Qk (Ql Z ?_))
    (repeat clear hK K); simp_all [Qfg]
   ·try rw [h3]
    try simp only [qB] at h3
    refine Qy (Qf (kp2 Z Z) (Qe fun K hK => Qh Z Z (QF Z Z Z (QE (cs := [_, _, _, _, _]) Z Z Z Z (Qz (Qao h2s hp hq) Z Z (.inr Z) (Qb Z (hK _ _ (Qa (kp1 Z) ?_))))))))
    refine Qr (Ql Z ?_)
    (repeat clear hK K); simp_all [Qfg]
end Go.Proofs
namespace Go.Proofs
open Go Go.Abs M3 M25
set_option linter.unusedVariables false
set_option linter.unusedSimpArgs false
theorem Qaq {l : List Cu} {c : Cu} (hl : l.length <= 3000000) (hs : ∀ x ∈ l, Cu.sm x) (hc : Cu.sm c) : Ok Tryd.prog 90 [Qgy l, .agg (dCu c)] (Qgy (QbU l c)) := by
 refine Ok.ofT Z3 Tryd.func90 QrL (Nat.le_of_ble_eq_true Z) ?_
 show TW _ _ tf90.body _ _
 refine Qe fun K hK => ZL Z Z Z (Qb Z (hK _ _ (Qa (kp2 Z Z) ?_)))
 refine Qe fun K hK => Qb Z (hK _ _ (Qa (kp3 Z Z Z) ?_))
 refine QH ?_ -- 0
 refine QM ?_
 refine Ya (ι := Nat) (fun k => ⟨[(0, Qgy l), (3, .ref 3 0 0), (5, .int .i64 k)], [(3, ⟨[dCu c], 7, 90, true⟩)]⟩) (fun k => k <= l.length /\ QbU l c = l.take k ++ QbU (l.drop k) c) (fun k => l.length - k) 0 ?_ ?_ ?_
 ·exact Zx (l := [0, 3, 5]) (lH := [3]) (kp3 rfl rfl rfl) (Qx rfl QC) rfl rfl rfl
 ·exact ⟨Nat.zero_le _, by simp⟩
 intro k hI
 try dsimp only
 refine QH ?_ -- 1
 refine Qe fun K hK => Qb Z (Qb Z (ZB Z Z (YM Z Z (Qb Z ?_))))
 refine Qw (g := 10) Z (fun h1 => ?_) (fun h1 => ?_)
 ·try rw [h1]
  try simp only [qA] at h1
  refine Qg Z (Qb Z (Qg Z (Qb Z (Qg Z (QY Z Z Z (by omega) (ZO (by omega)) Z (Qg Z (QK (ds0 := [2, 1, 0]) (cs := [_, _, _, _, _, _, _]) Z Z Z Z Z Z (Qg Z (QK (ds0 := [2, 1, 0]) (cs := [_, _, _, _, _, _, _]) Z Z Z Z Z Z (Qg Z (QX (ds0 := [1, 0]) (Zu (hs _ (List.getElem_mem (by omega))).1 (hs _ (List.getElem_mem (by omega))).2 hc.1 hc.2) Z Z (.inr Z) Z Z ?_)))))))))))
  refine Qg Z (YM Z Z (Qi Z Z (hK _ _ (Qa (kp4 Z Z Z Z) ?_))))
  refine QA Z (fun h2 => ?_) (fun h2 => ?_)
  ·try rw [h2]
   try simp only [qA] at h2
   refine Qy (Qf (kp3 Z Z Z) (QM (Zg fun K hK => Qb Z (Zl Z Z (by first | exact Qt (by omega) (by omega) | rfl) (Qb Z (hK _ ?_))))))
   refine Qm ?_
   refine Qp (k + 1) ?_ ?_ ?_
   ·exact Zx (l := [0, 3, 5]) (lH := [3]) (kp3 rfl rfl rfl) (Qx rfl QC) rfl rfl rfl
   ·exact ⟨by omega, Qlu (by omega) h2 hI.2⟩
   ·first | omega | (simp only; omega) | (dsimp only; omega)
  ·try rw [h2]
   try simp only [qA] at h2
   refine ZC (QR (QD (QJ (Qf (kp3 Z Z Z) ?_))))
   refine QH ?_ -- 2
   refine Qe fun K hK => Qb Z (Qb Z (ZB Z Z (YM Z Z (Qb Z ?_))))
   refine Qw (g := 25) Z (fun h3 => ?_) (fun h3 => ?_)
   ·try rw [h3]
    try simp only [qA] at h3
    refine Qg Z (Qb Z (Qg Z (Qb Z (Qg Z (QY Z Z Z (by omega) (ZO (by omega)) Z (Qg Z (QK (ds0 := [2, 1, 0]) (cs := [_, _, _, _, _, _, _]) Z Z Z Z Z Z (Qg Z (QK (ds0 := [2, 1, 0]) (cs := [_, _, _, _, _, _, _]) Z Z Z Z Z Z (Qg Z (QX (ds0 := [1, 0]) (Zu (hs _ (List.getElem_mem (by omega))).1 (hs _ (List.getElem_mem (by omega))).2 hc.1 hc.2) Z Z (.inr Z) Z Z ?_)))))))))))
    refine Qg Z (YF Z Z (Qi Z Z (hK _ _ (Qa (kp4 Z Z Z Z) ?_))))
    refine QA Z (fun h4 => ?_) (fun h4 => ?_)
    ·try rw [h4]
     try simp only [qA] at h4
     refine Qe fun K hK => Qb Z (Qb Z (hK _ _ (Qa (kp1 Z) ?_)))
     refine Qr (Qk (Z5 Z ?_))
     rw [Qlt (k := k) (by omega) (by assumption) hI.2]; rfl
    ·try rw [h4]
     try simp only [qA] at h4
     refine Qy (Qf (kp3 Z Z Z) (Qe fun K hK => Qb Z (Qb Z (Qgp Z Z Z Z (by omega) (by omega) (by simp; omega) Qib Z (Qir (ds0 := [5, 1, 0]) Z Z (fun _ h => ⟨QmY, h⟩) Z (.inl Z) (by simp) (by simp; omega) (by simp; omega) Z Z (QK (ds0 := [6, 5, 1, 0]) (cs := [_, _, _, _, _, _, _]) Z Z Z Z Z Z (QN Z Z (QeH (ds0 := [1, 0]) Z Z (by simp [D.ids, D.sid]) ⟨_, rfl, rfl, rfl, rfl, rfl⟩ Z Z (by simp) Z Z (by simp; omega) (by simp; omega) Z Z (Qb Z (Qb Z ?_))))))))))
     refine Qgp Z Z Z Z (by omega) (by simp; omega) (by simp) Qib Z (QeH (ds0 := [0]) Z Z (by simp [D.ids, D.sid]) ⟨rfl, QmY, rfl⟩ Z Z (by simp) Z Z (by simp; omega) (by simp; omega) Z Z (Qb Z (hK _ _ (Qa (kp1 Z) ?_))))
     refine Qr (Z5 Z ?_)
     rw [QjL (k := k) (by first | exact .inl (by omega) | exact .inr ⟨by omega, by assumption, by assumption⟩) hI.2]; simp [Qai, D.fz, D.fzS, QdF, lk, D.can, D.canS, Qgy, D.sid, (show ∀ a b : Nat, a + 1 + b = a + (b + 1) from fun a b => by omega), List.take_of_length_le (show (l.map dCu).length <= l.length by simp)] <;> rfl
   ·try rw [h3]
    try simp only [qA] at h3
    exact absurd h1 h3
 ·try rw [h1]
  try simp only [qA] at h1
  refine Qq Z (Qq Z (Qq Z (Qq Z (Qq Z (Qq Z (Qq Z (Qi Z Z (hK _ _ (Qa (kp4 Z Z Z Z) ?_)))))))))
  refine ZE Z (ZC (QR (QD (QJ (Qf (kp3 Z Z Z) ?_)))))
  refine QH ?_ -- 2
  refine Qe fun K hK => Qb Z (Qb Z (ZB Z Z (YM Z Z (Qb Z ?_))))
  refine Qw (g := 25) Z (fun h5 => ?_) (fun h5 => ?_)
  ·try rw [h5]
   try simp only [qA] at h5
   exact absurd h5 h1
  ·try rw [h5]
   try simp only [qA] at h5
   refine Qq Z (Qq Z (Qq Z (Qq Z (Qq Z (Qq Z (Qq Z (Qi Z Z (hK _ _ (Qa (kp4 Z Z Z Z) ?_)))))))))
   refine ZE Z (Qy (Qf (kp3 Z Z Z) (Qe fun K hK => Qb Z (Qb Z (Qgp Z Z Z Z (by omega) (by omega) (by simp; omega) Qib Z (Qir (ds0 := [5, 1, 0]) Z Z (fun _ h => ⟨QmY, h⟩) Z (.inl Z) (by simp) (by simp; omega) (by simp; omega) Z Z (QK (ds0 := [6, 5, 1, 0]) (cs := [_, _, _, _, _, _, _]) Z Z Z Z Z Z (QN Z Z (QeH (ds0 := [1, 0]) Z Z (by simp [D.ids, D.sid]) ⟨_, rfl, rfl, rfl, rfl, rfl⟩ Z Z (by simp) Z Z (by simp; omega) (by simp; omega) Z Z (Qb Z ?_))))))))))
   refine Qb Z (Qgp Z Z Z Z (by omega) (by simp; omega) (by simp) Qib Z (QeH (ds0 := [0]) Z Z (by simp [D.ids, D.sid]) ⟨rfl, QmY, rfl⟩ Z Z (by simp) Z Z (by simp; omega) (by simp; omega) Z Z (Qb Z (hK _ _ (Qa (kp1 Z) ?_)))))
   refine Qr (Z5 Z ?_)
   rw [QjL (k := k) (by first | exact .inl (by omega) | exact .inr ⟨by omega, by assumption, by assumption⟩) hI.2]; simp [Qai, D.fz, D.fzS, QdF, lk, D.can, D.canS, Qgy, D.sid, (show ∀ a b : Nat, a + 1 + b = a + (b + 1) from fun a b => by omega), List.take_of_length_le (show (l.map dCu).length <= l.length by simp)] <;> rfl
theorem Qaa {l : List (Cu × Cu)} (hl : Sm l) : Ok Tryd.prog 68 [Q8 l] (Qgy (YU l)) := by
 refine Ok.ofT Z3 Tryd.func68 Qrp (Nat.le_of_ble_eq_true Z) ?_
 show TW _ _ tf68.body _ _
 have hn := hl.1
 refine Qe fun K hK => Qb Z (hK _ _ (Qa (kp1 Z) ?_))
 refine Qe fun K hK => Qz (Y2) Z Z (.inl Z) (Qz (Xc) Z Z (.inl Z) (QN Z Z (Qb Z (hK _ _ (Qa (kp2 Z Z) ?_)))))
 refine QH ?_ -- 0
 refine Qe fun K hK => Qb Z (hK _ _ (Qa (kp3 Z Z Z) ?_))
 refine QM ?_
 refine Ya (ι := Nat) (fun i => ⟨[(0, Q8 l), (3, Qgy (YU (l.take i))), (4, .int .i64 i)], []⟩) (fun i => i <= l.length) (fun i => l.length - i) 0 ?_ ?_ ?_
 ·exact le_trans (Qln 7 _ (by decide)) (Zx (l := [0, 3, 4]) (lH := []) (kp3 rfl rfl rfl) QC rfl rfl rfl)
 ·exact Nat.zero_le _
 intro i hI
 try dsimp only
 refine QH ?_ -- 1
 refine Qe fun K hK => Qb Z (Qb Z (ZB Z Z (YM Z Z (hK _ _ (Qa (kp4 Z Z Z Z) ?_)))))
 refine QA Z (fun h1 => ?_) (fun h1 => ?_)
 ·try rw [h1]
  try simp only [qA] at h1
  refine Qy (Qf (kp3 Z Z Z) ?_)
  refine QH ?_ -- 2
  refine QM (Zg fun K hK => Qb Z (Qb Z (Qb Z (QY Z Z Z (by omega) (ZO (by omega)) Z (ZU Z Z (QK (ds0 := [7, 1, 0]) (cs := [_, _, _, _, _, _, _]) Z Z Z Z Z Z (QX (ds0 := [1, 0]) (Qaq (Nat.le_trans (Qer hl i).1 (by omega)) (Qer hl i).2 (hl.2 _ (List.getElem_mem (by omega))).1) Z Z (.inl Z) Z Z (Qb Z (Qb Z (QY Z Z Z (by omega) (ZO (by omega)) Z ?_))))))))))
  refine ZU Z Z (QK (ds0 := [1, 0]) (cs := [_, _, _, _, _, _, _]) Z Z Z Z Z Z (QX (ds0 := [0]) (Qaq (Nat.le_trans (Qes _ _) (by have := (Qer hl i).1; omega)) (QgU (Qer hl i).2 (hl.2 _ (List.getElem_mem (by omega))).1) (hl.2 _ (List.getElem_mem (by omega))).2) Z Z (.inl Z) Z Z (Qb Z (hK _ ?_))))
  refine Qm (Qf (kp3 Z Z Z) (Zg fun K hK => Qb Z (Zl Z Z (by first | exact Qt (by omega) (by omega) | rfl) (Qb Z (hK _ ?_)))))
  refine Qp (i + 1) ?_ ?_ ?_
  ·exact Zx (l := [0, 3, 4]) (lH := []) (kp3 rfl rfl rfl) QC (by rw [QmK (by omega)]; rfl) rfl rfl
  ·omega
  ·first | omega | (simp only; omega) | (dsimp only; omega)
 ·try rw [h1]
  try simp only [qA] at h1
  refine ZC (QR (QD (QJ (Qf (kp1 Z) (Qe fun K hK => Qb Z (Qb Z (hK _ _ (Qa (kp1 Z) ?_))))))))
  refine Qr (Z5 Z ?_)
  rw [List.take_of_length_le (show l.length <= i by omega)]; rfl
end Go.Proofs
namespace Go.Proofs
open Go Go.Abs M3 M25
set_option linter.unusedVariables false
set_option linter.unusedSimpArgs false
theorem Qab {l : List (Cu × Cu)} {x y : Cu} (hn : l.length <= 3000000) (hl : ∀ s ∈ l, Cu.sm s.1 /\ Cu.sm s.2) (hx : Cu.sm x) (hy : Cu.sm y) : OkH Tryd.prog 70 [.osl 500000 l.length, .agg (dCu x), .agg (dCu y)] [(500000, ⟨l.map Qee, 14, 93, true⟩)] (.osl 500000 (QbT l x y).length) [(500000, ⟨(QbT l x y).map Qee, 14, 93, true⟩)] := by
 refine OkH.mv Z3 Tryd.func70 Qrr (Nat.le_of_ble_eq_true Z) Z ?_
 show TW _ _ tf70.body _ _
 refine Qe fun K hK => ZL Z Z Z (ZL Z Z Z (Qb Z (hK _ _ (Qa (kp3 Z Z Z) ?_))))
 refine QH ?_ -- 0
 refine Qe fun K hK => Qb Z (ZB Z Z (Qc0 Z Z (by first | exact Qt (by omega) (by omega) | rfl) (Qb Z (hK _ _ (Qa (kp4 Z Z Z Z) ?_)))))
 refine Qe fun K hK => Qb Z (Qjf Z Z (Qb Z ?_))
 refine Qw (g := 13) Z (fun h1 => ?_) (fun h1 => ?_)
 ·try rw [h1]
  try simp only [qA] at h1
  refine Qg Z (Qb Z (Qg Z (Qb Z (Qg Z (QcZ (ds0 := [5, 4, 2, 1, 0]) Z Z Z (by simp) (by omega) (by omega) Z Z Z (Qg Z (Qh Z Z (Qg Z (QK (ds0 := [2, 1, 0]) (cs := [_, _, _, _, _, _, _]) Z (ZW Z (Z7 (by omega) (by omega))) Z Z Z Z (Qg Z (QK (ds0 := [2, 1, 0]) (cs := [_, _, _, _, _, _, _]) Z Z Z Z Z Z ?_)))))))))))
  refine Qg Z (QX (ds0 := [1, 0]) (Zu (hl _ (List.getElem_mem (by omega))).2.1 (hl _ (List.getElem_mem (by omega))).2.2 hx.1 hx.2) Z Z (.inr Z) Z Z (Qg Z (YF Z Z (Qi Z Z (hK _ _ (Qa (kp5 Z Z Z Z Z) ?_))))))
  refine QA Z (fun h2 => ?_) (fun h2 => ?_)
  ·try rw [h2]
   try simp only [qA] at h2
   refine Qe fun K hK => Qb Z (Qb Z (QE (cs := [_, _, _, _, _, _, _]) Z Z Z Z (Qa4 Z Z Z (by simp) (by omega) (by omega) Z (Qh Z Z (QW Z Z (Z7 (by omega) (by omega)) Z Z Z Z Z (hK _ _ (Qa (kp1 Z) ?_)))))))
   refine Qe fun K hK => Qb Z (Qb Z (hK _ _ (Qa (kp1 Z) ?_)))
   refine Qr (Qk ?_)
   refine Qag Z ?_ (Qi1 ?_)
   ·rw [QhX (i := ((l.length : Int) - 1).toNat) (by omega) h2]; simp [Ql3, D.fz, D.fzS, QfN, D.can, D.canS]
   ·rw [QhX (i := ((l.length : Int) - 1).toNat) (by omega) h2]; simp [lk, List.map_set, Qee, dCu, setRow, D.sid]
  ·try rw [h2]
   try simp only [qA] at h2
   refine Qy (Qf (kp3 Z Z Z) (Qe fun K hK => Qb Z (QE (cs := [_, _, _, _, _, _, _]) Z Z Z Z (QE (cs := [_, _, _, _, _, _, _]) Z Z Z Z (Q4 Z Z (QN Z Z (Qbz Z Z (fun _ h => Qbt Z Z Z h) Z (by simp) Z Z Z (by simp; omega) (by simp; omega) (Qb Z (hK _ _ (Qa (kp1 Z) ?_))))))))))
   refine Qr ?_
   refine Qag Z ?_ (Qi1 ?_)
   ·rw [Qdt (.inr ⟨((l.length : Int) - 1).toNat, by omega, h2⟩)]; simp [Ql3, D.fz, D.fzS, QfN, D.can, D.canS]
   ·rw [Qdt (.inr ⟨((l.length : Int) - 1).toNat, by omega, h2⟩)]; simp [lk, Qee, dCu, D.sid]
 ·try rw [h1]
  try simp only [qA] at h1
  refine Qq Z (Qq Z (Qq Z (Qq Z (Qq Z (Qq Z (Qq Z (Qq Z (Qi Z Z (hK _ _ (Qa (kp5 Z Z Z Z Z) ?_))))))))))
  refine ZE Z (Qy (Qf (kp3 Z Z Z) (Qe fun K hK => Qb Z (QE (cs := [_, _, _, _, _, _, _]) Z Z Z Z (QE (cs := [_, _, _, _, _, _, _]) Z Z Z Z (Q4 Z Z (QN Z Z (Qbz Z Z (fun _ h => Qbt Z Z Z h) Z (by simp) Z Z Z (by simp; omega) (by simp; omega) (Qb Z (hK _ _ (Qa (kp1 Z) ?_)))))))))))
  refine Qr ?_
  have h0 : l = [] := List.eq_nil_of_length_eq_zero (by omega)
  refine Qag Z ?_ (Qi1 ?_)
  ·rw [Qdt (.inl h0)]; simp [Ql3, D.fz, D.fzS, QfN, D.can, D.canS]
  ·rw [Qdt (.inl h0)]; simp [lk, Qee, dCu, D.sid]
end Go.Proofs
namespace Go.Proofs
open Go Go.Abs M3 M25
set_option linter.unusedVariables false
set_option linter.unusedSimpArgs false
theorem QcL {l : List (Cu × Cu)} (hl : Sm l) : Ok Tryd.prog 67 [Q8 l] (.tup [Q8 (QiP l), .bool (l.all QcC)]) := by
  refine Ok.ofT Z3 Tryd.func67 Qro (Nat.le_of_ble_eq_true Z) ?_
  show TW _ _ tf67.body _ _
  have hn := hl.1
  have hc1 := QbR l
  refine Qe fun K hK => Qb Z (Qb Z (hK _ _ (Qa (kp1 Z) ?_)))
  refine QH ?_ -- 0
  refine Qe fun K hK => Qb Z (hK _ _ (Qa (kp2 Z Z) ?_))
  refine QM ?_
  refine Ya (ι := Nat) (fun i => ⟨[(0, Q8 l), (4, .int .i64 i)], []⟩) (fun i => i <= l.length /\ (l.take i).all QcC = true) (fun i => l.length - i) 0 ?_ ?_ ?_
  · exact Zb (kp2 rfl rfl)
  · exact ⟨Nat.zero_le _, by simp⟩
  intro i hI
  try dsimp only
  refine QH ?_ -- 1
  refine Qe fun K hK => Qb Z (Qb Z (ZB Z Z (YM Z Z (hK _ _ (Qa (kp3 Z Z Z) ?_)))))
  refine QA Z (fun h1 => ?_) (fun h1 => ?_)
  · try rw [h1]
    try simp only [qA] at h1
    refine Qy (Qf (kp2 Z Z) ?_)
    refine QH ?_ -- 2
    refine QM (Qe fun K hK => Qb Z (Qb Z (QY Z Z Z (by omega) (ZO (by omega)) Z (QE (cs := [_, _, _, _, _, _, _, _, _, _, _, _, _, _]) Z Z Z Z (Qz (YA (hl.at (i := i) (by omega)).1.1 (hl.at (i := i) (by omega)).1.2 (hl.at (i := i) (by omega)).2.1 (hl.at (i := i) (by omega)).2.2) Z Z (.inr Z) (ZM Z (hK _ _ (Qa (kp3 Z Z Z) ?_))))))))
    refine QA Z (fun h2 => ?_) (fun h2 => ?_)
    · try rw [h2]
      try simp only [qA] at h2
      refine Qe fun K hK => Qb Z (Qb Z (hK _ _ (Qa (kp2 Z Z) ?_)))
      refine Qr (Qu (Qk (Q9 (Qu (Qk ?_)))))
      first
        | exact ZR rfl rfl ⟨by rw [QiP, if_neg (by rw [Yl (i := i) (by omega) (by assumption)]; simp)]; rfl, by rw [Yl (i := i) (by omega) (by assumption)]; rfl⟩
        | (have ha : l.all QcC = true := Xb (by omega) hI.2
           exact ZR rfl rfl ⟨by rw [QiP, if_pos ha, hI2.done (by omega)]; simp [Qai, D.fz, D.fzS, QdF, lk, D.can, D.canS, Q8], by rw [ha]; rfl⟩)
    · try rw [h2]
      try simp only [qA] at h2
      refine Qy (Qm (Qf (kp2 Z Z) (Zg fun K hK => Qb Z (Zl Z Z (by first | exact Qt (by omega) (by omega) | rfl) (Qb Z (hK _ ?_))))))
      refine Qp (i + 1) ?_ ?_ ?_
      · exact Zb (kp2 rfl rfl)
      · exact ⟨by omega, Zf (by omega) hI.2 (by assumption)⟩
      · first | omega | (simp only; omega) | (dsimp only; omega)
  · try rw [h1]
    try simp only [qA] at h1
    refine ZC (QR (QD (QJ (Qf (kp1 Z) (Qe fun K hK => Qb Z (hK _ _ (Qa (kp2 Z Z) ?_)))))))
    refine Qe fun K hK => Qb Z (Qz (Qaa hl) Z Z (.inl Z) (Qb Z (hK _ _ (Qa (kp3 Z Z Z) ?_))))
    refine QH ?_ -- 3
    refine Qe fun K hK => Qb Z (hK _ _ (Qa (kp4 Z Z Z Z) ?_))
    refine QM ?_
    refine Ya (ι := Nat × List (Cu × Cu)) (fun ⟨i, out⟩ => ⟨[(0, Q8 l), (5, .osl 5 out.length), (6, Qgy (YU l)), (7, .int .i64 i)], [(5, ⟨out.map Qee, 14, 93, true⟩)]⟩) (fun ⟨i, out⟩ => i <= (YU l).length /\ FillI (mIn l) (YU l) i out) (fun ⟨i, out⟩ => (YU l).length - i) (0, []) ?_ ?_ ?_
    · exact le_trans (XO 5 5 14 93 rfl rfl) (Zx (l := [0, 5, 6, 7]) (lH := [5]) (kp4 rfl rfl rfl rfl) (Qx rfl QC) rfl rfl rfl)
    · exact ⟨Nat.zero_le _, FillI.zero⟩
    intro ⟨i, out⟩ hI
    obtain ⟨hI1, hI2⟩ := hI
    have hI3 := hI2.1
    try dsimp only
    refine QH ?_ -- 4
    refine Qe fun K hK => Qb Z (Zl Z Z (by first | exact Qt (by omega) (by omega) | rfl) (Qb Z (ZB Z Z (YM Z Z (hK _ _ (Qa (kp5 Z Z Z Z Z) ?_))))))
    refine QA Z (fun h3 => ?_) (fun h3 => ?_)
    · try rw [h3]
      try simp only [qA] at h3
      refine Qy (Qf (kp4 Z Z Z Z) ?_)
      refine QH ?_ -- 5
      refine QM (Qe fun K hK => Qb Z (Qb Z (Qb Z (QY Z Z Z (by omega) (ZO (by omega)) Z (QK (ds0 := [0]) (cs := [_, _, _, _, _, _, _]) Z Z Z Z Z Z (Qb Z (Qb Z (Zl Z Z (by first | exact Qt (by omega) (by omega) | rfl) (QY Z Z Z (by omega) (QjC (by omega)) Z (QK (ds0 := [0]) (cs := [_, _, _, _, _, _, _]) Z Z Z Z Z Z ?_))))))))))
      refine QX (ds0 := []) (QaM hl (Yx hl _ (List.getElem_mem (by omega))) (Yx hl _ (List.getElem_mem (by omega)))) Z Z (.inr Z) Z Z (hK _ _ (Qa (kp5 Z Z Z Z Z) ?_))
      refine QA Z (fun h4 => ?_) (fun h4 => ?_)
      · try rw [h4]
        try simp only [qA] at h4
        refine Zg fun K hK => Qb rfl (Qb rfl (Qb rfl (QY rfl rfl rfl (by omega) (ZO (by omega)) rfl (QK (ds0 := [1, 0]) (cs := [_, _, _, _, _, _, _]) rfl rfl rfl rfl rfl rfl (Qb rfl (Qb rfl (Zl rfl rfl (by first | exact Qt (by omega) (by omega) | rfl) (QY rfl rfl rfl (by omega) (QjC (by omega)) rfl (QK (ds0 := [1, 0]) (cs := [_, _, _, _, _, _, _]) rfl rfl rfl rfl rfl rfl (Qje (ds0 := [0]) (Qne (k := 5) rfl rfl rfl (by decide) rfl (by decide) (by simp [D.ids, D.sid, dCu]) ⟨.osl 5 out.length, by simp, by simp [D.ids, D.sid]⟩ rfl rfl (Qab (by omega) hI2.2.1 (Yx hl _ (List.getElem_mem (by omega))) (Yx hl _ (List.getElem_mem (by omega))))) (fun _ h => by cases h) rfl rfl ?_))))))))))
        refine Qb Z (hK _ ?_)
        refine Qm (Qf (kp4 Z Z Z Z) (Zg fun K hK => Qb Z (Zl Z Z (by first | exact Qt (by omega) (by omega) | rfl) (Qb Z (hK _ ?_)))))
        refine Qp (i + 1, QbT out (YU l)[i] (YU l)[i + 1]) ?_ ?_ ?_
        · exact le_trans (Qll (l := [0, 6, 7]) (t := 50) (u := 5) 5 (kp3 rfl rfl rfl) rfl rfl rfl rfl) (Zx (l := [0, 5, 6, 7]) (lH := [5]) (kp4 rfl rfl rfl rfl) (Qx rfl QC) rfl rfl rfl)
        · exact ⟨by omega, hI2.take (Yx hl) (by omega) (by assumption)⟩
        · show (YU l).length - (i + 1) < (YU l).length - i; omega
      · try rw [h4]
        try simp only [qA] at h4
        refine Qy (Qm (Qf (kp4 Z Z Z Z) (Zg fun K hK => Qb Z (Zl Z Z (by first | exact Qt (by omega) (by omega) | rfl) (Qb Z (hK _ ?_))))))
        refine Qp (i + 1, out) ?_ ?_ ?_
        · exact Zx (l := [0, 5, 6, 7]) (lH := [5]) (kp4 rfl rfl rfl rfl) (Qx rfl QC) rfl rfl rfl
        · exact ⟨by omega, hI2.skip (by omega) (by assumption)⟩
        · show (YU l).length - (i + 1) < (YU l).length - i; omega
    · try rw [h3]
      try simp only [qA] at h3
      refine ZC (QR (QD (QJ (Qf (kp1 Z) (Qe fun K hK => Qb Z (Qb Z (Qb Z (hK _ _ (Qa (kp2 Z Z) ?_)))))))))
      refine Qr ?_
      first
        | exact ZR rfl rfl ⟨by rw [QiP, if_neg (by rw [Yl (i := i) (by omega) (by assumption)]; simp)]; rfl, by rw [Yl (i := i) (by omega) (by assumption)]; rfl⟩
        | (have ha : l.all QcC = true := Xb (by omega) hI.2
           exact ZR rfl rfl ⟨by rw [QiP, if_pos ha, hI2.done (by omega)]; simp [Qai, D.fz, D.fzS, QdF, lk, D.can, D.canS, Q8], by rw [ha]; rfl⟩)
end Go.Proofs
namespace Go.Proofs
open Go Go.Abs M3 M25
set_option linter.unusedVariables false
set_option linter.unusedSimpArgs false
theorem QaL {a b : List (Cu × Cu)} (ha : Sm a) (hb : Sm b) (hab : a.length + b.length <= 1000000) : Ok Tryd.prog 49 [Q8 a, Q8 b] (Q8 (Qnn a b)) := by
 refine Ok.ofT Z3 Tryd.func49 Qq8 (Nat.le_of_ble_eq_true Z) ?_
 show TW _ _ tf49.body _ _
 refine Qe fun K hK => Qb Z (hK _ _ (Qa (kp2 Z Z) ?_))
 refine QH ?_ -- 0
 refine Qe fun K hK => Qb Z (Qz (ZX ha) Z Z (.inr Z) (ZM Z (Qb Z ?_)))
 refine Qw (g := 10) Z (fun h1 => ?_) (fun h1 => ?_)
 ·try rw [h1]
  try simp only [qB] at h1
  refine Qq Z (Qq Z (Qq Z (Qi Z Z (hK _ _ (Qa (kp3 Z Z Z) ?_)))))
  refine Zm Z (Qe fun K hK => Qb Z (hK _ _ (Qa (kp1 Z) ?_)))
  refine Qr (Qk (Z5 Z ?_))
  rw [Qnn, if_neg (by simp [h1])]; rfl
 ·try rw [h1]
  try simp only [qB] at h1
  refine Qg Z (Qb Z (Qg Z (Qz (ZX hb) Z Z (.inr Z) (Qg Z (ZM Z (Qi Z Z (hK _ _ (Qa (kp3 Z Z Z) ?_))))))))
  refine QA Z (fun h2 => ?_) (fun h2 => ?_)
  ·try rw [h2]
   try simp only [qB] at h2
   refine Qe fun K hK => Qb Z (hK _ _ (Qa (kp1 Z) ?_))
   refine Qr (Qk (Z5 Z ?_))
   rw [Qnn, if_neg (by simp [h1, h2])]; rfl
  ·try rw [h2]
   try simp only [qB] at h2
   refine Qy (Qf (kp2 Z Z) (Qe fun K hK => Qb Z (QoO Z Z (fun _ h => Qnx Qnr h) Z (.inl Z) (by simp) (by simp; omega) (by simp; omega) (Qb Z (Qbz Z Z (fun _ h => Qnx Qnr h) Z (by simp) Z Z Z (by simp; omega) (by simp; omega) ?_)))))
   apply QnG [17] (by simp)
   ·simp [St.freezeL, St.freeze, rem, D.fz, D.fzS, Box.fz, lk, D.scrub]; exact ⟨rfl, rfl⟩
   ·exact QcL (ha.app hb hab)
   ·rfl
   ·simp [Qai, D.fz, D.fzS, QdF, D.can, D.canS, Q8]
   ·exact .inl rfl
   refine Qb Z (Zh Z Z (Zh Z Z (Qb Z (Qb Z (hK _ _ (Qa (kp1 Z) ?_))))))
   refine Qe fun K hK => Qb Z (Qb Z (hK _ _ (Qa (kp1 Z) ?_)))
   refine Qr (Z5 Z ?_)
   rw [Qnn, if_pos ⟨h1, h2⟩]; rfl
theorem Qap {a : List (Cu × Cu)} (ha : Sm a) : Ok Tryd.prog 51 [Q8 a] (Q8 (QiQ a)) := by
 refine Ok.ofT Z3 Tryd.func51 Qq9 (Nat.le_of_ble_eq_true Z) ?_
 show TW _ _ tf51.body _ _
 have hn := ha.1
 have hc1 := QbR a
 refine Qe fun K hK => Qb Z (hK _ _ (Qa (kp1 Z) ?_))
 refine QH ?_ -- 0
 refine Qe fun K hK => Qb Z (Qz (ZX ha) Z Z (.inr Z) (ZM Z (hK _ _ (Qa (kp2 Z Z) ?_))))
 refine QA Z (fun h1 => ?_) (fun h1 => ?_)
 ·try rw [h1]
  try simp only [qA] at h1
  refine Qe fun K hK => Qb Z (hK _ _ (Qa (kp1 Z) ?_))
  refine Qr (Qk (Z5 Z ?_))
  rw [QiQ, if_neg (by simp [h1])]; rfl
 ·try rw [h1]
  try simp only [qA] at h1
  refine Qy (Qf (kp1 Z) (Qe fun K hK => Qb Z (hK _ _ (Qa (kp2 Z Z) ?_))))
  refine Qe fun K hK => Qb Z (Qz (Qaa ha) Z Z (.inl Z) (Qb Z (hK _ _ (Qa (kp3 Z Z Z) ?_))))
  refine QH ?_ -- 1
  refine Qe fun K hK => Qb Z (hK _ _ (Qa (kp4 Z Z Z Z) ?_))
  refine QM ?_
  refine Ya (ι := Nat × List (Cu × Cu)) (fun ⟨i, out⟩ => ⟨[(0, Q8 a), (3, .osl 3 out.length), (4, Qgy (YU a)), (5, .int .i64 i)], [(3, ⟨out.map Qee, 14, 93, true⟩)]⟩) (fun ⟨i, out⟩ => i <= (YU a).length /\ FillI (fun x y => !mIn a x y) (YU a) i out) (fun ⟨i, out⟩ => (YU a).length - i) (0, []) ?_ ?_ ?_
  ·exact le_trans (XO 3 3 14 93 rfl rfl) (Zx (l := [0, 3, 4, 5]) (lH := [3]) (kp4 rfl rfl rfl rfl) (Qx rfl QC) rfl rfl rfl)
  ·exact ⟨Nat.zero_le _, FillI.zero⟩
  intro ⟨i, out⟩ hI
  obtain ⟨hI1, hI2⟩ := hI
  have hI3 := hI2.1
  try dsimp only
  refine QH ?_ -- 2
  refine Qe fun K hK => Qb Z (Zl Z Z (by first | exact Qt (by omega) (by omega) | rfl) (Qb Z (ZB Z Z (YM Z Z (hK _ _ (Qa (kp5 Z Z Z Z Z) ?_))))))
  refine QA Z (fun h2 => ?_) (fun h2 => ?_)
  ·try rw [h2]
   try simp only [qA] at h2
   refine Qy (Qf (kp4 Z Z Z Z) ?_)
   refine QH ?_ -- 3
   refine QM (Qe fun K hK => Qb Z (Qb Z (Qb Z (QY Z Z Z (by omega) (ZO (by omega)) Z (QK (ds0 := [1, 0]) (cs := [_, _, _, _, _, _, _]) Z Z Z Z Z Z (Qb Z (Qb Z (Zl Z Z (by first | exact Qt (by omega) (by omega) | rfl) (QY Z Z Z (by omega) (QjC (by omega)) Z (QK (ds0 := [1, 0]) (cs := [_, _, _, _, _, _, _]) Z Z Z Z Z Z ?_))))))))))
   refine QX (ds0 := [0]) (QaM ha (Yx ha _ (List.getElem_mem (by omega))) (Yx ha _ (List.getElem_mem (by omega)))) Z Z (.inr Z) Z Z (ZM Z (hK _ _ (Qa (kp5 Z Z Z Z Z) ?_)))
   refine QA Z (fun h3 => ?_) (fun h3 => ?_)
   ·try rw [h3]
    try simp only [qA] at h3
    refine Zg fun K hK => Qb rfl (Qb rfl (Qb rfl (QY rfl rfl rfl (by omega) (ZO (by omega)) rfl (QK (ds0 := [1, 0]) (cs := [_, _, _, _, _, _, _]) rfl rfl rfl rfl rfl rfl (Qb rfl (Qb rfl (Zl rfl rfl (by first | exact Qt (by omega) (by omega) | rfl) (QY rfl rfl rfl (by omega) (QjC (by omega)) rfl (QK (ds0 := [1, 0]) (cs := [_, _, _, _, _, _, _]) rfl rfl rfl rfl rfl rfl (Qje (ds0 := [0]) (Qne (k := 3) rfl rfl rfl (by decide) rfl (by decide) (by simp [D.ids, D.sid, dCu]) ⟨.osl 3 out.length, by simp, by simp [D.ids, D.sid]⟩ rfl rfl (Qab (by omega) hI2.2.1 (Yx ha _ (List.getElem_mem (by omega))) (Yx ha _ (List.getElem_mem (by omega))))) (fun _ h => by cases h) rfl rfl ?_))))))))))
    refine Qb Z (hK _ ?_)
    refine Qm (Qf (kp4 Z Z Z Z) (Zg fun K hK => Qb Z (Zl Z Z (by first | exact Qt (by omega) (by omega) | rfl) (Qb Z (hK _ ?_)))))
    refine Qp (i + 1, QbT out (YU a)[i] (YU a)[i + 1]) ?_ ?_ ?_
    ·exact le_trans (Qll (l := [0, 4, 5]) (t := 40) (u := 3) 3 (kp3 rfl rfl rfl) rfl rfl rfl rfl) (Zx (l := [0, 3, 4, 5]) (lH := [3]) (kp4 rfl rfl rfl rfl) (Qx rfl QC) rfl rfl rfl)
    ·exact ⟨by omega, hI2.take (Yx ha) (by omega) (by simp; assumption)⟩
    ·show (YU a).length - (i + 1) < (YU a).length - i; omega
   ·try rw [h3]
    try simp only [qA] at h3
    refine Qy (Qm (Qf (kp4 Z Z Z Z) (Zg fun K hK => Qb Z (Zl Z Z (by first | exact Qt (by omega) (by omega) | rfl) (Qb Z (hK _ ?_))))))
    refine Qp (i + 1, out) ?_ ?_ ?_
    ·exact Zx (l := [0, 3, 4, 5]) (lH := [3]) (kp4 rfl rfl rfl rfl) (Qx rfl QC) rfl rfl rfl
    ·exact ⟨by omega, hI2.skip (by omega) (by simp; assumption)⟩
    ·show (YU a).length - (i + 1) < (YU a).length - i; omega
  ·try rw [h2]
   try simp only [qA] at h2
   refine ZC (QR (QD (QJ (Qf (kp1 Z) (Qe fun K hK => Qb Z (Qb Z (hK _ _ (Qa (kp1 Z) ?_))))))))
   refine Qr (Z5 Z ?_)
   rw [QiQ, if_pos h1, hI2.done (by omega)]; simp [Qai, D.fz, D.fzS, QdF, lk, D.can, D.canS, Q8]
end Go.Proofs
namespace Go.Proofs
open Go Go.Abs M3 M25
set_option linter.unusedVariables false
set_option linter.unusedSimpArgs false
theorem QaN {a b : Qec} (h1a : Sm a.1) (h2a : Sm a.2) (h1b : Sm b.1) (h2b : Sm b.2) (hl1 : a.1.length + b.1.length <= 1000000) (hl2 : a.2.length + b.2.length <= 1000000) : Ok Tryd.prog 27 [Qdh a, Qdh b] (Qdh (QmN a b)) := by
 refine Ok.ofT Z3 Tryd.func27 QqT (Nat.le_of_ble_eq_true Z) ?_
 show TW _ _ tf27.body _ _
 refine Qe fun K hK => ZL Z Z Z (ZL Z Z Z (Zy Z (hK _ _ (Qa (kp3 Z Z Z) ?_))))
 refine QH ?_ -- 0
 refine Qe fun K hK => QE (cs := [_, _]) Z Z Z Z (Qz (YB h1a h2a) Z Z (.inr Z) (ZM Z (Qb Z ?_)))
 refine Qw (g := 8) Z (fun h1 => ?_) (fun h1 => ?_)
 ·try rw [h1]
  try simp only [qB] at h1
  refine Qq Z (Qq Z (Qq Z (Qi Z Z (hK _ _ (Qa (kp4 Z Z Z Z) ?_)))))
  refine Zm Z (Qe fun K hK => Qz (ZT) Z Z (.inl Z) (QW Z Z Z Z Z Z Z Z (hK _ _ (Qa (kp1 Z) ?_))))
  refine Qr (Qk (Post.eq (Zw (ds := [.sl _, .sl _]) (cs := [_, _]) Z Z Z Z Z) ?_))
  rw [QmN, if_neg (by simp [h1])]; rfl
 ·try rw [h1]
  try simp only [qB] at h1
  refine Qg Z (QE (cs := [_, _]) Z Z Z Z (Qg Z (Qz (YB h1b h2b) Z Z (.inr Z) (Qg Z (ZM Z (Qi Z Z (hK _ _ (Qa (kp4 Z Z Z Z) ?_))))))))
  refine QA Z (fun h2 => ?_) (fun h2 => ?_)
  ·try rw [h2]
   try simp only [qB] at h2
   refine Qe fun K hK => Qz (ZT) Z Z (.inl Z) (QW Z Z Z Z Z Z Z Z (hK _ _ (Qa (kp1 Z) ?_)))
   refine Qr (Qk (Post.eq (Zw (ds := [.sl _, .sl _]) (cs := [_, _]) Z Z Z Z Z) ?_))
   rw [QmN, if_neg (by simp [h1, h2])]; rfl
  ·try rw [h2]
   try simp only [qB] at h2
   refine Qy (Qf (kp3 Z Z Z) (Qe fun K hK => Qh Z Z (Zi (ds0 := [7, 1, 0]) Z Z Z Z Z (Qh Z Z (Zi (ds0 := [7, 1, 0]) Z Z Z Z Z (QX (ds0 := [1, 0]) (QaL h1a h1b hl1) Z Z (.inl Z) Z Z (Qh Z Z (Zi (ds0 := [2, 1, 0]) Z Z Z Z Z (Qh Z Z (Zi (ds0 := [2, 1, 0]) Z Z Z Z Z ?_))))))))))
   refine QX (ds0 := [1, 0]) (QaL h2a h2b hl2) Z Z (.inl Z) Z Z (Q4 Z Z (Xj (ds0 := []) Z Z Z Z Z Z Z Z Z Z (hK _ _ (Qa (kp1 Z) ?_))))
   refine Qr (Post.eq (Zw (ds := [.sl _, .sl _]) (cs := [_, _]) Z Z Z Z Z) ?_)
   rw [QmN, if_pos ⟨h1, h2⟩]; rfl
theorem Qas {a : Qec} (h1a : Sm a.1) (h2a : Sm a.2) : Ok Tryd.prog 29 [Qdh a] (Qdh (QdS a)) := by
 refine Ok.ofT Z3 Tryd.func29 QqU (Nat.le_of_ble_eq_true Z) ?_
 show TW _ _ tf29.body _ _
 refine Qe fun K hK => ZL Z Z Z (Zy Z (hK _ _ (Qa (kp2 Z Z) ?_)))
 refine QH ?_ -- 0
 refine Qe fun K hK => QE (cs := [_, _]) Z Z Z Z (Qz (YB h1a h2a) Z Z (.inr Z) (ZM Z (hK _ _ (Qa (kp3 Z Z Z) ?_))))
 refine QA Z (fun h1 => ?_) (fun h1 => ?_)
 ·try rw [h1]
  try simp only [qB] at h1
  refine Qe fun K hK => Qz (ZT) Z Z (.inl Z) (QW Z Z Z Z Z Z Z Z (hK _ _ (Qa (kp1 Z) ?_)))
  refine Qr (Qk (Post.eq (Zw (ds := [.sl _, .sl _]) (cs := [_, _]) Z Z Z Z Z) ?_))
  rw [QdS, if_neg (by simp [h1])]; rfl
 ·try rw [h1]
  try simp only [qB] at h1
  refine Qy (Qf (kp2 Z Z) (Qe fun K hK => Qh Z Z (Zi (ds0 := [5, 1, 0]) Z Z Z Z Z (QX (ds0 := [1, 0]) (Qap h1a) Z Z (.inl Z) Z Z (Qh Z Z (Zi (ds0 := [2, 1, 0]) Z Z Z Z Z (QX (ds0 := [1, 0]) (Qap h2a) Z Z (.inl Z) Z Z (Q4 Z Z (Xj (ds0 := []) Z Z Z Z Z Z Z Z Z Z (hK _ _ (Qa (kp1 Z) ?_)))))))))))
  refine Qr (Post.eq (Zw (ds := [.sl _, .sl _]) (cs := [_, _]) Z Z Z Z Z) ?_)
  rw [QdS, if_pos h1]; rfl
end Go.Proofs
namespace Go.Proofs
open Go Go.Abs M3 M25
set_option linter.unusedVariables false
set_option linter.unusedSimpArgs false
theorem Y0 {v n : Int} (hn : n <= 9223372036854775807) (hv : I64 v) : Ok Tryd.prog 11 [.int .i64 v, .int .i64 n] (.int .i64 (mPl v n)) := by
 refine Ok.ofT Z3 Tryd.func11 QqI (Nat.le_of_ble_eq_true Z) ?_
 show TW _ _ tf11.body _ _
 refine Qe fun K hK => Qb Z (hK _ _ (Qa (kp2 Z Z) ?_))
 refine QH ?_ -- 0
 refine Qe fun K hK => Qb Z (YM Z Z (hK _ _ (Qa (kp3 Z Z Z) ?_)))
 refine QA Z (fun h1 => ?_) (fun h1 => ?_)
 ·try rw [h1]
  try simp only [qB] at h1
  refine Qe fun K hK => Qb Z (hK _ _ (Qa (kp1 Z) ?_))
  refine Qr (Qk (Qv Z ?_))
  rw [mPl, if_pos h1]
 ·try rw [h1]
  try simp only [qB] at h1
  refine Qy (Qf (kp2 Z Z) (Qe fun K hK => Qb Z (Qb Z (Qmd Z Z (by omega) (Qb Z (hK _ _ (Qa (kp2 Z Z) ?_)))))))
  refine QH ?_ -- 1
  refine Qe fun K hK => Qb Z (YM Z Z (hK _ _ (Qa (kp3 Z Z Z) ?_)))
  refine QA Z (fun h2 => ?_) (fun h2 => ?_)
  ·try rw [h2]
   try simp only [qB] at h2
   refine Qe fun K hK => Qb Z (Qb Z (Zl Z Z (Qt (by have := Int.lt_tmod_of_pos v (show 0 < n by omega); omega) (by have := Int.tmod_lt_of_pos v (show 0 < n by omega); omega)) (Qb Z (hK _ _ (Qa (kp1 Z) ?_)))))
   refine Qr (Qk (Qv Z ?_))
   rw [mPl, if_neg h1, Qfi, if_pos h2]
  ·try rw [h2]
   try simp only [qB] at h2
   refine Qy (Qf (kp1 Z) (Qe fun K hK => Qb Z (Qb Z (hK _ _ (Qa (kp1 Z) ?_)))))
   refine Qr (Qv Z ?_)
   rw [mPl, if_neg h1, Qfi, if_neg h2]
theorem QdI {l : List Int} {i : Int} : Ok Tryd.prog 57 [ZJ l, .int .i64 i] (.int .i64 (Qks l i)) := by
 refine Ok.ofT Z3 Tryd.func57 Qrf (Nat.le_of_ble_eq_true Z) ?_
 show TW _ _ tf57.body _ _
 refine Qe fun K hK => Qb Z (hK _ _ (Qa (kp2 Z Z) ?_))
 refine QH ?_ -- 0
 refine Qe fun K hK => Qb Z (YM Z Z (Qb Z ?_))
 refine Qw (g := 7) Z (fun h1 => ?_) (fun h1 => ?_)
 ·try rw [h1]
  try simp only [qA] at h1
  refine Qq Z (Qq Z (Qq Z (Qq Z (Qi Z Z (hK _ _ (Qa (kp3 Z Z Z) ?_))))))
  refine Zm Z (Qe fun K hK => Qb Z (Qmd Z Z (by omega) (Qb Z (hK _ _ (Qa (kp1 Z) ?_)))))
  refine Qr (Qk (Qv Z ?_))
  rw [Qks, if_pos (by omega)]
 ·try rw [h1]
  try simp only [qA] at h1
  refine Qg Z (Qb Z (Qg Z (Qb Z (Qg Z (ZB Z Z (Qg Z (Qjf Z Z (Qi Z Z (hK _ _ (Qa (kp3 Z Z Z) ?_))))))))))
  refine QA Z (fun h2 => ?_) (fun h2 => ?_)
  ·try rw [h2]
   try simp only [qA] at h2
   refine Qe fun K hK => Qb Z (Qmd Z Z (by omega) (Qb Z (hK _ _ (Qa (kp1 Z) ?_))))
   refine Qr (Qk (Qv Z ?_))
   rw [Qks, if_pos (by omega)]
  ·try rw [h2]
   try simp only [qA] at h2
   refine Qy (Qf (kp2 Z Z) (Qe fun K hK => Qb Z (Qb Z (QY Z Z Z (by omega) (Z7 (by omega) (by omega)) Z (QF Z Z Z (Qb Z (hK _ _ (Qa (kp1 Z) ?_))))))))
   refine Qr (Qv Z ?_)
   exact (Qlq (by omega) (by omega)).symm
theorem XM {k : Nat} {L : List Int} {I n : Int} (hk : 1000000 <= k) (hL : ∀ x ∈ L, I64 x) (hn : n <= 9223372036854775807) (et : Nat) : OkH Tryd.prog 37 [.ref k 0 0, .int .i64 n] [(k, gB L I et)] (.int .i64 (nx L I n)) ((k, gB L (nxI I) et) :: [(k, gB L I et)]) := by
 refine OkH.lent hk Z3 Tryd.func37 QqY (Nat.le_of_ble_eq_true Z) Z ?_
 show TW _ _ tf37.body _ _
 refine Qe fun K hK => Qb Z (hK _ _ (Qa (kp2 Z Z) ?_))
 refine Qe fun K hK => Qb Z (Ye Z Z (Qh Z Qeq (QF Z (ZW QdR Z) Z (Zl Z Z Z (Ye Z Z (Qh Z Qeq (QW Z QdR Z Z Z Z Z Z (hK _ _ (Qa (kp2 Z Z) ?_)))))))))
 refine Qe fun K hK => Qb Z (Ye Z Z (Qh Z Qeq (Zi (ds0 := [3, 1, 0]) Z (ZW QdR Z) Z Z Z (Qb Z (Ye Z Z (Qh Z Qeq (Zi (ds0 := [4, 3, 1, 0]) Z (ZW QdR Z) Z Z Z (Qc0 Z Z Z (QX (ds0 := [1, 0]) (QdI) Z Z (.inr Z) Z Z (Qb Z ?_))))))))))
 refine QX (ds0 := [0]) (Y0 hn (QmJ hL (Qfy _))) Z Z (.inr Z) Z Z (Qb Z (hK _ _ (Qa (kp1 Z) ?_)))
 refine Qr ?_
 exact Qag rfl rfl (Qoo QdR)
end Go.Proofs
namespace Go.Proofs
open Go Go.Abs M3 M25
set_option linter.unusedVariables false
set_option linter.unusedSimpArgs false
theorem Qd4 {h m : Int} : Ok Tryd.prog 18 [.int .i64 h, .int .i64 m] (.int .i64 (QgW h m)) := by
 refine Ok.ofT Z3 Tryd.func18 QqN (Nat.le_of_ble_eq_true Z) ?_
 show TW _ _ tf18.body _ _
 refine Qe fun K hK => Qb Z (hK _ _ (Qa (kp2 Z Z) ?_))
 refine QH ?_ -- 0
 refine QM (Qe fun K hK => Qb Z (Qb Z (Qjd Z Z (YF Z Z (Qb Z (hK _ _ (Qa (kp3 Z Z Z) ?_)))))))
 refine QA Z (fun h1 => ?_) (fun h1 => ?_)
 ·try rw [h1]
  try simp only [qB] at h1
  refine Qe fun K hK => Qb Z (hK _ _ (Qa (kp1 Z) ?_))
  refine Qr (Qu (Qk (Qv Z ?_)))
  rw [QgW, if_pos h1]
 ·try rw [h1]
  try simp only [qB] at h1
  refine Qe fun K hK => Qb Z (Qb Z (Qgo Z Z (YF Z Z (Qb Z (hK _ _ (Qa (kp1 Z) ?_))))))
  refine QA Z (fun h2 => ?_) (fun h2 => ?_)
  ·try rw [h2]
   try simp only [qB] at h2
   refine Qe fun K hK => Qb Z (hK _ _ (Qa (kp1 Z) ?_))
   refine Qr (Qu (Qk (Qv Z ?_)))
   rw [QgW, if_neg h1, if_pos h2]
  ·try rw [h2]
   try simp only [qB] at h2
   refine Qy (Qm (Qf (QV) (Qe fun K hK => Qb Z (hK _ _ (Qa (kp1 Z) ?_)))))
   refine Qr (Qv Z ?_)
   rw [QgW, if_neg h1, if_neg h2]
end Go.Proofs
namespace Go.Proofs
open Go Go.Abs M3 M25
set_option linter.unusedVariables false
set_option linter.unusedSimpArgs false
theorem Xl  : Ok Tryd.prog 52 [] (.sl (versions.map dVr)) := by
 refine Ok.ofT Z3 Tryd.func52 Qra (Nat.le_of_ble_eq_true Z) ?_
 show TW _ _ tf52.body _ _
 refine Qe fun K hK => Qb Z (hK _ _ (Qa (QV) ?_))
 refine Qe fun K hK => Q4 Z Z (Q4 Z Z (Q4 Z Z (Q4 Z Z (QN Z Z (Qb Z (hK _ _ (Qa (kp1 Z) ?_)))))))
 refine Qr (Z5 Z ?_)
 rfl
end Go.Proofs
namespace M25
open Go Go.Abs M3
structure WantT where
 u : Int
 s : Qec
structure CandT where
 v : Vr
 sh : Int
 ns : List (List WantT)
 bs : List WantT
structure Qiu where
 n : List UInt8
 f : List UInt8
 cs : List CandT
abbrev Q0 := List Qiu
def QaQ (x : WantT) : List D := [.int .i64 x.u, Q8 x.s.1, Q8 x.s.2]
def Q1 (l : List WantT) : D := .sl (l.map QaQ)
def QS (l : List (List WantT)) : D := .sl (l.map fun r => [Q1 r])
def Qp1 (c : CandT) : List D := [.int .i64 c.v.a, .int .i64 c.v.b, .int .i64 c.v.c, .str c.v.p, .str c.v.q, .int .i64 c.sh, QS c.ns, Q1 c.bs]
def Qav (l : List CandT) : D := .sl (l.map Qp1)
def Qbu (u : Qiu) : List D := [.str u.n, .str u.f, Qav u.cs]
def QbL (w : Q0) : D := .agg [.sl (w.map Qbu)]
structure QfB where
 u : Int
 m : Int
 deriving DecidableEq
structure Qa5 where
 u : Int
 m : Int
 l : Int
 c : Int
 deriving DecidableEq
structure RowT where
 k : Int
 u : Int
 a : Int
 b : Int
 t : List QfB
abbrev Qd3 (a b : Int) : Int := Qbd .and .i64 a b
abbrev bor (a b : Int) : Int := Qbd .or .i64 a b
abbrev Qin (a b : Int) : Int := Qbd .andNot .i64 a b
def uAt (w : Q0) (u : Int) : Option Qiu := if u < 0 then none else w[u.toNat]?
theorem Qfw {w : Q0} {u : Int} (h0 : 0 <= u) (h : u < w.length) : uAt w u = some (w[u.toNat]'(by omega)) := by
 rw [uAt, if_neg (by omega), List.getElem?_eq_getElem (by omega)]
theorem Qg9 {w : Q0} {u : Int} (h : u < 0 \/ (w.length : Int) <= u) : uAt w u = none := by
 unfold uAt
 split
 ·rfl
 ·rw [List.getElem?_eq_none]; omega
def QaS (w : Q0) (u : Int) : Int := match uAt w u with
 | none => 0
 | some x => 2 ^ (min x.cs.length 16 + 1) - 1
theorem QgT {w : Q0} {u : Int} (h0 : 0 <= u) (h : u < w.length) : QaS w u = 2 ^ (min (w[u.toNat]'(by omega)).cs.length 16 + 1) - 1 := by
 rw [QaS, Qfw h0 h]
theorem QhW {w : Q0} {u : Int} (h : u < 0 \/ (w.length : Int) <= u) : QaS w u = 0 := by rw [QaS, Qg9 h]
def Qei (v : Vr) : Prop := v.p.length <= 1000000 /\ v.q.length <= 1000000
structure WSm (w : Q0) : Prop where
 len : w.length <= 48
 cs : ∀ u ∈ w, u.cs.length <= 16
 vs : ∀ u ∈ w, ∀ c ∈ u.cs, Qei c.v
 ns : ∀ u ∈ w, ∀ c ∈ u.cs, c.ns.length <= 1000 /\ c.bs.length <= 1000
 nl : ∀ u ∈ w, ∀ c ∈ u.cs, ∀ r ∈ c.ns, r.length <= 1000
 nw : ∀ u ∈ w, ∀ c ∈ u.cs, ∀ r ∈ c.ns, ∀ x ∈ r, Sm x.s.1 /\ Sm x.s.2
 bw : ∀ u ∈ w, ∀ c ∈ u.cs, ∀ x ∈ c.bs, Sm x.s.1 /\ Sm x.s.2
def Qmz (s : Qec) (v : Vr) : Bool := Qfg s v.a v.b v.c v.p v.q
def Qcs (s : Qec) (l : List CandT) : Nat -> Int
 | 0 => 0
 | n + 1 => Qcs s l n + match l[n]? with
  | some c => if Qmz s c.v = true then 2 ^ (n + 1) else 0
  | none => 0
theorem QgX (s : Qec) (l : List CandT) : ∀ n, 0 <= Qcs s l n /\ Qcs s l n <= 2 ^ (n + 1) - 2
 | 0 => by simp [Qcs]
 | n + 1 => by
  obtain ⟨h1, h2⟩ := QgX s l n
  have h3 : (2 : Int) ^ (n + 1 + 1) = 2 ^ (n + 1) * 2 := Int.pow_succ ..
  have h4 : (0 : Int) < 2 ^ (n + 1) := Int.pow_pos (by omega)
  rw [Qcs, h3]
  generalize (2 : Int) ^ (n + 1) = z at *
  split
  ·split <;> omega
  ·omega
theorem Qh2 {s : Qec} {l : List CandT} {i : Nat} (h : i < l.length) (hp : Qmz s l[i].v = true) : Qcs s l (i + 1) = Qcs s l i + 2 ^ (i + 1) := by
 rw [Qcs, List.getElem?_eq_getElem h]; simp only [hp, if_true]
theorem QjP {s : Qec} {l : List CandT} {i : Nat} (h : i < l.length) (hp : Qmz s l[i].v = false) : Qcs s l (i + 1) = Qcs s l i := by
 rw [Qcs, List.getElem?_eq_getElem h]; simp only [hp, Bool.false_eq_true, if_false, Int.add_zero]
def Qnm (w : Q0) (x : WantT) : Int := match uAt w x.u with
 | none => 0
 | some un => Qcs x.s un.cs (min un.cs.length 16)
theorem Qls {w : Q0} {x : WantT} (h0 : 0 <= x.u) (h : x.u < w.length) : Qnm w x = Qcs x.s (w[x.u.toNat]'(by omega)).cs (min (w[x.u.toNat]'(by omega)).cs.length 16) := by
 rw [Qnm, Qfw h0 h]
theorem QmM {w : Q0} {x : WantT} (h : x.u < 0 \/ (w.length : Int) <= x.u) : Qnm w x = 0 := by rw [Qnm, Qg9 h]
theorem Qp9 {n : Nat} (h : n <= 17) : 1 <= (2 : Int) ^ n /\ (2 : Int) ^ n <= 131072 := by
 have h1 : (2 : Nat) ^ n <= 2 ^ 17 := Nat.pow_le_pow_right (by omega) h
 have h2 : 1 <= (2 : Nat) ^ n := Nat.one_le_two_pow
 have h3 : ((2 ^ n : Nat) : Int) = (2 : Int) ^ n := by simp
 rw [<- h3]
 have h4 : (2 : Nat) ^ 17 = 131072 := by decide
 omega
def QcE (w : Q0) (c : List Int) (u : Int) : Int := match uAt w u with
 | none => 0
 | some x => if (c.length : Int) <= u then 0 else if c.getD u.toNat 0 < -1 \/ ((min x.cs.length 16 : Nat) : Int) <= c.getD u.toNat 0 then 0 else 2 ^ (c.getD u.toNat 0 + 1).toNat
def Yv (m : Int) : Nat -> List Int
 | 0 => []
 | n + 1 => Yv m n ++ if Qd3 m (2 ^ n) = 0 then [] else [(n : Int) - 1]
def XA (m : Int) : List Int := Yv m 17
def inW (w : Q0) (u : Int) : Bool := decide (0 <= u) && decide (u < w.length)
/-! ### Trails -/
def QfJ (w : Q0) (l : List Qa5) (u : Int) : Int := l.foldl (fun a s => if s.u = u /\ inW w u = true then s.m else a) (QaS w u)
def Qpl (l : List Qa5) : Int := match l.getLast? with
 | none => 0
 | some s => s.l
def QmL (l : List Qa5) (u : Int) : Bool := l.any fun s => decide (s.u = u) && decide (s.c = -1)
def Qp6 (w : Q0) (l : List Qa5) (inc : List QfB) : Bool := inc.all fun t => decide (Qh1 (QfJ w l t.u) t.m = 2)
def QgZ (have_ : Int -> Int) : List QfB -> Int -> Int
 | [], at_ => at_
 | t :: r, at_ => if Qh1 (have_ t.u) t.m = 0 then -1 else if Qh1 (have_ t.u) t.m = 1 then (if 0 <= at_ then -1 else QgZ have_ r t.u) else QgZ have_ r at_
def Qpm (w : Q0) (l : List Qa5) (inc : List QfB) : Int := QgZ (QfJ w l) inc (-1)
def QjY (w : Q0) (l : List Qa5) : Nat -> List (List QfB) -> Int × Int
 | _, [] => (-1, -1)
 | i, x :: r => if Qp6 w l x = true then (i, -1) else if 0 <= Qpm w l x then (i, Qpm w l x) else QjY w l (i + 1) r
def Qp5 (w : Q0) (db : List (List QfB)) (l : List Qa5) : Int × Int := QjY w l 0 db
end M25
namespace M25
open Go Go.Abs M3
section
variable {fr : List (Nat × D)} {H : List (Nat × Box)} {t u : Nat}
theorem Qmh {k n : Nat} {b : Box} {d : D} (hb : lk H k = some b) (hp : b.pr = true) (hn : n = b.rows.length) (hd : .sl b.rows = d) : Qai ⟨fr, H⟩ (.osl k n) = d := by
 unfold Qai; rw [Qp3 (S := QdF) rfl hb hp hn]; exact hd
theorem QmU {e : AExit} {k n : Nat} {b : Box} {d : D} (h : lk fr t = some (.osl k n)) (hb : lk H k = some b) (hp : b.pr = true) (hn : n = b.rows.length) (hd : .sl b.rows = d) (he : e = .ret \/ e = .normal := by first | exact .inl rfl | exact .inr rfl) : Post [.tmp t] d e ⟨fr, H⟩ :=
 Z5 h (Qmh hb hp hn hd) he
end
theorem Ql1 {n : Nat} (h : n <= 62) : IntKind.i64.wrap ((2 : Int) ^ n - 1) = 2 ^ n - 1 := by
 have := QlA h; exact Qt (by omega) (by omega)
theorem QaV {w : Q0} {c : List Int} {u : Int} (h : (u < 0 \/ (w.length : Int) <= u) \/ (c.length : Int) <= u) : QcE w c u = 0 := by
 unfold QcE
 split
 ·rfl
 ·rename_i x hx
  rcases h with h | h
  ·rw [Qg9 h] at hx; cases hx
  ·rw [if_pos h]
theorem QaT {w : Q0} {c : List Int} {u : Int} (h0 : 0 <= u) (h1 : u < w.length) (h2 : u < c.length) (h : c[u.toNat]'(by omega) < -1 \/ min (((w[u.toNat]'(by omega)).cs.length : Nat) : Int) 16 <= c[u.toNat]'(by omega)) : QcE w c u = 0 := by
 rw [QcE, Qfw h0 h1]
 simp only []
 rw [if_neg (by omega), List.getD_eq_getElem?_getD, List.getElem?_eq_getElem (by omega)]
 simp only [Option.getD_some]
 rw [if_pos]
 rcases h with h | h
 ·exact .inl h
 ·right; omega
theorem QaU {w : Q0} {c : List Int} {u : Int} (h0 : 0 <= u) (h1 : u < w.length) (h2 : u < c.length) (h : ¬ c[u.toNat]'(by omega) < -1) (h' : ¬ min (((w[u.toNat]'(by omega)).cs.length : Nat) : Int) 16 <= c[u.toNat]'(by omega)) : QcE w c u = 2 ^ (c[u.toNat]'(by omega) + 1).toNat := by
 rw [QcE, Qfw h0 h1]
 simp only []
 rw [if_neg (by omega), List.getD_eq_getElem?_getD, List.getElem?_eq_getElem (by omega)]
 simp only [Option.getD_some]
 rw [if_neg]
 omega
theorem Qjs {m : Int} {n : Nat} (h : ¬ Qd3 m (2 ^ n) = 0) : Yv m (n + 1) = Yv m n ++ [(n : Int) - 1] := by rw [Yv, if_neg h]
theorem QkY {m : Int} {n : Nat} (h : Qd3 m (2 ^ n) = 0) : Yv m (n + 1) = Yv m n := by rw [Yv, if_pos h, List.append_nil]
theorem Qpe {w : Q0} {u : Int} (h0 : 0 <= u) (h : u < w.length) : inW w u = true := by simp [inW, h0, h]
theorem Qlg {w : Q0} {u : Int} (h : u < 0 \/ (w.length : Int) <= u) : inW w u = false := by
 simp only [inW, Bool.and_eq_false_iff, decide_eq_false_iff_not]; omega
theorem Qe5 {w : Q0} {u : Int} : inW w u = true ↔ 0 <= u /\ u < w.length := by simp [inW]
theorem Qhe {e : Int} (h1 : 0 <= e) (h2 : e <= 18446744073709551615) : IntKind.u64.wrap e = e := by
 unfold IntKind.wrap
 simp only [IntKind.bits, IntKind.signed, Bool.false_and, Bool.false_eq_true, if_false]
 omega
end M25
namespace Go.Proofs
open Go Go.Abs M3 M25
set_option linter.unusedVariables false
set_option linter.unusedSimpArgs false
end Go.Proofs
namespace M25
open Go Go.Abs M3
theorem WSm.csLen {w : Q0} (hw : WSm w) {u : Nat} (hu : u < w.length) : w[u].cs.length <= 16 := hw.cs _ (List.getElem_mem _)
end M25
namespace M25
open Go Go.Abs M3
/-! ### Bits of numbers -/
theorem Qhd (e : Int) : IntKind.i64.wrap e = (BitVec.ofInt 64 e).toInt := by
 have hb : (BitVec.ofInt 64 e).toInt = if e % 18446744073709551616 < 9223372036854775808 then e % 18446744073709551616 else e % 18446744073709551616 - 18446744073709551616 := by
  rw [BitVec.toInt_ofInt]; rfl
 rw [hb]
 unfold IntKind.wrap
 simp only [IntKind.bits, IntKind.signed, Bool.true_and]
 split
 ·rename_i h
  have := of_decide_eq_true h
  split <;> omega
 ·rename_i h
  have : ¬ (e % 2 ^ 64 >= 2 ^ (64 - 1)) := fun hh => h (decide_eq_true hh)
  split <;> omega
theorem QcS (b : BitVec 64) : BitVec.ofInt 64 (b.toNat : Int) = b := by
 rw [BitVec.ofInt_natCast, BitVec.ofNat_toNat, BitVec.setWidth_eq]
theorem Qo2 (x y : Int) : BitVec.ofInt 64 (Qd3 x y) = BitVec.ofInt 64 x &&& BitVec.ofInt 64 y := by
 show BitVec.ofInt 64 (IntKind.i64.wrap ((BitVec.ofInt 64 x &&& BitVec.ofInt 64 y).toNat : Int)) = _
 rw [Qhd, BitVec.ofInt_toInt, QcS]
theorem QpY (x y : Int) : BitVec.ofInt 64 (bor x y) = BitVec.ofInt 64 x ||| BitVec.ofInt 64 y := by
 show BitVec.ofInt 64 (IntKind.i64.wrap ((BitVec.ofInt 64 x ||| BitVec.ofInt 64 y).toNat : Int)) = _
 rw [Qhd, BitVec.ofInt_toInt, QcS]
theorem Qo3 (x y : Int) : BitVec.ofInt 64 (Qin x y) = BitVec.ofInt 64 x &&& ~~~ BitVec.ofInt 64 y := by
 show BitVec.ofInt 64 (IntKind.i64.wrap ((BitVec.ofInt 64 x &&& ~~~ BitVec.ofInt 64 y).toNat : Int)) = _
 rw [Qhd, BitVec.ofInt_toInt, QcS]
theorem QmA {x : Int} (h : I64 x) : IntKind.i64.wrap x = x := Qt h.1 h.2
theorem Qnd {x : Int} (h : I64 x) : (BitVec.ofInt 64 x).toInt = x := by rw [<- Qhd, QmA h]
theorem QiL (x y : Int) : I64 (Qd3 x y) := Qfy _
theorem Qpa (x y : Int) : I64 (bor x y) := Qfy _
def tb (x : Int) (i : Nat) : Bool := (BitVec.ofInt 64 x).getLsbD i
theorem QlS (x y : Int) (i : Nat) : tb (Qd3 x y) i = (tb x i && tb y i) := by rw [tb, Qo2, BitVec.getLsbD_and]; rfl
theorem QpB (x y : Int) (i : Nat) : tb (bor x y) i = (tb x i || tb y i) := by rw [tb, QpY, BitVec.getLsbD_or]; rfl
theorem QpA (x y : Int) {i : Nat} : tb (Qin x y) i = (tb x i && !tb y i) := by
 rw [tb, Qo3, BitVec.getLsbD_and, BitVec.getLsbD_not]
 by_cases h : i < 64
 ·simp [h, tb]
 ·simp [tb, BitVec.getLsbD_of_ge _ i (by omega : 64 <= i)]
theorem QlU (x : Int) {i : Nat} (h : 64 <= i) : tb x i = false := BitVec.getLsbD_of_ge _ i h
theorem QlT {x y : Int} (hx : I64 x) (hy : I64 y) (h : ∀ i, tb x i = tb y i) : x = y := by
 rw [<- Qnd hx, <- Qnd hy]
 congr 1
 exact BitVec.eq_of_getLsbD_eq fun i _ => h i
theorem Qi2 (i : Nat) : tb 0 i = false := by
 show (BitVec.ofInt 64 0).getLsbD i = false
 rw [show BitVec.ofInt 64 0 = 0#64 from rfl, BitVec.getLsbD_zero]
theorem QiJ {x : Int} (hx : I64 x) : x = 0 ↔ ∀ i, tb x i = false := by
 constructor
 ·rintro rfl i; exact Qi2 i
 ·intro h; exact QlT hx ⟨by omega, by omega⟩ fun i => by rw [h i, Qi2]
theorem Qj3 (n : Nat) {i : Nat} (h : i < 64) : tb (n : Int) i = n.testBit i := by
 rw [tb, BitVec.ofInt_natCast, BitVec.getLsbD_ofNat]; simp [h]
theorem Qik {k : Nat} (hk : k < 64) (i : Nat) : tb ((2 : Int) ^ k) i = decide (i = k) := by
 have e : ((2 ^ k : Nat) : Int) = (2 : Int) ^ k := by simp
 by_cases h : i < 64
 ·rw [<- e, Qj3 _ h, Nat.testBit_two_pow]
  exact decide_eq_decide.2 eq_comm
 ·rw [QlU _ (by omega)]; exact (decide_eq_false (by omega)).symm
theorem Qmg {x m : Int} : Qd3 x m = 0 ↔ ∀ i, tb x i = true -> tb m i = false := by
 rw [QiJ (QiL x m)]
 refine forall_congr' fun i => ?_
 rw [QlS]; cases tb x i <;> cases tb m i <;> simp
def Lo (x : Int) : Prop := 0 <= x /\ x < 131072
theorem Qjk {x : Int} {k : Nat} (hk : k < 64) : Qd3 x (2 ^ k) = 0 ↔ tb x k = false := by
 rw [Qmg]
 constructor
 ·intro h
  cases hx : tb x k
  ·rfl
  ·have := h k hx; rw [Qik hk] at this; simp at this
 ·intro h i hi
  rw [Qik hk]
  by_cases e : i = k
  ·subst e; rw [h] at hi; cases hi
  ·exact decide_eq_false e
end M25
namespace M25
open Go Go.Abs M3
/-! ### Trails: the loops' laws -/
theorem Qk7 {w : Q0} {u : Int} : QaS w u = 0 ↔ inW w u = false := by
 constructor
 ·intro h
  cases hw : inW w u
  ·rfl
  ·rw [Qe5] at hw
   rw [QgT hw.1 hw.2] at h
   have h2 : 2 <= (2 : Int) ^ (min (w[u.toNat]'(by omega)).cs.length 16 + 1) := by
    rw [Int.pow_succ]
    have := Qp9 (n := min (w[u.toNat]'(by omega)).cs.length 16) (by omega)
    omega
   omega
 ·intro h
  refine QhW (Classical.byContradiction fun hn => ?_)
  rw [Qpe (by omega) (by omega)] at h; cases h
def QoN (w : Q0) (l : List Qa5) : Prop := ∀ s ∈ l, Lo s.m
end M25
namespace M25
open Go Go.Abs M3
def Qko : List Qiu -> Int -> Int
 | [], n => n
 | u :: r, n => if n < 1000000 then Qko r (n * ((u.cs.length : Int) + 1)) else n
def QgV (w : Q0) : Int := Qko w 1
theorem Qqc {w : Q0} {i : Nat} {n : Int} (h : i < w.length) (hn : n < 1000000) : Qko (w.drop i) n = Qko (w.drop (i + 1)) (n * ((w[i].cs.length : Int) + 1)) := by
 rw [List.drop_eq_getElem_cons h, Qko, if_pos hn]
theorem Qpz {w : Q0} {i : Nat} {n : Int} (h : w.length <= i) : Qko (w.drop i) n = n := by rw [List.drop_eq_nil_of_le h, Qko]
theorem Qpy {w : Q0} {i : Nat} {n : Int} (hn : ¬ n < 1000000) : Qko (w.drop i) n = n := by
 cases h : w.drop i with
 | nil => rfl
 | cons u r => rw [Qko, if_neg hn]
theorem Qm3 {n : Int} {k : Nat} (h0 : 1 <= n) (h1 : n < 1000000) (hk : k <= 16) : 1 <= n * ((k : Int) + 1) /\ n * ((k : Int) + 1) <= 17000000 := by
 obtain ⟨m, rfl⟩ := Int.eq_ofNat_of_zero_le (show 0 <= n by omega)
 have h2 : m * (k + 1) <= 1000000 * 17 := Nat.mul_le_mul (by omega) (by omega)
 have h3 : 1 * 1 <= m * (k + 1) := Nat.mul_le_mul (by omega) (by omega)
 have e : (m : Int) * ((k : Int) + 1) = ((m * (k + 1) : Nat) : Int) := by simp
 rw [e]; omega
def chN (w : Q0) (n : Int) : Nat -> Int
 | 0 => n
 | i + 1 => match w[i]? with
  | some u => (chN w n i).tdiv ((u.cs.length : Int) + 1)
  | none => chN w n i
def chL (w : Q0) (n : Int) : Nat -> List Int
 | 0 => []
 | i + 1 => match w[i]? with
  | some u => chL w n i ++ [(chN w n i).tmod ((u.cs.length : Int) + 1) - 1]
  | none => chL w n i
def QgS (w : Q0) (n : Int) : List Int := chL w n w.length
theorem Qo5 {w : Q0} {n : Int} {i : Nat} (h : i < w.length) : chN w n (i + 1) = (chN w n i).tdiv ((w[i].cs.length : Int) + 1) := by rw [chN, List.getElem?_eq_getElem h]
theorem QkP {w : Q0} {n : Int} {i : Nat} (h : i < w.length) : chL w n (i + 1) = chL w n i ++ [(chN w n i).tmod ((w[i].cs.length : Int) + 1) - 1] := by rw [chL, List.getElem?_eq_getElem h]
theorem QlV {a : Int} {k : Nat} (h0 : 0 <= a) : 0 <= a.tdiv ((k : Int) + 1) /\ a.tdiv ((k : Int) + 1) <= a := by
 obtain ⟨m, rfl⟩ := Int.eq_ofNat_of_zero_le h0
 have : ((m : Int)).tdiv ((k : Int) + 1) = ((m / (k + 1) : Nat) : Int) := by
  rw [show (k : Int) + 1 = ((k + 1 : Nat) : Int) by simp, Int.ofNat_tdiv]
 rw [this]
 have := Nat.div_le_self m (k + 1)
 exact ⟨Int.natCast_nonneg _, Int.ofNat_le.2 this⟩
theorem QkQ {w : Q0} {n : Int} (h0 : 0 <= n) : ∀ i, 0 <= chN w n i /\ chN w n i <= n
 | 0 => ⟨h0, Int.le_refl _⟩
 | i + 1 => by
  obtain ⟨h1, h2⟩ := QkQ (w := w) h0 i
  rw [chN]
  split
  ·rename_i u _
   have := QlV (k := u.cs.length) h1
   omega
  ·exact ⟨h1, h2⟩
theorem QkN (w : Q0) (n : Int) : ∀ i, (chL w n i).length <= i
 | 0 => Nat.le_refl _
 | i + 1 => by
  have := QkN w n i
  rw [chL]; split <;> simp <;> omega
theorem Qox {a : Int} {k : Nat} (hk : k <= 16) : IntKind.i64.wrap (a.tmod ((k : Int) + 1) - 1) = a.tmod ((k : Int) + 1) - 1 := by
 have h1 := Int.lt_tmod_of_pos a (show (0 : Int) < (k : Int) + 1 by omega)
 have h2 := Int.tmod_lt_of_pos a (show (0 : Int) < (k : Int) + 1 by omega)
 exact Qt (by omega) (by omega)
theorem Qow {a : Int} {k : Nat} (h0 : 0 <= a) (h1 : a <= 9223372036854775807) : IntKind.i64.wrap (a.tdiv ((k : Int) + 1)) = a.tdiv ((k : Int) + 1) := by
 have := QlV (k := k) h0
 exact Qt (by omega) (by omega)
theorem Ql2 {v : Int} (h : (v + 1).toNat <= 61) : IntKind.i64.wrap ((1 : Int) * 2 ^ min (v + 1).toNat IntKind.i64.bits) = 2 ^ (v + 1).toNat := by
 rw [show min (v + 1).toNat IntKind.i64.bits = (v + 1).toNat from by simp only [IntKind.bits]; omega, Int.one_mul]
 have := QlA (i := (v + 1).toNat) (by omega)
 exact Qt (by omega) (by omega)
end M25
namespace Go.Proofs
open Go Go.Abs M3 M25
set_option linter.unusedVariables false
set_option linter.unusedSimpArgs false
theorem QcF {w : Q0} (hw : WSm w) : Ok Tryd.prog 24 [QbL w] (.int .i64 (QgV w)) := by
 refine Ok.ofT Z3 Tryd.func24 QqQ (Nat.le_of_ble_eq_true Z) ?_
 show TW _ _ tf24.body _ _
 have hn := hw.len
 refine Qe fun K hK => ZL Z Z Z (Qb Z (hK _ _ (Qa (kp1 Z) ?_)))
 refine Qe fun K hK => Qb Z (hK _ _ (Qa (kp2 Z Z) ?_))
 refine QH ?_ -- 0
 refine Qe fun K hK => Qb Z (hK _ _ (Qa (kp3 Z Z Z) ?_))
 refine QM ?_
 refine Ya (ι := Nat × Int) (fun ⟨i, n⟩ => ⟨[(1, .ref 1 0 0), (3, .int .i64 n), (4, .int .i64 i)], [(1, ⟨[[.sl ((w).map Qbu)]], 1, 25, true⟩)]⟩) (fun ⟨i, n⟩ => i <= w.length /\ 1 <= n /\ QgV w = Qko (w.drop i) n) (fun ⟨i, n⟩ => w.length - i) (0, 1) ?_ ?_ ?_
 ·exact Zx (l := [1, 3, 4]) (lH := [1]) (kp3 rfl rfl rfl) (Qx rfl QC) rfl rfl rfl
 ·exact ⟨Nat.zero_le _, Int.le_refl _, rfl⟩
 intro ⟨i, n⟩ hI
 obtain ⟨hI1, hI2, hI3⟩ := hI
 try dsimp only at hI1 hI2 hI3
 try dsimp only
 refine QH ?_ -- 1
 refine Qe fun K hK => Qb Z (Qh Z Z (QF Z Z Z ?_))
 first | refine ZB rfl Yg ?_ | refine ZB rfl rfl ?_
 refine YM Z Z (Qb Z ?_)
 refine Qw (g := 10) Z (fun h1 => ?_) (fun h1 => ?_)
 ·try rw [h1]
  try simp only [qA] at h1
  refine Qg Z (Qb Z (Qg Z (YM Z Z (Qi Z Z (hK _ _ (Qa (kp4 Z Z Z Z) ?_))))))
  refine QA Z (fun h2 => ?_) (fun h2 => ?_)
  ·try rw [h2]
   try simp only [qA] at h2
   refine Qy (Qf (kp3 Z Z Z) ?_)
   refine QH ?_ -- 2
   refine QM (Zg fun K hK => Qb Z (Qh Z Z (QF Z Z Z (Qb Z (QY Z Z Z (by omega) (ZO (by omega)) Z (ZU Z Z (QF Z Z Z ?_)))))))
   first | refine ZB rfl Yg ?_ | refine ZB rfl rfl ?_
   refine Zl Z Z (Qt (by have := hw.csLen (show i < w.length by omega); omega) (by have := hw.csLen (show i < w.length by omega); omega)) (Qmb Z Z (Qt (by have := Qm3 hI2 h2 (hw.csLen (show i < w.length by omega)); omega) (by have := Qm3 hI2 h2 (hw.csLen (show i < w.length by omega)); omega)) (Qb Z (hK _ ?_)))
   refine Qm (Qf (kp3 Z Z Z) (Zg fun K hK => Qb Z (Zl Z Z (by first | exact Qt (by omega) (by omega) | rfl) (Qb Z (hK _ ?_)))))
   refine Qp (i + 1, n * (((w[i]'(by omega)).cs.length : Int) + 1)) ?_ ?_ ?_
   ·exact Zx (l := [1, 3, 4]) (lH := [1]) (kp3 rfl rfl rfl) (Qx rfl QC) rfl rfl rfl
   ·exact ⟨by omega, (Qm3 hI2 h2 (hw.csLen (by omega))).1, by rw [hI3, Qqc (by omega) h2]⟩
   ·show w.length - (i + 1) < w.length - i; omega
  ·try rw [h2]
   try simp only [qA] at h2
   refine ZC (QR (QD (QJ (Qf (kp1 Z) (Qe fun K hK => Qb Z (Qb Z (hK _ _ (Qa (kp1 Z) ?_))))))))
   refine Qr (Qv Z ?_)
   rw [hI3, Qpy (by omega)]
 ·try rw [h1]
  try simp only [qA] at h1
  refine Qq Z (Qq Z (Qi Z Z (hK _ _ (Qa (kp4 Z Z Z Z) ?_))))
  refine ZE Z (ZC (QR (QD (QJ (Qf (kp1 Z) (Qe fun K hK => Qb Z (Qb Z (hK _ _ (Qa (kp1 Z) ?_)))))))))
  refine Qr (Qv Z ?_)
  rw [hI3, Qpz (by omega)]
theorem QbG {w : Q0} (hw : WSm w) {n : Int} (h0n : 0 <= n) (h1n : n <= 9223372036854775807) : Ok Tryd.prog 23 [QbL w, .int .i64 n] (ZJ (QgS w n)) := by
 refine Ok.ofT Z3 Tryd.func23 QqP (Nat.le_of_ble_eq_true Z) ?_
 show TW _ _ tf23.body _ _
 have hn := hw.len
 refine Qe fun K hK => ZL Z Z Z (Qb Z (hK _ _ (Qa (kp2 Z Z) ?_)))
 refine Qe fun K hK => Qb Z (hK _ _ (Qa (kp3 Z Z Z) ?_))
 refine QH ?_ -- 0
 refine Qe fun K hK => Qb Z (hK _ _ (Qa (kp4 Z Z Z Z) ?_))
 refine QM ?_
 refine Ya (ι := Nat) (fun i => ⟨[(1, .int .i64 (chN w n i)), (2, .ref 2 0 0), (5, .osl 5 (chL w n i).length), (6, .int .i64 i)], [(2, ⟨[[.sl ((w).map Qbu)]], 1, 25, true⟩), (5, ⟨(chL w n i).map (fun x => [.int .i64 x]), 1, 3, true⟩)]⟩) (fun i => i <= w.length) (fun i => w.length - i) 0 ?_ ?_ ?_
 ·exact le_trans (XO 5 5 1 3 rfl rfl) (Zx (l := [1, 2, 5, 6]) (lH := [2, 5]) (kp4 rfl rfl rfl rfl) (Qx rfl (Qx rfl QC)) rfl rfl rfl)
 ·exact Nat.zero_le _
 intro i hI
 have hlen := QkN w n i
 have hbd := QkQ (w := w) h0n i
 try dsimp only
 refine QH ?_ -- 1
 refine Qe fun K hK => Qb Z (Qh Z Z (QF Z Z Z ?_))
 first | refine ZB rfl Yg ?_ | refine ZB rfl rfl ?_
 refine YM Z Z (hK _ _ (Qa (kp5 Z Z Z Z Z) ?_))
 refine QA Z (fun h1 => ?_) (fun h1 => ?_)
 ·try rw [h1]
  try simp only [qA] at h1
  refine Qy (Qf (kp4 Z Z Z Z) ?_)
  refine QH ?_ -- 2
  refine QM (Qe fun K hK => Qh Z Z (QF Z Z Z (Qb Z (QY Z Z Z (by omega) (ZO (by omega)) Z (ZU Z Z (QF Z Z Z ?_))))))
  first | refine ZB rfl Yg ?_ | refine ZB rfl rfl ?_
  refine Zl Z Z (Qt (by omega) (by have := hw.csLen (show i < w.length by omega); omega)) (Qb Z (hK _ _ (Qa (kp5 Z Z Z Z Z) ?_)))
  refine Qe fun K hK => Qb Z (Qb Z (Qb Z (Qmd Z Z (by omega) (Qc0 Z Z (Qox (hw.csLen (by omega))) (QN Z Z (Qbz Z Z (fun _ h => Qbt Z Z Z h) Z (by simp) Z Z Z (by simp; omega) (by simp; omega) (Qb Z (hK _ _ (Qa (kp5 Z Z Z Z Z) ?_)))))))))
  refine Zg fun K hK => Qb Z (Qb Z (Qmc Z Z (by omega) (Qow hbd.1 (by omega)) (Qb Z (hK _ ?_))))
  refine Qm (Qf (kp4 Z Z Z Z) (Zg fun K hK => Qb Z (Zl Z Z (by first | exact Qt (by omega) (by omega) | rfl) (Qb Z (hK _ ?_)))))
  refine Qp (i + 1) ?_ ?_ ?_
  ·exact Zx (l := [1, 2, 5, 6]) (lH := [2, 5]) (kp4 rfl rfl rfl rfl) (Qx rfl (Qx rfl QC)) (by rw [QkP (by omega), Qo5 (by omega), List.length_append]; rfl) (by rw [QkP (by omega), List.map_append]; rfl) rfl
  ·omega
  ·first | omega | (simp only; omega) | (dsimp only; omega)
 ·try rw [h1]
  try simp only [qA] at h1
  refine ZC (QR (QD (QJ (Qf (kp1 Z) (Qe fun K hK => Qb Z (Qb Z (hK _ _ (Qa (kp1 Z) ?_))))))))
  refine Qr ?_
  exact QmU rfl rfl rfl (by simp) (by rw [QgS, show w.length = i by omega]; rfl)
theorem Qb5 {v : Int} (h0 : -1 <= v) (h1v : v <= 60) : Ok Tryd.prog 40 [.int .i64 v] (.int .i64 (2 ^ (v + 1).toNat)) := by
 refine Ok.ofT Z3 Tryd.func40 Qq0 (Nat.le_of_ble_eq_true Z) ?_
 show TW _ _ tf40.body _ _
 refine Qe fun K hK => Qb Z (hK _ _ (Qa (kp1 Z) ?_))
 refine Qe fun K hK => Qb Z (Zl Z Z (by first | exact Qt (by omega) (by omega) | rfl) (QpS Z Z (by omega) (Ql2 (by omega)) (Qb Z (hK _ _ (Qa (kp1 Z) ?_)))))
 refine Qr (Qv Z ?_)
 rfl
theorem QfR {w : Q0} (hw : WSm w) {u : Int} : Ok Tryd.prog 39 [QbL w, .int .i64 u] (.bool (inW w u)) := by
 refine Ok.ofT Z3 Tryd.func39 QqZ (Nat.le_of_ble_eq_true Z) ?_
 show TW _ _ tf39.body _ _
 refine Qe fun K hK => ZL Z Z Z (Qb Z (hK _ _ (Qa (kp2 Z Z) ?_)))
 refine Qe fun K hK => Qb Z (Qjf Z Z (Qb Z ?_))
 refine Qw (g := 7) Z (fun h1 => ?_) (fun h1 => ?_)
 ·try rw [h1]
  try simp only [qA] at h1
  refine Qg Z (Qb Z (Qg Z (Qh Z Z (Qg Z (QF Z Z Z (Qg Z ?_))))))
  first | refine ZB rfl Yg ?_ | refine ZB rfl rfl ?_
  refine Qg Z (YM Z Z (Qi Z Z (Qb Z (hK _ _ (Qa (kp1 Z) ?_)))))
  refine Qr (Ql Z ?_)
  first | rfl | (rw [Qlg (by omega)]; done) | (rw [inW, decide_eq_true h1, Bool.true_and])
 ·try rw [h1]
  try simp only [qA] at h1
  refine Qq Z (Qq Z (Qq Z (Qq Z (Qq Z (Qi Z Z (Qb Z (hK _ _ (Qa (kp1 Z) ?_))))))))
  refine Qr (Ql Z ?_)
  first | rfl | (rw [Qlg (by omega)]; done) | (rw [inW, decide_eq_true h1, Bool.true_and])
theorem QeP {w : Q0} (hw : WSm w) {u : Int} : Ok Tryd.prog 13 [QbL w, .int .i64 u] (.int .i64 (QaS w u)) := by
 refine Ok.ofT Z3 Tryd.func13 QqK (Nat.le_of_ble_eq_true Z) ?_
 show TW _ _ tf13.body _ _
 refine Qe fun K hK => ZL Z Z Z (Qb Z (hK _ _ (Qa (kp2 Z Z) ?_)))
 refine QH ?_ -- 0
 refine Qe fun K hK => QE (cs := [_]) Z Z Z Z (Qb Z (Qz (QfR hw) Z Z (.inr Z) (ZM Z (hK _ _ (Qa (kp3 Z Z Z) ?_)))))
 refine QA Z (fun h1 => ?_) (fun h1 => ?_)
 ·try rw [h1]
  try simp only [qA] at h1
  try have h1b := Qe5.1 h1
  refine Qe fun K hK => Qb Z (hK _ _ (Qa (kp1 Z) ?_))
  refine Qr (Qk (Qv Z ?_))
  rw [Qk7.2 h1]
 ·try rw [h1]
  try simp only [qA] at h1
  try have h1b := Qe5.1 h1
  refine Qy (Qf (kp2 Z Z) (Qe fun K hK => Qh Z Z (QF Z Z Z (Qb Z (QY Z Z Z (by omega) (Z7 (by omega) (by omega)) Z (ZU Z Z (QF Z Z Z ?_)))))))
  first | refine ZB rfl Yg ?_ | refine ZB rfl rfl ?_
  refine Qz (Qb5 (by omega) (by have := hw.cs _ (List.getElem_mem (show u.toNat < w.length by omega)); omega)) Z Z (.inr Z) (Qc0 Z Z (Ql1 (by have := hw.cs _ (List.getElem_mem (show u.toNat < w.length by omega)); omega)) (Qb Z (hK _ _ (Qa (kp1 Z) ?_))))
  refine Qr (Qv Z ?_)
  rw [QgT h1b.1 h1b.2, show min (w[u.toNat]'(by omega)).cs.length 16 = (w[u.toNat]'(by omega)).cs.length from Nat.min_eq_left (hw.cs _ (List.getElem_mem _)), QpD]
end Go.Proofs
namespace M25
open Go Go.Abs M3
/-! ### prop: what is left of each unit, scans -/
structure QoM (w : Q0) (db : List (List QfB)) (l : List Qa5) (a : Nat) (k : Nat) : Prop where
  ha : a < db.length
  hk : k < db[a].length
  eq : Qp5 w db l = ((a : Int), db[a][k].u)
  one : Qh1 (QfJ w l db[a][k].u) db[a][k].m = 1
  two : ∀ j, ∀ hj : j < db[a].length, j ≠ k -> Qh1 (QfJ w l db[a][j].u) db[a][j].m = 2
def QqC (w : Q0) (l : List Qa5) (t : QfB) (c : Int) : Qa5 := ⟨t.u, Qin (QfJ w l t.u) t.m, Qpl l, c⟩
end M25
namespace M25
open Go Go.Abs M3
/-! ### Sets that are made: moderate sizes -/
theorem Qmy (l : List (Cu × Cu)) (x y : Cu) : (QbT l x y).length <= l.length + 1 := QhY l x y
theorem QgE (f : Cu -> Cu -> Bool) : ∀ (c : List Cu) (out : List (Cu × Cu)), (∀ x ∈ c, Cu.sm x) -> (∀ s ∈ out, Cu.sm s.1 /\ Cu.sm s.2) -> (QbS f c out).length <= out.length + c.length /\ ∀ s ∈ QbS f c out, Cu.sm s.1 /\ Cu.sm s.2
 | [], out, _, h => ⟨by simp [QbS], by simpa [QbS] using h⟩
 | [x], out, _, h => ⟨by simp [QbS], by simpa [QbS] using h⟩
 | x :: y :: r, out, hc, h => by
  rw [QbS]
  have hxy := Qmy out x y
  split
  ·obtain ⟨h1, h2⟩ := QgE f (y :: r) (QbT out x y) (fun z hz => hc z (by simp at hz ⊢; exact .inr hz)) (QjK h (hc x (by simp)) (hc y (by simp)))
   exact ⟨by simp only [List.length_cons] at h1 ⊢; omega, h2⟩
  ·obtain ⟨h1, h2⟩ := QgE f (y :: r) out (fun z hz => hc z (by simp at hz ⊢; exact .inr hz)) h
   exact ⟨by simp only [List.length_cons] at h1 ⊢; omega, h2⟩
def SmN (n : Nat) (l : List (Cu × Cu)) : Prop := l.length <= n /\ ∀ s ∈ l, Cu.sm s.1 /\ Cu.sm s.2
theorem SmN.sm {n : Nat} {l : List (Cu × Cu)} (h : SmN n l) (hn : n <= 1000000) : Sm l := ⟨Nat.le_trans h.1 hn, h.2⟩
theorem SmN.up {n m : Nat} {l : List (Cu × Cu)} (h : SmN n l) (hn : n <= m) : SmN m l := ⟨Nat.le_trans h.1 hn, h.2⟩
theorem SmN.nil (n : Nat) : SmN n [] := ⟨Nat.zero_le _, by simp⟩
theorem Qnp {a b : List (Cu × Cu)} {n m : Nat} (ha : SmN n a) (hb : SmN m b) (h : n + m <= 1000000) : SmN (2 + 2 * (n + m)) (Qnn a b) := by
 unfold Qnn
 split
 ·have hab : Sm (a ++ b) := (ha.sm (by omega)).app (hb.sm (by omega)) (by have := ha.1; have := hb.1; omega)
  unfold QiP
  split
  ·obtain ⟨h1, h2⟩ := QgE (mIn (a ++ b)) (YU (a ++ b)) [] (Yx hab) (by simp)
   have := QbR (a ++ b)
   have := ha.1
   have := hb.1
   exact ⟨by simp only [List.length_nil, List.length_append] at *; omega, h2⟩
  ·exact SmN.nil _
 ·exact SmN.nil _
theorem Qlx {a : List (Cu × Cu)} {n : Nat} (ha : SmN n a) (h : n <= 1000000) : SmN (2 + 2 * n) (QiQ a) := by
 unfold QiQ
 split
 ·obtain ⟨h1, h2⟩ := QgE (fun x y => !mIn a x y) (YU a) [] (Yx (ha.sm h)) (by simp)
  have := QbR a
  have := ha.1
  exact ⟨by simp only [List.length_nil] at *; omega, h2⟩
 ·exact SmN.nil _
def Qjh (n : Nat) (s : Qec) : Prop := SmN n s.1 /\ SmN n s.2
theorem Qpq {a b : Qec} {n m : Nat} (ha : Qjh n a) (hb : Qjh m b) (h : n + m <= 1000000) : Qjh (2 + 2 * (n + m)) (QmN a b) := by
 unfold QmN
 split
 ·exact ⟨Qnp ha.1 hb.1 h, Qnp ha.2 hb.2 h⟩
 ·exact ⟨SmN.nil _, SmN.nil _⟩
theorem QgY {a : Qec} {n : Nat} (ha : Qjh n a) (h : n <= 1000000) : Qjh (2 + 2 * n) (QdS a) := by
 unfold QdS
 split
 ·exact ⟨Qlx ha.1 h, Qlx ha.2 h⟩
 ·exact ⟨SmN.nil _, SmN.nil _⟩
theorem Qcj (e a b c : Int) (f : Bool) : Cu.sm ⟨e, a, b, c, [], [], f⟩ := ⟨Nat.zero_le _, Nat.zero_le _⟩
theorem Xn {a b c : Int} {p q : List UInt8} (hp : p.length <= 1000000) : Qjh 1 (YJ a b c p q) := by
 unfold YJ
 split
 ·exact ⟨SmN.nil _, SmN.nil _⟩
 ·split
  ·refine ⟨SmN.nil _, ⟨Nat.le_refl _, fun s hs => ?_⟩⟩
   simp only [List.mem_singleton] at hs; subst hs
   exact ⟨⟨hp, Nat.zero_le _⟩, ⟨hp, Nat.zero_le _⟩⟩
  ·refine ⟨⟨Nat.le_refl _, fun s hs => ?_⟩, SmN.nil _⟩
   simp only [List.mem_singleton] at hs; subst hs
   constructor
   ·unfold Qff; split
    ·exact Qcj ..
    ·exact Qcj ..
   ·unfold Qds; split
    ·exact Qcj ..
    ·exact Qcj ..
def Qgq : Qec := ([(Qcx, QfG)], [(Qcx, QfG)])
theorem Qji : Qjh 1 Qgq := by
 have h : SmN 1 [(Qcx, QfG)] := ⟨Nat.le_refl _, fun s hs => by simp only [List.mem_singleton] at hs; subst hs; exact ⟨Qcj .., Qcj ..⟩⟩
 exact ⟨h, h⟩
def bnd (i : Nat) : Nat := 4 * 2 ^ i
theorem QkG {i : Nat} (h : i <= 16) : bnd i <= 262144 := by
 have : 2 ^ i <= 2 ^ 16 := Nat.pow_le_pow_right (by omega) h
 have e : (2 : Nat) ^ 16 = 65536 := by decide
 unfold bnd; omega
theorem Qnw {s : Qec} {i : Nat} (h : Qjh (bnd i - 4) s) {a b c : Int} {p q : List UInt8} (hp : p.length <= 1000000) (hi : i <= 16) : Qjh (bnd (i + 1) - 4) (QmN s (YJ a b c p q)) := by
 have h1 := QkG hi
 have h4 : 4 <= bnd i := by unfold bnd; have := Nat.one_le_two_pow (n := i); omega
 have := Qpq h (Xn (a := a) (b := b) (c := c) (q := q) hp) (by omega)
 have e : bnd (i + 1) = 2 * bnd i := by unfold bnd; rw [Nat.pow_succ]; omega
 exact ⟨this.1.up (by omega), this.2.up (by omega)⟩
theorem Qj0 {s : Qec} {i : Nat} (h : Qjh (bnd i - 4) s) : Qjh (bnd (i + 1) - 4) s := by
 have e : bnd (i + 1) = 2 * bnd i := by unfold bnd; rw [Nat.pow_succ]; omega
 exact ⟨h.1.up (by omega), h.2.up (by omega)⟩
def SetOk (s : Qec) : Prop := Qjh 600000 s
theorem SetOk.sm {s : Qec} (h : SetOk s) : Sm s.1 /\ Sm s.2 := ⟨h.1.sm (by omega), h.2.sm (by omega)⟩
structure CR where
 v : Vr
 x : D
 y : D
 z : D
def dCR (r : CR) : List D := [.int .i64 r.v.a, .int .i64 r.v.b, .int .i64 r.v.c, .str r.v.p, .str r.v.q, r.x, r.y, r.z]
def CR.ren (r : CR) : CR := ⟨r.v, r.x.renS upN, r.y.renS upN, r.z.renS upN⟩
theorem QkS (l : List CR) : (l.map dCR).map (fun r => r.map (D.renS upN)) = (l.map CR.ren).map dCR := by
 rw [List.map_map, List.map_map]; rfl
structure UR where
 n : List UInt8
 f : List UInt8
 k : Nat
 cs : List CR
def dUR (u : UR) : List D := [.str u.n, .str u.f, .osl u.k u.cs.length]
def UR.ren (u : UR) : UR := ⟨u.n, u.f, upN u.k, u.cs.map CR.ren⟩
theorem Qn2 (l : List UR) : (l.map dUR).map (fun r => r.map (D.renS upN)) = (l.map UR.ren).map dUR := by
 rw [List.map_map, List.map_map]
 refine List.map_congr_left fun u _ => ?_
 simp [dUR, UR.ren, D.renS]
structure Fam (H : List (Nat × Box)) (kg ku eu ec : Nat) (us : List UR) : Prop where
 ne : ku ≠ kg
 u : ∃ pr, lk H ku = some ⟨us.map dUR, 3, eu, pr⟩
 c : ∀ y ∈ us, y.k ≠ kg /\ ∃ pr, lk H y.k = some ⟨y.cs.map dCR, 8, ec, pr⟩
 v : ∀ y ∈ us, y.cs.length <= 16 /\ ∀ z ∈ y.cs, Qei z.v
theorem Fam.up {H : List (Nat × Box)} {kg ku eu ec : Nat} {us : List UR} (h : Fam H kg ku eu ec us) : Fam (upH H) (upN kg) (upN ku) eu ec (us.map UR.ren) := by
 obtain ⟨h1, ⟨pu, h2⟩, h3, h4⟩ := h
 refine ⟨fun e => h1 (Qi5 e), ⟨pu, ?_⟩, fun y hy => ?_, fun y hy => ?_⟩
 ·rw [XX, h2, Option.map_some, Box.ren, Qn2]
 ·obtain ⟨u, hu, rfl⟩ := List.mem_map.1 hy
  obtain ⟨q1, pr, q2⟩ := h3 u hu
  refine ⟨fun e => q1 (Qi5 e), pr, ?_⟩
  show lk (upH H) (upN u.k) = _
  rw [XX, q2, Option.map_some, Box.ren, QkS]; rfl
 ·obtain ⟨u, hu, rfl⟩ := List.mem_map.1 hy
  obtain ⟨q1, q2⟩ := h4 u hu
  refine ⟨by simpa [UR.ren] using q1, fun z hz => ?_⟩
  obtain ⟨z0, hz0, rfl⟩ := List.mem_map.1 hz
  exact q2 z0 hz0
theorem Fam.cons {H : List (Nat × Box)} {kg ku eu ec : Nat} {us : List UR} (h : Fam H kg ku eu ec us) {b : Box} : Fam ((kg, b) :: H) kg ku eu ec us := by
 obtain ⟨h1, ⟨pu, h2⟩, h3, h4⟩ := h
 exact ⟨h1, ⟨pu, Qj (Ne.symm h1) h2⟩, fun y hy => let ⟨q1, pr, q2⟩ := h3 y hy; ⟨q1, pr, Qj (Ne.symm q1) q2⟩, h4⟩
def WantIn (n : Nat) (x : WantT) : Prop := 1 <= x.u /\ x.u < n /\ SetOk x.s
def Qhr (n : Nat) (r : List WantT) : Prop := r.length <= 2 /\ ∀ x ∈ r, WantIn n x
def QeF (n : Nat) (m : Int) (ns : List (List WantT)) : Prop := (ns.length : Int) <= m /\ ∀ r ∈ ns, Qhr n r
theorem Qoj {n : Nat} {x : WantT} (h : WantIn n x) : Qhr n [x] := ⟨by simp, by intro y hy; simp only [List.mem_singleton] at hy; subst hy; exact h⟩
theorem Qok {n : Nat} {x y : WantT} (h : WantIn n x) (h' : WantIn n y) : Qhr n [x, y] := ⟨by simp, by
 intro z hz
 simp only [List.mem_cons, List.not_mem_nil, or_false] at hz
 rcases hz with rfl | rfl
 ·exact h
 ·exact h'⟩
theorem QlK {n : Nat} {ns : List (List WantT)} {r : List WantT} (h : ∀ r ∈ ns, Qhr n r) (hr : Qhr n r) : ∀ x ∈ ns ++ [r], Qhr n x := fun x hx => by
 rcases List.mem_append.1 hx with hx | hx
 ·exact h x hx
 ·simp only [List.mem_singleton] at hx; subst hx; exact hr
end M25
namespace M25
open Go Go.Abs M3
/-! ### The boxes of a world under way -/
def fbx (ec : Nat) (us : List UR) : List (Nat × Box) := us.map fun u => (u.k, ⟨u.cs.map dCR, 8, ec, true⟩)
def Z9 (us : List UR) : Prop := ∀ j, ∀ h : j < us.length, us[j].k = 500001 + j
theorem QhR {us : List UR} {u : UR} (h : Z9 us) (hu : u.k = 500001 + us.length) : Z9 (us ++ [u]) := fun j hj => by
 rw [List.length_append, List.length_singleton] at hj
 by_cases e : j < us.length
 ·rw [List.getElem_append_left e]; exact h j e
 ·have : j = us.length := by omega
  subst this
  rw [List.getElem_append_right (Nat.le_refl _)]; simpa using hu
theorem QeX (ec : Nat) (us : List UR) : Ql6 (fbx ec us) := fun p hp => by
 obtain ⟨u, _, rfl⟩ := List.mem_map.1 hp; rfl
theorem Qf9 {ec : Nat} : ∀ {us : List UR} {k : Nat} {b : Box}, lk (fbx ec us) k = some b -> ∃ u ∈ us, k = u.k /\ b = ⟨u.cs.map dCR, 8, ec, true⟩
 | [], _, _, h => by cases h
 | u :: us, k, b, h => by
  simp only [fbx, List.map_cons] at h
  rw [Qn] at h
  split at h
  ·rename_i e; cases h; exact ⟨u, by simp, e.symm, rfl⟩
  ·obtain ⟨v, hv, q⟩ := Qf9 (us := us) h
   exact ⟨v, by simp [hv], q⟩
theorem Qbf {us : List UR} (h : Z9 us) {u : UR} (hu : u ∈ us) : 500001 <= u.k /\ u.k < 500001 + us.length := by
 obtain ⟨j, hj, rfl⟩ := List.getElem_of_mem hu
 have := h j hj
 omega
theorem QgB {ec : Nat} {us : List UR} (h : Z9 us) : Qqu 500001 (fbx ec us) := fun k b hk => by
 obtain ⟨u, hu, rfl, _⟩ := Qf9 hk
 exact (Qbf h hu).1
theorem YQ {ec : Nat} {us : List UR} (h : Z9 us) {k : Nat} (hk : k < 500001 \/ 500001 + us.length <= k) : lk (fbx ec us) k = none := by
 cases hh : lk (fbx ec us) k with
 | none => rfl
 | some b =>
  obtain ⟨u, hu, rfl, _⟩ := Qf9 hh
  have := Qbf h hu
  omega
theorem Qk3 {ec : Nat} : ∀ {us : List UR} {n : Nat}, (∀ j, ∀ h : j < us.length, us[j].k = n + j) -> ∀ j, ∀ h : j < us.length, lk (fbx ec us) (n + j) = some ⟨us[j].cs.map dCR, 8, ec, true⟩
 | [], _, _, j, hj => by simp at hj
 | u :: us, n, hk, 0, _ => by
  have := hk 0 (by simp)
  simp only [List.getElem_cons_zero, Nat.add_zero] at this
  simp only [fbx, List.map_cons, Nat.add_zero]
  rw [Qn, if_pos this]; rfl
 | u :: us, n, hk, j + 1, hj => by
  have h0 := hk 0 (by simp)
  simp only [List.getElem_cons_zero, Nat.add_zero] at h0
  simp only [fbx, List.map_cons]
  rw [Qn, if_neg (by omega)]
  have := Qk3 (ec := ec) (us := us) (n := n + 1) (fun i hi => by
   have := hk (i + 1) (by simpa using hi)
   simp only [List.getElem_cons_succ] at this
   omega) j (by simpa using hj)
  rw [show n + 1 + j = n + (j + 1) by omega] at this
  simp only [List.getElem_cons_succ]
  exact this
theorem Qk2 {ec : Nat} {us : List UR} (h : Z9 us) {j : Nat} (hj : j < us.length) : lk (fbx ec us) (500001 + j) = some ⟨us[j].cs.map dCR, 8, ec, true⟩ := Qk3 h j hj
theorem Qjv (ec : Nat) (us : List UR) (u : UR) : fbx ec (us ++ [u]) = fbx ec us ++ [(u.k, ⟨u.cs.map dCR, 8, ec, true⟩)] := by simp [fbx]
theorem Qmr {ec : Nat} {us : List UR} (h : Z9 us) {kg : Nat} {x y : Box} {u : UR} (hu : u.k = 500001 + us.length) (hkg : u.k ≠ kg) (k : Nat) :
  lk ((u.k, ⟨u.cs.map dCR, 8, ec, true⟩) :: (500000, x) :: (kg, y) :: fbx ec us) k = lk ((500000, x) :: (kg, y) :: fbx ec (us ++ [u])) k := by
 rw [Qjv]
 by_cases e : u.k = k
 ·subst e
  rw [Qs, Qn, if_neg (by omega), Qn, if_neg (Ne.symm hkg), YS (YQ h (.inr (by omega))), Qs]
 ·rw [Qn, if_neg e, Qn, Qn, Qn, Qn]
  split
  ·rfl
  ·split
   ·rfl
   ·rw [ZQ]
    cases h2 : lk (fbx ec us) k with
    | some v => rfl
    | none => rw [Qn, if_neg e]; rfl
def zr (v : Vr) (sh : Int) : CR := ⟨v, .int .i64 sh, .fsl [], .fsl []⟩
def QoJ (u : UR) : Prop := u.cs.length <= 4 /\ ∀ z ∈ u.cs, ∃ v sh, z = zr v sh /\ Qei v
theorem Qni {u : UR} : (dUR u).flatMap D.sid = [u.k] := by simp [dUR, D.sid]
theorem Qbp {us : List UR} {e et : Nat} {k : Nat} (h : k ∈ (Box.ids ⟨us.map dUR, e, et, false⟩)) : ∃ u ∈ us, k = u.k := by
 simp only [Box.ids, Bool.false_eq_true, if_false, List.mem_flatMap, List.mem_map] at h
 obtain ⟨r, ⟨u, hu, rfl⟩, hk⟩ := h
 have : k ∈ (dUR u).flatMap D.sid := List.mem_flatMap.2 hk
 rw [Qni] at this
 exact ⟨u, hu, by simpa using this⟩
theorem Qos {us : List UR} (h : Z9 us) : ∀ r ∈ us.map dUR, ∀ d ∈ r, 500000 ∉ d.sid := fun r hr d hd hk => by
 obtain ⟨u, hu, rfl⟩ := List.mem_map.1 hr
 have : 500000 ∈ (dUR u).flatMap D.sid := List.mem_flatMap.2 ⟨d, hd, hk⟩
 rw [Qni] at this
 have h2 := Qbf h hu
 simp only [List.mem_singleton] at this
 omega
theorem Qgr {B F : List (Nat × Box)} {j : Nat} (h : (lk F j).isSome = true) : (lk (B ++ F) j).isSome = true := by
 rw [ZQ]; split
 ·rfl
 ·exact h
theorem Qdk {ec : Nat} {us : List UR} (h : Z9 us) {u : UR} (hu : u ∈ us) : (lk (fbx ec us) u.k).isSome = true := by
 obtain ⟨j, hj, rfl⟩ := List.getElem_of_mem hu
 rw [h j hj, Qk2 h hj]; rfl
theorem QgC {ec : Nat} {us : List UR} {u : UR} (h : Z9 us) (hu : u.k = 500001 + us.length) : lk (fbx ec (us ++ [u])) (500001 + us.length) = some ⟨u.cs.map dCR, 8, ec, true⟩ := by
 rw [Qjv, YS (YQ h (.inr (Nat.le_refl _))), <- hu, Qs]
section
variable {l : List Nat} {fr fr1 fr' : List (Nat × D)} {B : List (Nat × Box)} {kg eg eu ec : Nat} {L : List Int} {J : Int} {us : List UR}
theorem Qqx (hf : Q7 l fr = fr1) (ef : fr1 = fr') (hK : Z9 us) (hu : lk B 500000 = some ⟨us.map dUR, 3, eu, false⟩) (hg : lk B kg = some (gB L J eg)) (hB : ∀ p ∈ B, 500001 <= p.1 -> p.1 = kg) (hkg : kg ≠ 500000)
  (hfr : ∀ p ∈ fr', ∀ k ∈ p.2.ids, k = 500000 \/ k = kg \/ ∃ u ∈ us, k = u.k) : St.le ⟨fr, B ++ fbx ec us⟩ ⟨fr', [(500000, ⟨us.map dUR, 3, eu, false⟩), (kg, gB L J eg)] ++ fbx ec us⟩ := by
 have s0 : ∀ k, (k = 500000 \/ k = kg \/ ∃ u ∈ us, k = u.k) -> (lk ([(500000, (⟨us.map dUR, 3, eu, false⟩ : Box)), (kg, gB L J eg)] ++ fbx ec us) k).isSome = true := fun k hk => by
  rcases hk with rfl | rfl | ⟨u, hu, rfl⟩
  ·exact QQ
  ·exact QO QQ
  ·exact Qgr (Qdk hK hu)
 refine QiO (N := 500001) hf ef (fun p hp => ?_) rfl (fun p hp j hj => s0 j ?_) (fun p hp h => ?_) (QgB hK) (QeX ec us) (fun p hp k hk => s0 k (hfr p hp k hk))
 ·simp only [List.mem_cons, List.not_mem_nil, or_false] at hp
  rcases hp with rfl | rfl
  ·exact hu
  ·exact hg
 ·simp only [List.mem_cons, List.not_mem_nil, or_false] at hp
  rcases hp with rfl | rfl
  ·exact .inr (.inr (Qbp hj))
  ·simp [Box.ids, gB] at hj
 ·rw [hB p hp h]; exact QO QQ
theorem QoH {cs : List CR} (hf : Q7 l fr = fr1) (ef : fr1 = fr') (hK : Z9 us) (hc : lk B (500001 + us.length) = some ⟨cs.map dCR, 8, ec, true⟩) (hu : lk B 500000 = some ⟨us.map dUR, 3, eu, false⟩) (hg : lk B kg = some (gB L J eg)) (hB : ∀ p ∈ B, 500001 <= p.1 -> p.1 = kg \/ p.1 = 500001 + us.length)
  (hfr : ∀ p ∈ fr', ∀ k ∈ p.2.ids, k = 500000 \/ k = kg \/ k = 500001 + us.length \/ ∃ u ∈ us, k = u.k) : St.le ⟨fr, B ++ fbx ec us⟩ ⟨fr', [(500001 + us.length, ⟨cs.map dCR, 8, ec, true⟩), (500000, ⟨us.map dUR, 3, eu, false⟩), (kg, gB L J eg)] ++ fbx ec us⟩ := by
 have s0 : ∀ k, (k = 500000 \/ k = kg \/ k = 500001 + us.length \/ ∃ u ∈ us, k = u.k) -> (lk ([(500001 + us.length, (⟨cs.map dCR, 8, ec, true⟩ : Box)), (500000, (⟨us.map dUR, 3, eu, false⟩ : Box)), (kg, gB L J eg)] ++ fbx ec us) k).isSome = true := fun k hk => by
  rcases hk with rfl | rfl | rfl | ⟨u, hu, rfl⟩
  ·exact QO QQ
  ·exact QO (QO QQ)
  ·exact QQ
  ·exact Qgr (Qdk hK hu)
 refine QiO (N := 500001) hf ef (fun p hp => ?_) rfl (fun p hp j hj => s0 j ?_) (fun p hp h => ?_) (QgB hK) (QeX ec us) (fun p hp k hk => s0 k (hfr p hp k hk))
 ·simp only [List.mem_cons, List.not_mem_nil, or_false] at hp
  rcases hp with rfl | rfl | rfl
  ·exact hc
  ·exact hu
  ·exact hg
 ·simp only [List.mem_cons, List.not_mem_nil, or_false] at hp
  rcases hp with rfl | rfl | rfl
  ·simp [Box.ids] at hj
  ·exact .inr (.inr (.inr (Qbp hj)))
  ·simp [Box.ids, gB] at hj
 ·rcases hB p hp h with e | e
  ·rw [e]; exact QO (QO QQ)
  ·rw [e]; exact QQ
theorem QpC {u : UR} (hf : Q7 l fr = fr1) (ef : fr1 = fr') (hK : Z9 us) (huk : u.k = 500001 + us.length) (hc : lk B (500001 + us.length) = some ⟨u.cs.map dCR, 8, ec, true⟩) (hu : lk B 500000 = some ⟨(us ++ [u]).map dUR, 3, eu, false⟩) (hg : lk B kg = some (gB L J eg)) (hB : ∀ p ∈ B, 500001 <= p.1 -> p.1 = kg \/ p.1 = 500001 + us.length) (hkg : 1000000 <= kg) (hlen : us.length <= 100)
  (hfr : ∀ p ∈ fr', ∀ k ∈ p.2.ids, k = 500000 \/ k = kg \/ ∃ v ∈ us ++ [u], k = v.k) : St.le ⟨fr, B ++ fbx ec us⟩ ⟨fr', [(500000, ⟨(us ++ [u]).map dUR, 3, eu, false⟩), (kg, gB L J eg)] ++ fbx ec (us ++ [u])⟩ := by
 have hK1 := QhR hK huk
 have mv := fun k => Qmr (ec := ec) hK (kg := kg) (x := ⟨(us ++ [u]).map dUR, 3, eu, false⟩) (y := gB L J eg) huk (by omega) k
 have s0 : ∀ k, (k = 500000 \/ k = kg \/ ∃ v ∈ us ++ [u], k = v.k) -> (lk ([(u.k, (⟨u.cs.map dCR, 8, ec, true⟩ : Box)), (500000, (⟨(us ++ [u]).map dUR, 3, eu, false⟩ : Box)), (kg, gB L J eg)] ++ fbx ec us) k).isSome = true := fun k hk => by
  show (lk ((u.k, _) :: (500000, _) :: (kg, _) :: fbx ec us) k).isSome = true
  rw [mv]
  rcases hk with rfl | rfl | ⟨v, hv, rfl⟩
  ·exact QQ
  ·exact QO QQ
  ·exact QO (QO (Qdk hK1 hv))
 refine le_trans (QiO (N := 500001) (A' := [(u.k, ⟨u.cs.map dCR, 8, ec, true⟩), (500000, ⟨(us ++ [u]).map dUR, 3, eu, false⟩), (kg, gB L J eg)]) hf ef (fun p hp => ?_) rfl (fun p hp j hj => s0 j ?_) (fun p hp h => ?_) (QgB hK) (QeX ec us) (fun p hp k hk => s0 k (hfr p hp k hk))) (QgP ⟨fun _ => rfl, mv⟩)
 ·simp only [List.mem_cons, List.not_mem_nil, or_false] at hp
  rcases hp with rfl | rfl | rfl
  ·rw [huk]; exact hc
  ·exact hu
  ·exact hg
 ·simp only [List.mem_cons, List.not_mem_nil, or_false] at hp
  rcases hp with rfl | rfl | rfl
  ·simp [Box.ids] at hj
  ·exact .inr (.inr (Qbp hj))
  ·simp [Box.ids, gB] at hj
 ·rcases hB p hp h with e | e
  ·rw [e]; exact QO (QO QQ)
  ·rw [e, <- huk]; exact QQ
end
def u0 (v : Vr) : UR := ⟨[], [], 500001, [zr v (-1)]⟩
def v0 : Vr := ⟨0, 0, 0, [], []⟩
theorem Qm2 {kg a b : Nat} (h : 1000000 <= kg) (ha : a < 1000000) (hb : b < 1000000) : Qbx a b kg = kg := by
 unfold Qbx; rw [if_neg (by omega), if_neg (by omega)]
theorem Qlp {l : List Nat} {fr fr1 fr' : List (Nat × D)} {kg eg eu ec : Nat} {L : List Int} {I : Int} (hkg : 1000000 <= kg) (hf : Q7 l fr = fr1) (ef : fr1.map (fun p => (p.1, (p.2.ren (Qbx 18 500000)).ren (Qbx 16 500001))) = fr') :
  St.le ⟨fr, [(18, ⟨[[.str [], .str [], .osl 16 1]], 3, eu, false⟩), (16, ⟨[dCR (zr v0 (-1))], 8, ec, true⟩), (kg, gB L I eg)]⟩ ⟨fr', [(500000, ⟨[u0 v0].map dUR, 3, eu, false⟩), (kg, gB L I eg)] ++ fbx ec [u0 v0]⟩ := by
 subst hf ef
 have k1 := Qm2 (a := 18) (b := 500000) hkg (by decide) (by decide)
 have k2 := Qm2 (a := 16) (b := 500001) hkg (by decide) (by decide)
 refine le_trans (QbQ l fr _) (le_trans (QiN 18 500000 (by decide) (by decide) _) (le_trans (QiN 16 500001 (by decide) (by decide) _) ?_))
 have hH : ∀ k, lk ([(500000, (⟨[u0 v0].map dUR, 3, eu, false⟩ : Box)), (kg, gB L I eg)] ++ fbx ec [u0 v0]) k = lk (Qct (Qbx 16 500001) (Qct (Qbx 18 500000) [(18, ⟨[[.str [], .str [], .osl 16 1]], 3, eu, false⟩), (16, ⟨[dCR (zr v0 (-1))], 8, ec, true⟩), (kg, gB L I eg)])) k := fun k => by
  have e : Qct (Qbx 16 500001) (Qct (Qbx 18 500000) [(18, (⟨[[.str [], .str [], .osl 16 1]], 3, eu, false⟩ : Box)), (16, ⟨[dCR (zr v0 (-1))], 8, ec, true⟩), (kg, gB L I eg)]) = [(500000, ⟨[u0 v0].map dUR, 3, eu, false⟩), (500001, ⟨[dCR (zr v0 (-1))], 8, ec, true⟩), (kg, gB L I eg)] := by
   simp only [Qct, List.map_cons, List.map_nil, k1, k2]; rfl
  rw [e]
  show lk ((500000, _) :: (kg, _) :: (500001, _) :: []) k = _
  rw [Qn, Qn, Qn, Qn, Qn, Qn]
  by_cases h1 : 500000 = k
  ·rw [if_pos h1, if_pos h1]
  ·rw [if_neg h1, if_neg h1]
   by_cases h2 : kg = k
   ·rw [if_pos h2, if_neg (by omega), if_pos h2]
   ·rw [if_neg h2, if_neg h2]; rfl
 refine Qbg (by simp only [St.ren, List.map_map]; rfl) fun k => (hH k).symm
def names5 : List (List UInt8) := [[97, 110, 116], [98, 101, 101], [99, 111, 119], [100, 111, 103], [101, 108, 107]]
theorem Q6 : names5.length = 5 := rfl
theorem Qot : versions.length = 4 := rfl
theorem QpE {i : Nat} (h : i < versions.length) : Qei versions[i] := by
 have := Qi7 _ (List.getElem_mem h)
 exact ⟨Nat.le_trans this.1 (by omega), Nat.le_trans this.2 (by omega)⟩
structure UnitsIn (us : List UR) : Prop where
 keys : Z9 us
 fresh : ∀ u ∈ us, QoJ u
 first : ∃ z rest, us = ⟨[], [], 500001, [z]⟩ :: rest
theorem UnitsIn.zero : UnitsIn [u0 v0] := by
 refine ⟨fun j hj => ?_, fun u hu => ?_, ⟨zr v0 (-1), [], rfl⟩⟩
 ·have : j = 0 := by simp at hj; exact hj
  subst this; rfl
 ·simp only [List.mem_singleton] at hu; subst hu
  refine ⟨by simp [u0], fun z hz => ?_⟩
  simp only [u0, List.mem_singleton] at hz; subst hz
  exact ⟨v0, -1, rfl, ⟨Nat.zero_le _, Nat.zero_le _⟩⟩
theorem UnitsIn.snoc {us : List UR} (h : UnitsIn us) {n f : List UInt8} {cs : List CR} (hc : cs.length <= 4) (hz : ∀ z ∈ cs, ∃ v sh, z = zr v sh /\ Qei v) : UnitsIn (us ++ [⟨n, f, 500001 + us.length, cs⟩]) := by
 obtain ⟨h1, h2, z, rest, h3⟩ := h
 refine ⟨QhR h1 rfl, fun u hu => ?_, z, rest ++ [⟨n, f, 500001 + us.length, cs⟩], by rw [h3]; rfl⟩
 rcases List.mem_append.1 hu with hu | hu
 ·exact h2 u hu
 ·simp only [List.mem_singleton] at hu; subst hu; exact ⟨hc, hz⟩
def CsIn (n : Nat) (cs : List CR) : Prop := cs.length <= n /\ ∀ z ∈ cs, ∃ v sh, z = zr v sh /\ Qei v
theorem CsIn.nil (n : Nat) : CsIn n [] := ⟨Nat.zero_le _, by simp⟩
theorem CsIn.keep {n : Nat} {cs : List CR} (h : CsIn n cs) : CsIn (n + 1) cs := ⟨Nat.le_succ_of_le h.1, h.2⟩
theorem CsIn.snoc {n : Nat} {cs : List CR} (h : CsIn n cs) {v : Vr} (hv : Qei v) {sh : Int} : CsIn (n + 1) (cs ++ [zr v sh]) := by
 refine ⟨by simp; exact h.1, fun z hz => ?_⟩
 rcases List.mem_append.1 hz with hz | hz
 ·exact h.2 z hz
 ·simp only [List.mem_singleton] at hz; subst hz; exact ⟨v, sh, rfl, hv⟩
theorem CsIn.at {n : Nat} {cs : List CR} (h : CsIn n cs) {i : Nat} (hi : i < cs.length) : Qei cs[i].v := by
 obtain ⟨v, sh, e, hv⟩ := h.2 _ (List.getElem_mem hi)
 rw [e]; exact hv
theorem QjI {α : Type} {k : Nat} {v v' : α} {l : List (Nat × α)} (h : v = v') : lk ((k, v) :: l) k = some v' := by rw [Qs, h]
theorem Qif {us : List UR} {e et : Nat} (h : Z9 us) : Box.scrub (500001 + us.length) ⟨us.map dUR, e, et, false⟩ = ⟨us.map dUR, e, et, false⟩ := Qie fun hk => by
 obtain ⟨u, hu, e⟩ := Qbp hk
 have := Qbf h hu
 omega
theorem Qj4 {us : List UR} (h : Z9 us) {n f : List UInt8} {k m : Nat} (hk : k ≠ 500000) : ∀ r ∈ us.map dUR ++ [[D.str n, D.str f, D.osl k m]], ∀ d ∈ r, 500000 ∉ d.sid := fun r hr d hd => by
 rcases List.mem_append.1 hr with hr | hr
 ·exact Qos h r hr d hd
 ·simp only [List.mem_singleton] at hr; subst hr
  simp only [List.mem_cons, List.not_mem_nil, or_false] at hd
  rcases hd with rfl | rfl | rfl <;> simp [D.sid]
  exact Ne.symm hk
theorem Qor {us : List UR} {u : UR} : (us ++ [u]).map dUR = us.map dUR ++ [dUR u] := by simp
theorem Qn1 {cs : List CR} {z : CR} : (cs ++ [z]).map dCR = cs.map dCR ++ [dCR z] := by simp
theorem Qa1 {us : List UR} (h : Z9 us) {kg eu ec : Nat} {g1 g2 g3 : Box} (hkg : 1000000 <= kg) (h1 : g1.pr = true) (h2 : g2.pr = true) (hlen : us.length <= 100) :
  (∀ k, 1000000 <= k -> (lk [(kg, g1)] k).isSome = true -> (lk (((500000, (⟨us.map dUR, 3, eu, false⟩ : Box)) :: fbx ec us) ++ [(kg, g2), (kg, g1)]) k).isSome = true) /\
  (∀ k b, lk (((500000, (⟨us.map dUR, 3, eu, false⟩ : Box)) :: fbx ec us) ++ [(kg, g2), (kg, g1)]) k = some b -> 500000 <= k /\ ∀ j ∈ b.ids, (lk (((500000, (⟨us.map dUR, 3, eu, false⟩ : Box)) :: fbx ec us) ++ [(kg, g2), (kg, g1)]) j).isSome = true) /\
  (∀ k b, lk (((500000, (⟨us.map dUR, 3, eu, false⟩ : Box)) :: fbx ec us) ++ [(kg, g2), (kg, g1)]) k = some b -> lk ((kg, g2) :: (500000, ⟨us.map dUR, 3, eu, false⟩) :: (kg, g3) :: fbx ec us) k = some b) := by
 have cs : ∀ k b, lk (((500000, (⟨us.map dUR, 3, eu, false⟩ : Box)) :: fbx ec us) ++ [(kg, g2), (kg, g1)]) k = some b -> (k = 500000 /\ b = ⟨us.map dUR, 3, eu, false⟩) \/ (∃ u ∈ us, k = u.k /\ b = ⟨u.cs.map dCR, 8, ec, true⟩) \/ (k = kg /\ b = g2) := fun k b hk => by
  rw [List.cons_append, Qn] at hk
  split at hk
  ·rename_i e; cases hk; exact .inl ⟨e.symm, rfl⟩
  ·rw [ZQ] at hk
   cases hh : lk (fbx ec us) k with
   | some v =>
    rw [hh] at hk; cases hk
    exact .inr (.inl (Qf9 hh))
   | none =>
    rw [hh] at hk
    simp only at hk
    rw [Qn] at hk
    split at hk
    ·rename_i e; cases hk; exact .inr (.inr ⟨e.symm, rfl⟩)
    ·rename_i e
     rw [Qn, if_neg e] at hk; cases hk
 refine ⟨fun k _ hk => ?_, fun k b hk => ?_, fun k b hk => ?_⟩
 ·obtain ⟨b, hb⟩ := Option.isSome_iff_exists.1 hk
  obtain ⟨rfl, _⟩ := Xx hb
  exact Qgr QQ
 ·rcases cs k b hk with ⟨rfl, rfl⟩ | ⟨u, hu, rfl, rfl⟩ | ⟨rfl, rfl⟩
  ·refine ⟨Nat.le_refl _, fun j hj => ?_⟩
   obtain ⟨u, hu, rfl⟩ := Qbp hj
   rw [List.cons_append]
   refine QO ?_
   obtain ⟨b, hb⟩ := Option.isSome_iff_exists.1 (Qdk (ec := ec) h hu)
   rw [Yr hb]; rfl
  ·have := Qbf h hu
   exact ⟨by omega, fun j hj => by simp [Box.ids] at hj⟩
  ·exact ⟨by omega, fun j hj => by rw [X4 h2] at hj; cases hj⟩
 ·rcases cs k b hk with ⟨rfl, rfl⟩ | ⟨u, hu, rfl, rfl⟩ | ⟨rfl, rfl⟩
  ·exact Qj (by omega) Qs
  ·have hm := Qbf h hu
   obtain ⟨j, hj, rfl⟩ := List.getElem_of_mem hu
   refine Qj (by omega) (Qj (by omega) (Qj (by omega) ?_))
   rw [h j hj]; exact Qk2 h hj
  ·exact Qs
end M25
namespace M25
open Go Go.Abs M3
/-! ### A world under way: one candidate after the other is filled -/
def PureC (z : CR) : Prop := z.x.sid = [] /\ z.y.sid = [] /\ z.z.sid = []
theorem PureC.all {z : CR} (h : PureC z) : ∀ d ∈ dCR z, d.sid = [] := fun d hd => by
 simp only [dCR, List.mem_cons, List.not_mem_nil, or_false] at hd
 rcases hd with rfl | rfl | rfl | rfl | rfl | rfl | rfl | rfl
 ·rfl
 ·rfl
 ·rfl
 ·rfl
 ·rfl
 ·exact h.1
 ·exact h.2.1
 ·exact h.2.2
def Qd0 (u : UR) (k : Nat) (z : CR) : UR := { u with cs := u.cs.set k z }
def Qci (us : List UR) (i k : Nat) (z : CR) : List UR := us.modify i fun u => Qd0 u k z
theorem Zr (us : List UR) (i k : Nat) (z : CR) : (Qci us i k z).length = us.length := List.length_modify ..
theorem QjZ (us : List UR) (i k : Nat) (z : CR) : (Qci us i k z).map dUR = us.map dUR := by
 refine List.ext_getElem (by simp [Qci]) fun j h1 h2 => ?_
 simp only [List.getElem_map, Qci, List.getElem_modify]
 split <;> simp [dUR, Qd0]
theorem QaI {us : List UR} {i k : Nat} {z : CR} {j : Nat} (h : j < us.length) : (Qci us i k z)[j]'(by rw [Zr]; exact h) = if i = j then Qd0 us[j] k z else us[j] := by
 simp only [Qci, List.getElem_modify]
theorem QdB {us : List UR} {i k : Nat} {z : CR} (h : Z9 us) : Z9 (Qci us i k z) := fun j hj => by
 rw [Zr] at hj
 rw [QaI hj]
 split
 ·exact h j hj
 ·exact h j hj
def wA (us : List UR) (eu ec eg : Nat) (L : List Int) (J : Int) (b4 : Box) : List (Nat × Box) := [(500000, ⟨us.map dUR, 3, eu, false⟩), (12, gB L J eg), (4, b4)] ++ fbx ec us
theorem Qbq {us : List UR} {eu ec eg : Nat} {L : List Int} {J : Int} {b4 : Box} (h : Z9 us) {k : Nat} {b : Box} (hk : lk (wA us eu ec eg L J b4) k = some b) : (k = 500000 /\ b = ⟨us.map dUR, 3, eu, false⟩) \/ (k = 12 /\ b = gB L J eg) \/ (k = 4 /\ b = b4) \/ ∃ j, ∃ hj : j < us.length, k = 500001 + j /\ b = ⟨us[j].cs.map dCR, 8, ec, true⟩ := by
 unfold wA at hk
 rcases Qfa hk with hk | ⟨_, hk⟩
 ·simp only [List.mem_cons, List.not_mem_nil, or_false, Prod.mk.injEq] at hk
  rcases hk with h | h | h
  ·exact .inl h
  ·exact .inr (.inl h)
  ·exact .inr (.inr (.inl h))
 ·obtain ⟨u, hu, e1, e2⟩ := Qf9 hk
  obtain ⟨j, hj, rfl⟩ := List.getElem_of_mem hu
  exact .inr (.inr (.inr ⟨j, hj, e1.trans (h j hj), e2⟩))
section
variable {us : List UR} {eu ec eg : Nat} {L : List Int} {J : Int} {b4 : Box}
theorem QeB : lk (wA us eu ec eg L J b4) 500000 = some ⟨us.map dUR, 3, eu, false⟩ := rfl
theorem Qeb : lk (wA us eu ec eg L J b4) 12 = some (gB L J eg) := rfl
theorem QfA : lk (wA us eu ec eg L J b4) 4 = some b4 := rfl
theorem QcX (h : Z9 us) {j : Nat} (hj : j < us.length) : lk (wA us eu ec eg L J b4) (500001 + j) = some ⟨us[j].cs.map dCR, 8, ec, true⟩ := by
 show lk ((500000, _) :: (12, _) :: (4, _) :: fbx ec us) _ = _
 rw [Qn, if_neg (by omega), Qn, if_neg (by omega), Qn, if_neg (by omega)]
 exact Qk2 h hj
theorem ZY (h : Z9 us) {k : Nat} (h1 : k ≠ 500000) (h2 : k ≠ 12) (h3 : k ≠ 4) (h4 : k < 500001 \/ 500001 + us.length <= k) : lk (wA us eu ec eg L J b4) k = none := by
 show lk ((500000, _) :: (12, _) :: (4, _) :: fbx ec us) _ = _
 rw [Qn, if_neg (Ne.symm h1), Qn, if_neg (Ne.symm h2), Qn, if_neg (Ne.symm h3)]
 exact YQ h h4
theorem Qi8 (h : Z9 us) {k : Nat} (hk : k = 500000 \/ k = 12 \/ k = 4 \/ ∃ u ∈ us, k = u.k) : (lk (wA us eu ec eg L J b4) k).isSome = true := by
 rcases hk with rfl | rfl | rfl | ⟨u, hu, rfl⟩
 ·rfl
 ·rfl
 ·rfl
 ·obtain ⟨j, hj, rfl⟩ := List.getElem_of_mem hu
  rw [h j hj, QcX h hj]; rfl
theorem Qah (h : Z9 us) (h4 : b4.pr = true) : Closed (wA us eu ec eg L J b4) := fun k b hk j hj => by
 rcases Qbq h hk with ⟨rfl, rfl⟩ | ⟨rfl, rfl⟩ | ⟨rfl, rfl⟩ | ⟨i, hi, rfl, rfl⟩
 ·exact Qi8 h (.inr (.inr (.inr (Qbp hj))))
 ·simp [Box.ids, gB] at hj
 ·rw [X4 h4] at hj; cases hj
 ·simp [Box.ids] at hj
theorem QdT {α : Type} : ∀ {l : List α} {k : Nat} {a x : α}, x ∈ l.set k a -> x = a \/ x ∈ l
 | [], k, a, x, h => by simp at h
 | b :: l, 0, a, x, h => by
  simp only [List.set_cons_zero, List.mem_cons] at h ⊢
  rcases h with h | h
  ·exact .inl h
  ·exact .inr (.inr h)
 | b :: l, k + 1, a, x, h => by
  simp only [List.set_cons_succ, List.mem_cons] at h ⊢
  rcases h with h | h
  ·exact .inr (.inl h)
  ·rcases QdT h with h | h
   ·exact .inl h
   ·exact .inr (.inr h)
theorem Qe7 {l : List Nat} {fr fr1 fr' : List (Nat × D)} {H : List (Nat × Box)} {i k : Nat} {row : List D} {p : Bool} (kk : Nat) (z' : CR) (hf : Q7 l fr = fr1) (ef : fr1 = fr') (hK : Z9 us) (hi : i < us.length) (hk : k < us[i].cs.length)
  (hKi : lk H (500001 + i) = some ⟨(us[i].cs.map dCR).set k row, 8, ec, p⟩) (hp : p = true -> row.map (D.fzS H (· == kk)) = row) (hrow : (row.map (D.fzS H (· == kk))).map D.canS = dCR z') (hoth : ∀ z ∈ us[i].cs, PureC z) (hz : PureC z')
  (hF : ∀ j, ∀ hj : j < us.length, j ≠ i -> lk H (500001 + j) = some ⟨us[j].cs.map dCR, 8, ec, true⟩) (hu : lk H 500000 = some ⟨us.map dUR, 3, eu, false⟩) (hg : lk H 12 = some (gB L J eg)) (h4 : lk H 4 = some b4) (hb4 : b4.pr = true) (hkk : kk < 500000 /\ kk ≠ 12 /\ kk ≠ 4) (hsm : ∀ j, 1000000 <= j -> lk H j = none) (hlen : us.length <= 100)
  (hfr : ∀ p ∈ fr', ∀ j ∈ p.2.ids, j = 500000 \/ j = 12 \/ j = 4 \/ ∃ u ∈ us, j = u.k) : St.le ⟨fr, H⟩ ⟨fr', wA (Qci us i k z') eu ec eg L J b4⟩ := by
 subst hf ef
 have nokk : ∀ j, (j = 500000 \/ j = 12 \/ j = 4 \/ ∃ u ∈ us, j = u.k) -> j ≠ kk := fun j hj e => by
  subst e
  rcases hj with rfl | rfl | rfl | ⟨u, hu, rfl⟩
  ·omega
  ·exact hkk.2.1 rfl
  ·exact hkk.2.2 rfl
  ·have := (Qbf hK hu).1; omega
 have eqkk : ∀ j, j ≠ kk -> (j == kk) = false := fun j hj => by simp [hj]
 have some1 : ∀ b j, (j = 500000 \/ j = 12 \/ j = 4 \/ ∃ u ∈ us, j = u.k) -> (lk ((500001 + i, b) :: wA us eu ec eg L J b4) j).isSome = true := fun b j hj => QO (Qi8 hK hj)
 have rowsz : ∀ r ∈ us[i].cs.map dCR, r.map (D.fzS H (· == kk)) = r := fun r hr => by
  obtain ⟨z, hzm, rfl⟩ := List.mem_map.1 hr
  exact Y5 fun d hd => QdO fun j hj => by rw [(hoth z hzm).all d hd] at hj; cases hj
 have mapz : ((us[i].cs.map dCR).set k row).map (fun r => r.map (D.fzS H (· == kk))) = (us[i].cs.map dCR).set k (row.map (D.fzS H (· == kk))) := by
  refine List.ext_getElem (by simp) fun j h1 h2 => ?_
  simp only [List.getElem_map, List.getElem_set]
  split
  ·rfl
  ·exact rowsz _ (List.mem_map_of_mem (List.getElem_mem _))
 refine le_trans (QbQ l fr H) (le_trans (Qlo kk (H' := (500001 + i, ⟨(us[i].cs.map dCR).set k (row.map (D.fzS H (· == kk))), 8, ec, p⟩) :: wA us eu ec eg L J b4) (by omega) (fr' := Q7 l fr) (fun t d h => ⟨d, h, QhK fun j hj => eqkk j (nokk j (hfr (t, d) (Z4 h) j hj))⟩) (fun j b h => ?_) (fun t d h j hj => some1 _ j (hfr (t, d) (Z4 h) j hj)) (fun j b h j2 hj2 => ?_) fun j hj hs => ?_) ?_)
 ·rw [Qn] at h
  split at h
  ·rename_i e; cases h; subst e
   refine ⟨by omega, _, hKi, ?_⟩
   cases p with
   | true => rw [hp rfl]; rfl
   | false => show Box.mk _ _ _ _ = _; rw [mapz]
  ·rename_i e
   rcases Qbq hK h with ⟨rfl, rfl⟩ | ⟨rfl, rfl⟩ | ⟨rfl, rfl⟩ | ⟨i2, hi2, rfl, rfl⟩
   ·refine ⟨by omega, _, hu, XL (.inr fun j hj => eqkk j (nokk j (.inr (.inr (.inr (Qbp hj))))))⟩
   ·exact ⟨Ne.symm hkk.2.1, _, hg, rfl⟩
   ·exact ⟨Ne.symm hkk.2.2, _, h4, XL (.inl hb4)⟩
   ·exact ⟨by omega, _, hF i2 hi2 (fun e2 => e (by omega)), rfl⟩
 ·rw [Qn] at h
  split at h
  ·cases h
   cases hpp : p with
   | true => rw [X4 hpp] at hj2; cases hj2
   | false =>
   simp only [Box.ids, hpp, Bool.false_eq_true, if_false, List.mem_flatMap] at hj2
   obtain ⟨r, hr, d, hd, hj3⟩ := hj2
   rcases QdT hr with rfl | hr
   ·have : (d.canS).sid = [] := hz.all _ (by rw [<- hrow]; exact List.mem_map_of_mem hd)
    rw [Qb6] at this
    rw [this] at hj3; cases hj3
   ·obtain ⟨z, hzm, rfl⟩ := List.mem_map.1 hr
    rw [(hoth z hzm).all d hd] at hj3; cases hj3
  ·exact QO (Qah hK hb4 j b h j2 hj2)
 ·rw [hsm j hj] at hs; cases hs
 ·refine le_trans (Qen k Qs) (le_trans (QgO Qs (fun e => ?_) (fun r hr d hd => ?_)) (Qbg rfl fun j => ?_))
  ·have := congrArg List.length e
   simp only [List.length_modify, List.length_set, List.length_map, List.length_nil] at this
   omega
  ·rcases QaW hr with h | ⟨y, hy, rfl⟩
   ·rcases QdT h with rfl | h
    ·have : (d.canS).sid = [] := hz.all _ (by rw [<- hrow]; exact List.mem_map_of_mem hd)
     rwa [Qb6] at this
    ·obtain ⟨z, hzm, rfl⟩ := List.mem_map.1 h
     exact (hoth z hzm).all d hd
   ·obtain ⟨d0, hd0, rfl⟩ := List.mem_map.1 hd
    rw [Qb6]
    rcases QdT hy with rfl | h
    ·have : (d0.canS).sid = [] := hz.all _ (by rw [<- hrow]; exact List.mem_map_of_mem hd0)
     rwa [Qb6] at this
    ·obtain ⟨z, hzm, rfl⟩ := List.mem_map.1 h
     exact (hoth z hzm).all d0 hd0
  ·have erows : ((us[i].cs.map dCR).set k (row.map (D.fzS H (· == kk)))).modify k (fun r => r.map D.canS) = ((us[i].cs.set k z').map dCR) := by
    refine List.ext_getElem (by simp) fun m h1 h2 => ?_
    simp only [List.getElem_modify, List.getElem_set, List.getElem_map]
    by_cases e : k = m
    ·subst e
     simp only [if_true]
     exact hrow
    ·simp only [if_neg e]
   have hK' := QdB (i := i) (k := k) (z := z') hK
   by_cases e : 500001 + i = j
   ·subst e
    rw [Qs, QcX hK' (by rw [Zr]; exact hi)]
    simp only [QaI hi, if_true, erows]; rfl
   ·rw [Qn, if_neg e, Qn, if_neg e, Qn, if_neg e]
    cases h : lk (wA us eu ec eg L J b4) j with
    | none =>
     cases h' : lk (wA (Qci us i k z') eu ec eg L J b4) j with
     | none => rfl
     | some b =>
      have : (lk (wA us eu ec eg L J b4) j).isSome = true := by
       rcases Qbq hK' h' with ⟨rfl, _⟩ | ⟨rfl, _⟩ | ⟨rfl, _⟩ | ⟨m, hm, rfl, _⟩
       ·rfl
       ·rfl
       ·rfl
       ·rw [Zr] at hm; rw [QcX hK hm]; rfl
      rw [h] at this; cases this
    | some b =>
     rcases Qbq hK h with ⟨rfl, rfl⟩ | ⟨rfl, rfl⟩ | ⟨rfl, rfl⟩ | ⟨m, hm, rfl, rfl⟩
     ·rw [QeB, QjZ]
     ·rfl
     ·rfl
     ·rw [QcX hK' (by rw [Zr]; exact hm)]
      simp only [QaI hm, if_neg (show ¬ i = m by omega)]
end
theorem Qdq : ∀ {H : List (Nat × Box)} {j : Nat}, j ∈ H.map Prod.fst -> (lk H j).isSome = true
 | [], _, h => by cases h
 | (k, b) :: H, j, h => by
  by_cases e : k = j
  ·subst e; exact QQ
  ·refine QO (Qdq ?_)
   simp only [List.map_cons, List.mem_cons] at h
   exact h.resolve_left (Ne.symm e)
theorem Qm5 {us : List UR} (h : Z9 us) {i : Nat} (hi : i < us.length) : (us.map dUR)[((i : Nat) : Int).toNat]? = some [.str us[i].n, .str us[i].f, .osl (500001 + i) us[i].cs.length] := by
 rw [Int.toNat_natCast, List.getElem?_map, List.getElem?_eq_getElem hi, Option.map_some, dUR, h i hi]
theorem Qp0 {cs : List CR} {k : Nat} (hk : k < cs.length) : (cs.map dCR)[((k : Nat) : Int).toNat]? = some (dCR cs[k]) := by
 rw [Int.toNat_natCast, List.getElem?_map, List.getElem?_eq_getElem hk]; rfl
theorem Qi4 {us : List UR} {eu ec eg : Nat} {L : List Int} {J : Int} {b4 g1 : Box} (h : Z9 us) (k : Nat) : lk (((500000, (⟨us.map dUR, 3, eu, false⟩ : Box)) :: fbx ec us) ++ ([(12, gB L J eg)] ++ [(12, g1), (4, b4)])) k = lk (wA us eu ec eg L J b4) k := by
 show lk ((500000, _) :: (fbx ec us ++ [(12, gB L J eg), (12, g1), (4, b4)])) k = lk ((500000, _) :: (12, _) :: (4, _) :: fbx ec us) k
 rw [Qn, Qn]
 split
 ·rfl
 ·rw [ZQ]
  cases hh : lk (fbx ec us) k with
  | some v =>
   have := QgB h k v hh
   simp only
   rw [Qn, if_neg (by omega), Qn, if_neg (by omega), hh]
  | none =>
   simp only [Qn, hh]
   by_cases e : 12 = k
   ·rw [if_pos e, if_pos e]
   ·rw [if_neg e, if_neg e, if_neg e]; rfl
theorem Qj5 {us : List UR} {eu ec eg : Nat} {L : List Int} {J : Int} {b4 : Box} (h : Z9 us) (hv : ∀ y ∈ us, y.cs.length <= 16 /\ ∀ z ∈ y.cs, Qei z.v) : Fam (wA us eu ec eg L J b4) 12 500000 eu ec us := by
 refine ⟨by decide, ⟨false, rfl⟩, fun y hy => ?_, hv⟩
 obtain ⟨j, hj, rfl⟩ := List.getElem_of_mem hy
 refine ⟨by rw [h j hj]; omega, true, by rw [h j hj]; exact QcX h hj⟩
/-! ### Filled candidates -/
def QnM (n : Nat) (x : WantT) : Prop := 0 <= x.u /\ x.u < n /\ SetOk x.s
theorem WantIn.w {n : Nat} {x : WantT} (h : WantIn n x) : QnM n x := ⟨by have := h.1; omega, h.2.1, h.2.2⟩
structure Qak (n : Nat) (c : CandT) : Prop where
 v : Qei c.v
 nl : c.ns.length <= 10
 nr : ∀ r ∈ c.ns, r.length <= 2 /\ ∀ x ∈ r, QnM n x
 bl : c.bs.length <= 1
 bw : ∀ x ∈ c.bs, QnM n x
def Qhg (c : CandT) : CR := ⟨c.v, .int .i64 c.sh, QS c.ns, Q1 c.bs⟩
def DoneC (n : Nat) (z : CR) : Prop := ∃ c, z = Qhg c /\ Qak n c
def FreshC (z : CR) : Prop := ∃ v sh, z = zr v sh /\ Qei v
theorem DoneC.pure {n : Nat} {z : CR} (h : DoneC n z) : PureC z := by obtain ⟨c, rfl, _⟩ := h; exact ⟨rfl, rfl, rfl⟩
theorem FreshC.pure {z : CR} (h : FreshC z) : PureC z := by obtain ⟨v, sh, rfl, _⟩ := h; exact ⟨rfl, rfl, rfl⟩
theorem DoneC.vr {n : Nat} {z : CR} (h : DoneC n z) : Qei z.v := by obtain ⟨c, rfl, q⟩ := h; exact q.v
theorem FreshC.vr {z : CR} (h : FreshC z) : Qei z.v := by obtain ⟨v, sh, rfl, q⟩ := h; exact q
structure Prog (n : Nat) (us : List UR) (i k : Nat) : Prop where
 keys : Z9 us
 len : us.length = n /\ 2 <= n /\ n <= 11
 cl : ∀ u ∈ us, u.cs.length <= 4
 done : ∀ j, ∀ hj : j < us.length, ∀ m, ∀ hm : m < us[j].cs.length, (j < i \/ (j = i /\ m < k)) -> DoneC n us[j].cs[m]
 fresh : ∀ j, ∀ hj : j < us.length, ∀ m, ∀ hm : m < us[j].cs.length, ¬ (j < i \/ (j = i /\ m < k)) -> FreshC us[j].cs[m]
theorem Prog.pure {n : Nat} {us : List UR} {i k : Nat} (h : Prog n us i k) {j : Nat} (hj : j < us.length) : ∀ z ∈ us[j].cs, PureC z /\ Qei z.v := fun z hz => by
 obtain ⟨m, hm, rfl⟩ := List.getElem_of_mem hz
 by_cases hd : j < i \/ (j = i /\ m < k)
 ·exact ⟨(h.done j hj m hm hd).pure, (h.done j hj m hm hd).vr⟩
 ·exact ⟨(h.fresh j hj m hm hd).pure, (h.fresh j hj m hm hd).vr⟩
theorem Prog.fam {n : Nat} {us : List UR} {i k : Nat} (h : Prog n us i k) : ∀ y ∈ us, y.cs.length <= 16 /\ ∀ z ∈ y.cs, Qei z.v := fun y hy => by
 obtain ⟨j, hj, rfl⟩ := List.getElem_of_mem hy
 exact ⟨Nat.le_trans (h.cl _ hy) (by omega), fun z hz => (h.pure hj z hz).2⟩
theorem Prog.put {n : Nat} {us : List UR} {i k : Nat} (h : Prog n us i k) (hi : i < us.length) (hk : k < us[i].cs.length) {z : CR} (hz : DoneC n z) : Prog n (Qci us i k z) i (k + 1) := by
 have at' := fun (j : Nat) (hj : j < us.length) => QaI (i := i) (k := k) (z := z) hj
 refine ⟨QdB h.keys, by rw [Zr]; exact h.len, fun u hu => ?_, fun j hj m hm hd => ?_, fun j hj m hm hd => ?_⟩
 ·obtain ⟨j, hj, rfl⟩ := List.getElem_of_mem hu
  rw [Zr] at hj
  rw [at' j hj]
  split
  ·simp only [Qd0, List.length_set]; exact h.cl _ (List.getElem_mem _)
  ·exact h.cl _ (List.getElem_mem _)
 ·rw [Zr] at hj
  have e := at' j hj
  by_cases hij : i = j
  ·subst hij
   rw [if_pos rfl] at e
   have hm' : m < (Qd0 us[i] k z).cs.length := by rw [<- e]; exact hm
   have e2 : (Qci us i k z)[i].cs[m] = (Qd0 us[i] k z).cs[m]'hm' := by congr 1; rw [e]
   rw [e2]
   simp only [Qd0, List.getElem_set]
   split
   ·exact hz
   ·simp only [Qd0, List.length_set] at hm'
    exact h.done i hi m hm' (by omega)
  ·rw [if_neg hij] at e
   have hm' : m < us[j].cs.length := by rw [<- e]; exact hm
   have e2 : (Qci us i k z)[j].cs[m] = us[j].cs[m]'hm' := by congr 1; rw [e]
   rw [e2]; exact h.done j hj m hm' (by omega)
 ·rw [Zr] at hj
  have e := at' j hj
  by_cases hij : i = j
  ·subst hij
   rw [if_pos rfl] at e
   have hm' : m < (Qd0 us[i] k z).cs.length := by rw [<- e]; exact hm
   have e2 : (Qci us i k z)[i].cs[m] = (Qd0 us[i] k z).cs[m]'hm' := by congr 1; rw [e]
   rw [e2]
   simp only [Qd0, List.length_set] at hm'
   simp only [Qd0, List.getElem_set]
   rw [if_neg (by omega)]
   exact h.fresh i hi m hm' (by omega)
  ·rw [if_neg hij] at e
   have hm' : m < us[j].cs.length := by rw [<- e]; exact hm
   have e2 : (Qci us i k z)[j].cs[m] = us[j].cs[m]'hm' := by congr 1; rw [e]
   rw [e2]; exact h.fresh j hj m hm' (by omega)
theorem Prog.next {n : Nat} {us : List UR} {i k : Nat} (h : Prog n us i k) (hi : i < us.length) (hk : us[i].cs.length <= k) : Prog n us (i + 1) 0 := by
 refine ⟨h.keys, h.len, h.cl, fun j hj m hm hd => h.done j hj m hm ?_, fun j hj m hm hd => h.fresh j hj m hm (by omega)⟩
 by_cases e : j = i
 ·subst e; exact .inr ⟨rfl, by omega⟩
 ·exact .inl (by omega)
theorem Prog.again {n : Nat} {us : List UR} {i k : Nat} (h : Prog n us i (k + 1)) (hi : i < us.length) (hk : k < us[i].cs.length) {z : CR} (hz : DoneC n z) : Prog n (Qci us i k z) i (k + 1) := by
 have at' := fun (j : Nat) (hj : j < us.length) => QaI (i := i) (k := k) (z := z) hj
 refine ⟨QdB h.keys, by rw [Zr]; exact h.len, fun u hu => ?_, fun j hj m hm hd => ?_, fun j hj m hm hd => ?_⟩
 ·obtain ⟨j, hj, rfl⟩ := List.getElem_of_mem hu
  rw [Zr] at hj
  rw [at' j hj]
  split
  ·simp only [Qd0, List.length_set]; exact h.cl _ (List.getElem_mem _)
  ·exact h.cl _ (List.getElem_mem _)
 ·rw [Zr] at hj
  have e := at' j hj
  by_cases hij : i = j
  ·subst hij
   rw [if_pos rfl] at e
   have hm' : m < (Qd0 us[i] k z).cs.length := by rw [<- e]; exact hm
   have e2 : (Qci us i k z)[i].cs[m] = (Qd0 us[i] k z).cs[m]'hm' := by congr 1; rw [e]
   rw [e2]
   simp only [Qd0, List.getElem_set]
   split
   ·exact hz
   ·simp only [Qd0, List.length_set] at hm'
    exact h.done i hi m hm' (by omega)
  ·rw [if_neg hij] at e
   have hm' : m < us[j].cs.length := by rw [<- e]; exact hm
   have e2 : (Qci us i k z)[j].cs[m] = us[j].cs[m]'hm' := by congr 1; rw [e]
   rw [e2]; exact h.done j hj m hm' (by omega)
 ·rw [Zr] at hj
  have e := at' j hj
  by_cases hij : i = j
  ·subst hij
   rw [if_pos rfl] at e
   have hm' : m < (Qd0 us[i] k z).cs.length := by rw [<- e]; exact hm
   have e2 : (Qci us i k z)[i].cs[m] = (Qd0 us[i] k z).cs[m]'hm' := by congr 1; rw [e]
   rw [e2]
   simp only [Qd0, List.length_set] at hm'
   simp only [Qd0, List.getElem_set]
   rw [if_neg (by omega)]
   exact h.fresh i hi m hm' (by omega)
  ·rw [if_neg hij] at e
   have hm' : m < us[j].cs.length := by rw [<- e]; exact hm
   have e2 : (Qci us i k z)[j].cs[m] = us[j].cs[m]'hm' := by congr 1; rw [e]
   rw [e2]; exact h.fresh j hj m hm' (by omega)
theorem Qlm {l : List Nat} {fr fr1 fr' : List (Nat × D)} {us : List UR} {eu ec eg e1 e3 : Nat} {L : List Int} {J : Int} {b4 bK : Box} {i : Nat} {x : WantT} (hf : Q7 l fr = fr1) (ef : fr1 = fr') (hK : Z9 us) (hi : i < us.length) (hb4 : b4.pr = true) (hbK : ∀ j ∈ bK.ids, j = 64)
  (hfr : ∀ p ∈ fr', ∀ j ∈ p.2.ids, j = 500000 \/ j = 12 \/ j = 4 \/ ∃ u ∈ us, j = u.k) :
  St.le ⟨fr, (500001 + i, bK) :: (64, ⟨[[.osl 63 1]], 1, e1, false⟩) :: (63, ⟨[QaQ x], 3, e3, true⟩) :: wA us eu ec eg L J b4⟩ ⟨fr', (500001 + i, bK) :: (64, ⟨[[Q1 [x]]], 1, e1, true⟩) :: wA us eu ec eg L J b4⟩ := by
 subst hf ef
 have no63 : ∀ j, (j = 500000 \/ j = 12 \/ j = 4 \/ ∃ u ∈ us, j = u.k) -> j ≠ 63 := fun j hj e => by
  subst e
  rcases hj with h | h | h | ⟨u, hu, h⟩
  ·cases h
  ·cases h
  ·cases h
  ·have := (Qbf hK hu).1; omega
 have eq63 : ∀ j, j ≠ 63 -> (j == 63) = false := fun j hj => by simp [hj]
 have up : ∀ b b' j, (lk (wA us eu ec eg L J b4) j).isSome = true -> (lk ((500001 + i, b) :: (64, b') :: wA us eu ec eg L J b4) j).isSome = true := fun b b' j hj => QO (QO hj)
 refine le_trans (QbQ l fr _) (le_trans (Qlo 63 (H' := (500001 + i, bK) :: (64, ⟨[[Q1 [x]]], 1, e1, false⟩) :: wA us eu ec eg L J b4) (by decide) (fr' := Q7 l fr) (fun t d h => ⟨d, h, QhK fun j hj => eq63 j (no63 j (hfr (t, d) (Z4 h) j hj))⟩) (fun j b h => ?_) (fun t d h j hj => up _ _ j (Qi8 hK (hfr (t, d) (Z4 h) j hj))) (fun j b h j2 hj2 => ?_) fun j hj hs => ?_) ?_)
 ·rw [Qn] at h
  split at h
  ·rename_i e; cases h; subst e
   refine ⟨by omega, _, Qs, XL (.inr fun j hj => ?_)⟩
   rw [hbK j hj]; rfl
  ·rename_i e
   rw [Qn] at h
   split at h
   ·rename_i e2; cases h; subst e2
    refine ⟨by decide, _, Qj e Qs, ?_⟩
    have h63 : lk ((500001 + i, bK) :: (64, (⟨[[.osl 63 1]], 1, e1, false⟩ : Box)) :: (63, ⟨[QaQ x], 3, e3, true⟩) :: wA us eu ec eg L J b4) 63 = some ⟨[QaQ x], 3, e3, true⟩ := Qj (by omega) (Qj (by decide) Qs)
    simp only [Box.fz, Bool.false_eq_true, if_false, List.map_cons, List.map_nil, D.fzS, beq_self_eq_true, if_true, h63, List.length_singleton, and_self, Q1]
   ·rename_i e2
    have h2 : lk ((500001 + i, bK) :: (64, (⟨[[.osl 63 1]], 1, e1, false⟩ : Box)) :: (63, ⟨[QaQ x], 3, e3, true⟩) :: wA us eu ec eg L J b4) j = some b := by
     have hj : j ≠ 63 := by
      rcases Qbq hK h with ⟨rfl, _⟩ | ⟨rfl, _⟩ | ⟨rfl, _⟩ | ⟨m, _, rfl, _⟩ <;> omega
     exact Qj e (Qj e2 (Qj (Ne.symm hj) h))
    rcases Qbq hK h with ⟨rfl, rfl⟩ | ⟨rfl, rfl⟩ | ⟨rfl, rfl⟩ | ⟨m, hm, rfl, rfl⟩
    ·exact ⟨by decide, _, h2, XL (.inr fun j hj => eq63 j (no63 j (.inr (.inr (.inr (Qbp hj))))))⟩
    ·exact ⟨by decide, _, h2, rfl⟩
    ·exact ⟨by decide, _, h2, XL (.inl hb4)⟩
    ·exact ⟨by omega, _, h2, rfl⟩
 ·rw [Qn] at h
  split at h
  ·cases h
   rw [hbK j2 hj2]; exact QO QQ
  ·rw [Qn] at h
   split at h
   ·cases h; simp [Box.ids, D.sid, Q1] at hj2
   ·exact up _ _ j2 (Qah hK hb4 j b h j2 hj2)
 ·by_cases e : 500001 + i = j
  ·subst e; exact QQ
  ·rw [Qn, if_neg e, Qn, if_neg (by omega), Qn, if_neg (by omega)] at hs
   exact up _ _ j hs
 ·have h64 : lk ((500001 + i, bK) :: (64, (⟨[[Q1 [x]]], 1, e1, false⟩ : Box)) :: wA us eu ec eg L J b4) 64 = some ⟨[[Q1 [x]]], 1, e1, false⟩ := Qj (by omega) Qs
  refine le_trans (QgO h64 (by simp) (by intro r hr d hd; simp only [List.mem_singleton] at hr; subst hr; simp only [List.mem_singleton] at hd; subst hd; rfl)) (Qbg rfl fun j => ?_)
  by_cases e : 64 = j
  ·subst e; rw [Qs, Qn, if_neg (by omega), Qs]
  ·by_cases eK : 500001 + i = j
   ·subst eK; rw [Qn, if_neg e, Qs, Qs]
   ·rw [Qn, if_neg e, Qn, if_neg eK, Qn, if_neg e, Qn, if_neg eK, Qn, if_neg e]
theorem QkT {n : Nat} : ∀ {cs : List CR}, (∀ z ∈ cs, DoneC n z) -> ∃ l : List CandT, cs = l.map Qhg /\ ∀ c ∈ l, Qak n c
 | [], _ => ⟨[], rfl, by simp⟩
 | z :: cs, h => by
  obtain ⟨l, h1, h2⟩ := QkT (cs := cs) fun y hy => h y (by simp [hy])
  obtain ⟨c, rfl, hc⟩ := h z (by simp)
  exact ⟨c :: l, by rw [h1]; rfl, fun y hy => by
   rcases List.mem_cons.1 hy with rfl | hy
   ·exact hc
   ·exact h2 y hy⟩
def QoY (n : Nat) (u : UR) (x : Qiu) : Prop := x.n = u.n /\ x.f = u.f /\ u.cs = x.cs.map Qhg /\ ∀ c ∈ x.cs, Qak n c
theorem QkU {n : Nat} : ∀ {us : List UR}, (∀ u ∈ us, ∀ z ∈ u.cs, DoneC n z) -> ∃ w : Q0, w.length = us.length /\ ∀ j, ∀ h : j < us.length, ∀ h' : j < w.length, QoY n us[j] w[j]
 | [], _ => ⟨[], rfl, fun j h => by simp at h⟩
 | u :: us, h => by
  obtain ⟨w, h1, h2⟩ := QkU (us := us) fun y hy => h y (by simp [hy])
  obtain ⟨l, q1, q2⟩ := QkT (h u (by simp))
  refine ⟨⟨u.n, u.f, l⟩ :: w, by simp [h1], fun j hj hj' => ?_⟩
  cases j with
  | zero => exact ⟨rfl, rfl, q1, q2⟩
  | succ j => simp only [List.getElem_cons_succ]; exact h2 j (by simpa using hj) (by simpa using hj')
structure Qmf (w : Q0) : Prop where
 sm : WSm w
 len : 2 <= w.length /\ w.length <= 11
 cs : ∀ u ∈ w, u.cs.length <= 4
 cand : ∀ u ∈ w, ∀ c ∈ u.cs, Qak w.length c
theorem Qob {w : Q0} (h2 : 2 <= w.length) (h11 : w.length <= 11) (hc : ∀ u ∈ w, u.cs.length <= 4) (hd : ∀ u ∈ w, ∀ c ∈ u.cs, Qak w.length c) : Qmf w := by
 refine ⟨⟨by omega, fun u hu => Nat.le_trans (hc u hu) (by omega), fun u hu c hcm => (hd u hu c hcm).v, fun u hu c hcm => ⟨Nat.le_trans (hd u hu c hcm).nl (by omega), Nat.le_trans (hd u hu c hcm).bl (by omega)⟩, fun u hu c hcm r hr => Nat.le_trans ((hd u hu c hcm).nr r hr).1 (by omega), fun u hu c hcm r hr x hx => (((hd u hu c hcm).nr r hr).2 x hx).2.2.sm, fun u hu c hcm x hx => ((hd u hu c hcm).bw x hx).2.2.sm⟩, ⟨h2, h11⟩, hc, hd⟩
theorem QmG {n : Nat} {us : List UR} {eu ec eg : Nat} {L : List Int} {J : Int} {b4 : Box} {k : Nat} (h : Prog n us us.length k) (hb4 : b4.pr = true) :
  ∃ w : Q0, w.length = us.length /\ Qmf w /\ ∀ {l : List Nat} {fr fr1 fr' : List (Nat × D)}, Q7 l fr = fr1 -> fr1 = fr' -> (∀ p ∈ fr', ∀ j ∈ p.2.ids, j = 500000 \/ j = 4) -> St.le ⟨fr, wA us eu ec eg L J b4⟩ ⟨fr', [(500000, ⟨w.map Qbu, 3, eu, true⟩), (4, b4)]⟩ := by
 obtain ⟨w, hw1, hw2⟩ := QkU (n := n) (us := us) fun u hu z hz => by
  obtain ⟨j, hj, rfl⟩ := List.getElem_of_mem hu
  obtain ⟨m, hm, rfl⟩ := List.getElem_of_mem hz
  exact h.done j hj m hm (.inl hj)
 have hcs : ∀ u ∈ w, u.cs.length <= 4 /\ ∀ c ∈ u.cs, Qak n c := fun u hu => by
  obtain ⟨j, hj, rfl⟩ := List.getElem_of_mem hu
  obtain ⟨_, _, q3, q4⟩ := hw2 j (by omega) hj
  have := h.cl us[j] (List.getElem_mem _)
  rw [q3, List.length_map] at this
  exact ⟨this, q4⟩
 have hlen := h.len
 refine ⟨w, hw1, Qob (by omega) (by omega) (fun u hu => (hcs u hu).1) (fun u hu c hc => by have := (hcs u hu).2 c hc; rwa [show w.length = n by omega]), ?_⟩
 intro l fr fr1 fr' hf ef hfr
 subst hf ef
 have hK := h.keys
 let S : Nat -> Bool := fun k => decide (500001 <= k) && decide (k < 1000000)
 have hS1 : ∀ k, k < 500001 -> S k = false := fun k hk => by
  show (decide (500001 <= k) && decide (k < 1000000)) = false
  rw [decide_eq_false (by omega)]; rfl
 have hS2 : ∀ k, 500001 <= k -> k < 1000000 -> S k = true := fun k h1 h2 => by
  show (decide (500001 <= k) && decide (k < 1000000)) = true
  rw [decide_eq_true h1, decide_eq_true h2]; rfl
 have hrow : ∀ j, ∀ h1 : j < us.length, ∀ h2 : j < w.length, (dUR us[j]).map (D.fzS (wA us eu ec eg L J b4) S) = Qbu w[j] := fun j h1 h2 => by
  obtain ⟨q1, q2, q3, q4⟩ := hw2 j h1 h2
  have hk := hK j h1
  have hc := QcX (eu := eu) (ec := ec) (eg := eg) (L := L) (J := J) (b4 := b4) hK h1
  generalize us[j] = u at q1 q2 q3 hk hc
  generalize w[j] = x at q1 q2 q3 q4
  obtain ⟨un, uf, uk, ucs⟩ := u
  simp only at q1 q2 q3 hk hc
  subst hk q3
  simp only [dUR, Qbu, List.map_cons, List.map_nil, D.fzS]
  rw [hS2 _ (by omega) (by omega), hc]
  simp only [if_true, true_and, List.length_map, q1, q2, Qav, List.map_map]
  rfl
 have hrows : (us.map dUR).map (fun r => r.map (D.fzS (wA us eu ec eg L J b4) S)) = w.map Qbu := by
  refine List.ext_getElem (by simp [hw1]) fun j h1 h2 => ?_
  simp only [List.getElem_map]
  exact hrow j (by simpa using h1) (by simpa using h2)
 refine le_trans (QbQ l fr _) (le_trans (Qn9 S (fun k hk => by
  simp only [S, Bool.and_eq_true, decide_eq_true_eq] at hk; exact hk.2) (fr' := Q7 l fr) (H' := [(500000, ⟨w.map Qbu, 3, eu, false⟩), (4, b4)]) (fun t d hd => ⟨d, hd, QhK fun j hj => ?_⟩) (fun j b hj => ?_) (fun t d hd j hj => ?_) (fun j b hb i hi => ?_) fun j hj hs => ?_) (le_trans (QgO (k := 500000) (b := ⟨w.map Qbu, 3, eu, false⟩) rfl (fun e => ?_) (fun r hr d hd => ?_)) (Qbg rfl fun j => ?_)))
 ·rcases hfr (t, d) (Z4 hd) j hj with rfl | rfl
  ·exact hS1 _ (by decide)
  ·exact hS1 _ (by decide)
 ·rw [Qn] at hj
  split at hj
  ·rename_i e; cases hj; subst e
   refine ⟨hS1 _ (by decide), _, QeB, ?_⟩
   simp only [Box.fz, Bool.false_eq_true, if_false, hrows]
  ·rw [Qn] at hj
   split at hj
   ·rename_i e; cases hj; subst e
    exact ⟨hS1 _ (by decide), _, QfA, XL (.inl hb4)⟩
   ·cases hj
 ·rcases hfr (t, d) (Z4 hd) j hj with rfl | rfl
  ·rfl
  ·rfl
 ·rw [Qn] at hb
  split at hb
  ·cases hb
   simp only [Box.ids, Bool.false_eq_true, if_false, List.mem_flatMap, List.mem_map] at hi
   obtain ⟨r, ⟨u, _, rfl⟩, d, hd, hi⟩ := hi
   simp only [Qbu, List.mem_cons, List.not_mem_nil, or_false] at hd
   rcases hd with rfl | rfl | rfl <;> simp [D.sid, Qav] at hi
  ·rw [Qn] at hb
   split at hb
   ·cases hb; rw [X4 hb4] at hi; cases hi
   ·cases hb
 ·obtain ⟨b, hb⟩ := Option.isSome_iff_exists.1 hs
  rcases Qbq hK hb with ⟨rfl, _⟩ | ⟨rfl, _⟩ | ⟨rfl, _⟩ | ⟨m, hm, rfl, _⟩ <;> omega
 ·have := congrArg List.length e
  simp only [List.length_map, List.length_nil] at this
  omega
 ·obtain ⟨u, _, rfl⟩ := List.mem_map.1 hr
  simp only [Qbu, List.mem_cons, List.not_mem_nil, or_false] at hd
  rcases hd with rfl | rfl | rfl <;> rfl
 ·by_cases e : 500000 = j
  ·subst e; rfl
  ·rw [Qn, if_neg e, Qn, if_neg e]; rw [Qn (k := 500000), if_neg e]
def QiE (us : List UR) (i : Nat) : Nat := match us[i]? with
 | some u => u.cs.length
 | none => 0
theorem QaF {us : List UR} {i : Nat} (h : i < us.length) : QiE us i = us[i].cs.length := by rw [QiE, List.getElem?_eq_getElem h]
theorem Qau (us : List UR) (i k : Nat) (z : CR) : QiE (Qci us i k z) i = QiE us i := by
 by_cases h : i < us.length
 ·rw [QaF h, QaF (by rw [Zr]; exact h), QaI h, if_pos rfl]
  simp [Qd0]
 ·have e : (Qci us i k z).length = us.length := Zr ..
  rw [QiE, QiE, List.getElem?_eq_none (show us.length <= i by omega), List.getElem?_eq_none (show (Qci us i k z).length <= i by omega)]
theorem Qig {us : List UR} {i k : Nat} {z : CR} (hi : i < us.length) (hk : k < us[i].cs.length) {us2 : List UR} (e : us2 = Qci us i k z) (hi2 : i < us2.length) (hk2 : k < us2[i].cs.length) : us2[i].cs[k] = z := by
 subst e
 have e1 := QaI (i := i) (k := k) (z := z) hi
 rw [if_pos rfl] at e1
 have e2 : (Qci us i k z)[i].cs[k] = (Qd0 us[i] k z).cs[k]'(by simpa [Qd0] using hk) := by congr 1; rw [e1]
 rw [e2]; simp [Qd0]
theorem Qn0 {cs : List CR} {k : Nat} {z : CR} (hk : k < cs.length) (hz : cs[k] = z) : (cs.map dCR)[((k : Nat) : Int).toNat]? = some (dCR z) := by rw [Qp0 hk, hz]
theorem Qnv {cs : List CR} {k : Nat} {row : List D} (hk : k < cs.length) : ((cs.map dCR).set ((k : Nat) : Int).toNat row)[((k : Nat) : Int).toNat]? = some row := by
 rw [Int.toNat_natCast, List.getElem?_set_self (by simpa using hk)]
theorem QhT {K k e t : Nat} {L : List (List D)} {r1 r2 : List D} {p : Bool} {H : List (Nat × Box)} : lk ((K, (⟨(L.set k r1).set k r2, e, t, p⟩ : Box)) :: H) K = some ⟨L.set k r2, e, t, p⟩ := by rw [Qs, List.set_set]
theorem Qem {H : List (Nat × Box)} {kk m e t : Nat} {ys : List (List D)} {v : Vr} {sh : Int} (h : lk H kk = some ⟨ys, e, t, true⟩) (hm : m = ys.length) : ([D.int .i64 v.a, .int .i64 v.b, .int .i64 v.c, .str v.p, .str v.q, .int .i64 sh, .osl kk m, .fsl []].map (D.fzS H (· == kk))).map D.canS = [.int .i64 v.a, .int .i64 v.b, .int .i64 v.c, .str v.p, .str v.q, .int .i64 sh, .sl ys, .sl []] := by
 simp only [List.map_cons, List.map_nil, D.fzS, beq_self_eq_true, if_true, h, hm, and_self, D.canS]
theorem Qk8 {H : List (Nat × Box)} {kk m e t : Nat} {ys : List (List D)} {v : Vr} {sh : Int} {ns : List (List WantT)} (h : lk H kk = some ⟨ys, e, t, true⟩) (hm : m = ys.length) : ([D.int .i64 v.a, .int .i64 v.b, .int .i64 v.c, .str v.p, .str v.q, .int .i64 sh, QS ns, .osl kk m].map (D.fzS H (· == kk))).map D.canS = [.int .i64 v.a, .int .i64 v.b, .int .i64 v.c, .str v.p, .str v.q, .int .i64 sh, QS ns, .sl ys] := by
 simp only [QS, List.map_cons, List.map_nil, D.fzS, beq_self_eq_true, if_true, h, hm, and_self, D.canS]
theorem QpF {us : List UR} {eu ec eg : Nat} {L : List Int} {J J2 : Int} {b4 : Box} (k : Nat) : lk ((12, gB L J2 eg) :: wA us eu ec eg L J b4) k = lk (wA us eu ec eg L J2 b4) k := by
 show lk ((12, _) :: (500000, _) :: (12, _) :: (4, _) :: fbx ec us) k = lk ((500000, _) :: (12, _) :: (4, _) :: fbx ec us) k
 by_cases e : 12 = k
 ·subst e; rfl
 ·rw [Qn, if_neg e, Qn, Qn (k := 500000)]
  split
  ·rfl
  ·rw [Qn, if_neg e, Qn (k := 12), if_neg e]
theorem QiX {cs : List CR} {k e t : Nat} {row : List D} (h : ∀ z ∈ cs, PureC z) (hr : ∀ d ∈ row, ∀ j ∈ d.sid, j = 64) : ∀ j ∈ Box.ids ⟨(cs.map dCR).set k row, e, t, false⟩, j = 64 := fun j hj => by
 simp only [Box.ids, Bool.false_eq_true, if_false, List.mem_flatMap] at hj
 obtain ⟨r, hrm, d, hd, hj⟩ := hj
 rcases QdT hrm with rfl | hrm
 ·exact hr d hd j hj
 ·obtain ⟨z, hz, rfl⟩ := List.mem_map.1 hrm
  rw [(h z hz).all d hd] at hj; cases hj
theorem QqD {us : List UR} {eu ec eg : Nat} {L : List Int} {J : Int} {b4 b64 : Box} {n i k : Nat} (h : Prog n us i k) (hi : i < us.length) (hk : k < us[i].cs.length) {zx : CR} (hv : Qei zx.v) (hrow : zx.x.sid = [] /\ zx.y.sid = [64] /\ zx.z.sid = []) (hb4 : b4.pr = true) (h64 : b64.pr = true) :
  Fam ((500001 + i, ⟨(us[i].cs.map dCR).set k (dCR zx), 8, ec, false⟩) :: (64, b64) :: wA us eu ec eg L J b4) 12 500000 eu ec (Qci us i k zx) /\ Closed ((500001 + i, ⟨(us[i].cs.map dCR).set k (dCR zx), 8, ec, false⟩) :: (64, b64) :: wA us eu ec eg L J b4) := by
 refine ⟨⟨by decide, ⟨false, ?_⟩, fun y hy => ?_, fun y hy => ?_⟩, ?_⟩
 ·rw [Qn, if_neg (by omega), Qn, if_neg (by decide), QeB, QjZ]
 ·obtain ⟨j, hj, rfl⟩ := List.getElem_of_mem hy
  have hK' := QdB (i := i) (k := k) (z := zx) h.keys
  have hj' := hj
  rw [Zr] at hj'
  refine ⟨by rw [hK' j hj]; omega, ?_⟩
  rw [hK' j hj]
  by_cases e : i = j
  ·subst e
   refine ⟨false, ?_⟩
   rw [Qs, QaI hj', if_pos rfl, Qd0, List.map_set]
  ·refine ⟨true, ?_⟩
   rw [Qn, if_neg (by omega), Qn, if_neg (by omega), QcX h.keys hj', QaI hj', if_neg e]
 ·obtain ⟨j, hj, rfl⟩ := List.getElem_of_mem hy
  have hj' := hj
  rw [Zr] at hj'
  rw [QaI hj']
  have hfam := h.fam us[j] (List.getElem_mem _)
  split
  ·refine ⟨by simpa [Qd0] using hfam.1, fun z hz => ?_⟩
   rcases QdT hz with rfl | hz
   ·exact hv
   ·exact hfam.2 z hz
  ·exact hfam
 ·refine ((Qah h.keys hb4).pr h64).cons fun j hj => ?_
  have := QiX (e := 8) (t := ec) (k := k) (row := dCR zx) (fun z hz => (h.pure hi z hz).1) (fun d hd j hj => by
   simp only [dCR, List.mem_cons, List.not_mem_nil, or_false] at hd
   rcases hd with rfl | rfl | rfl | rfl | rfl | rfl | rfl | rfl
   ·cases hj
   ·cases hj
   ·cases hj
   ·cases hj
   ·cases hj
   ·rw [hrow.1] at hj; cases hj
   ·rw [hrow.2.1] at hj; simpa using hj
   ·rw [hrow.2.2] at hj; cases hj) j hj
  subst this; exact QQ
theorem Prog.start {us : List UR} (h : UnitsIn us) (h2 : 2 <= us.length) (h11 : us.length <= 11) : Prog us.length us 0 0 := by
 refine ⟨h.keys, ⟨rfl, h2, h11⟩, fun u hu => (h.fresh u hu).1, fun j hj m hm hd => by omega, fun j hj m hm _ => ?_⟩
 obtain ⟨v, sh, e, hv⟩ := (h.fresh _ (List.getElem_mem hj)).2 _ (List.getElem_mem hm)
 exact ⟨v, sh, e, hv⟩
theorem QdM {n : Nat} {m : Int} {v : Vr} {sh : Int} {ns : List (List WantT)} (hv : Qei v) (h : QeF n m ns) (hm : m <= 3) : Qak n ⟨v, sh, ns, []⟩ :=
 ⟨hv, by show ns.length <= 10; have := h.1; omega, fun r hr => ⟨(h.2 r hr).1, fun x hx => ((h.2 r hr).2 x hx).w⟩, Nat.zero_le _, fun x hx => by cases hx⟩
theorem QhC {n i : Nat} {m : Int} {v : Vr} {sh : Int} {ns : List (List WantT)} (hv : Qei v) (h : QeF n m ns) (hm : m <= 3) (h1 : 1 <= i) (hi : i < n) : Qak n ⟨v, sh, [⟨(i : Int) - 1, YJ v.a v.b v.c v.p v.q⟩] :: ns, []⟩ := by
 refine ⟨hv, by show (_ :: ns).length <= 10; have := h.1; simp only [List.length_cons]; omega, fun r hr => ?_, Nat.zero_le _, fun x hx => by cases hx⟩
 rcases List.mem_cons.1 hr with rfl | hr
 ·refine ⟨by simp, fun x hx => ?_⟩
  simp only [List.mem_singleton] at hx; subst hx
  have := Xn (a := v.a) (b := v.b) (c := v.c) (q := v.q) hv.1
  exact ⟨by show 0 <= (i : Int) - 1; omega, by show (i : Int) - 1 < n; omega, this.1.up (by omega), this.2.up (by omega)⟩
 ·exact ⟨(h.2 r hr).1, fun x hx => ((h.2 r hr).2 x hx).w⟩
theorem QhB {n : Nat} {v : Vr} {sh : Int} {ns : List (List WantT)} (h : Qak n ⟨v, sh, ns, []⟩) {x : WantT} (hx : WantIn n x) : Qak n ⟨v, sh, ns, [x]⟩ := ⟨h.v, h.nl, h.nr, by simp, by intro y hy; simp only [List.mem_singleton] at hy; subst hy; exact hx.w⟩
theorem Qih {us : List UR} {i k : Nat} {z : CR} (hi : i < us.length) (hk : k < us[i].cs.length) {us2 : List UR} (e : Qci us i k z = us2) (hi2 : i < us2.length) : k < us2[i].cs.length := by
 rw [<- QaF hi2, <- e, Qau, QaF hi]; exact hk
theorem Qns {l : List (List WantT)} : ∀ r ∈ l.map (fun r => [Q1 r]), r.length = 1 := fun r hr => by obtain ⟨x, _, rfl⟩ := List.mem_map.1 hr; rfl
end M25
namespace M25
open Go Go.Abs M3
/-! ### Trails that may be -/
end M25
namespace M25
open Go Go.Abs M3
/-! ### What every program says -/
/-! ### A world's facts, and more -/
end M25
namespace M25
open Go Go.Abs M3
/-! ### Powers of two -/
/-! ### Steps that may be: the program's -/
/-! ### Deciding -/
end M25
namespace M25
open Go Go.Abs M3
/-! ### Back, Sure, When -/
/-! ### What valid trails are -/
/-! ### Levels -/
end M25
namespace M25
open Go Go.Abs M3
/-! ### The first row of lefts -/
end M25
namespace M25
open Go Go.Abs M3
/-! ### When, Qhh by Qhh -/
/-! ### The QfN world -/
end M25
namespace M25
open Go Go.Abs M3
/-! ### What a run is: steps, one open after the other -/
inductive Qky (w : Q0) (db : List (List QfB)) : List Qa5 -> List Qa5 -> Prop
 | nil (l : List Qa5) : Qky w db l l
 | cons {l x : List Qa5} (a k : Nat) (ho : QoM w db l a k) (h : Qky w db (l ++ [QqC w l ((db[a]'ho.ha)[k]'ho.hk) a]) x) : Qky w db l x
section
variable {w : Q0} {db : List (List QfB)}
def Below (w : Q0) (b l : List Qa5) : Prop := ∀ u i, tb (QfJ w b u) i = true -> tb (QfJ w l u) i = true
theorem Below.refl (l : List Qa5) : Below w l l := fun _ _ h => h
/-! ### Sound: a choice stays -/
end
end M25
namespace M25
open Go Go.Abs M3
end M25
namespace M25
open Go Go.Abs M3
/-! ### More of runs -/
end M25
namespace M25
open Go Go.Abs M3
/-! ### The facts in another order -/
end M25
namespace M25
open Go Go.Abs M3
/-! ### How long a run is -/
structure Good (w : Q0) (l : List Qa5) : Prop where
 p : QoN w l
 nz : ∀ u, inW w u = true -> QfJ w l u ≠ 0
 le : ∀ u i, tb (QfJ w l u) i = true -> tb (QaS w u) i = true
end M25
namespace M25
open Go Go.Abs M3
/-! ### Masks are of values that there are -/
/-! ### Each Qhh of a run -/
end M25
namespace M25
open Go Go.Abs M3
end M25
namespace M25
open Go Go.Abs M3
/-! ### Derive again -/
/-! ### Sure, and what holds -/
end M25
namespace M25
open Go Go.Abs M3
/-! ### The choice that a trail has decided -/
end M25
namespace Go.Proofs
open Go Go.Abs M3 M25
set_option linter.unusedVariables false
set_option linter.unusedSimpArgs false
end Go.Proofs
namespace Go.Proofs
open Go Go.Abs M3 M25
set_option linter.unusedVariables false
set_option linter.unusedSimpArgs false
theorem Qaz {s : St} {args : List Opd} {kg : Nat} {L : List Int} {I n : Int} {et : Nat} (ha : Zt s args = some [.ref kg 0 0, .int .i64 n]) (hg : lk s.H kg = some (gB L I et)) (hL : ∀ x ∈ L, I64 x) (hn : n <= 9223372036854775807) : QaP Tryd.prog 37 args s [(kg, gB L I et)] [] [(kg, gB L (nxI I) et)] (.int .i64 (nx L I n)) := by
 refine QfS (b' := gB L (nxI I) et) (ds' := [.ref (upN kg) 0 0, .int .i64 n]) ha (fun j x h => ?_) (fun k b hk j hj => ?_) (fun x hx j hj => ?_) ?_ Z Z Z Z ?_
 ·obtain ⟨rfl, rfl⟩ := Xx h; exact hg
 ·obtain ⟨rfl, rfl⟩ := Xx hk; simp [Box.ids, gB] at hj
 ·simp only [List.mem_cons, List.not_mem_nil, or_false] at hx
  rcases hx with rfl | rfl
  ·simp [D.ids, D.sid] at hj; subst hj; rw [Qs]; rfl
  ·simp [D.ids, D.sid] at hj
 ·rw [Qs]; rfl
 ·exact XM (by unfold upN; omega) hL hn et
theorem Qc8 {H : List (Nat × Box)} {kg kc : Nat} {L : List Int} {I : Int} {eg ec : Nat} {pr : Bool} {zs : List CR} (hkg : 1000000 <= kg) (hg : lk H kg = some (gB L I eg)) (hc : lk H kc = some ⟨zs.map dCR, 8, ec, pr⟩) (hne : kg ≠ kc) (hB : Big H) (hC : Closed H) (hL : ∀ x ∈ L, I64 x) (hz : ∀ z ∈ zs, Qei z.v) (hn : zs.length <= 16) : ∃ d H2, (∃ s I2, SetOk s /\ d = Qdh s /\ H2 = (kg, gB L I2 eg) :: H) /\ OkH Tryd.prog 58 [.ref kg 0 0, .osl kc zs.length] H d H2 := by
 have hkc := hB _ _ hc
 refine OkH.ofX (R := fun d H2 => ∃ s I2, SetOk s /\ d = Qdh s /\ H2 = (kg, gB L I2 eg) :: H) Z3 Tryd.func58 Qqz (Nat.le_of_ble_eq_true Z) ?_
 show TX _ _ tf58.body _ _
 refine Q3 fun K hK => ?_
 refine Zy (by repeat (first | exact hB.none (by decide) | refine Zj (by first | decide | omega) ?_)) ?_
 refine hK _ _ (QL (kp3 Z Z Z) ?_)
 refine Q3 fun K hK => Qb Z (Yd (Qaz (I := I) Z (Qj (by omega) hg) hL (by omega)) (Qb Z (hK _ _ (QL (kp4 Z Z Z Z) ?_))))
 refine Q3 fun K hK => Qz (ZT) Z Z (.inl Z) ?_
 refine Zy (by repeat (first | exact hB.none (by decide) | refine Zj (by first | decide | omega) ?_)) ?_
 refine QW Z Z Z Z Z Z Z Z (hK _ _ (QL (kp5 Z Z Z Z Z) ?_))
 refine XK ?_ -- 0
 refine Q3 fun K hK => Qb Z (hK _ _ (QL (kp6 Z Z Z Z Z Z) ?_))
 refine Yy ?_
 refine Qd2 (ι := Nat × Qec) (fun ⟨i, s⟩ => ⟨[(0, .ref kg 0 0), (1, .osl kc zs.length), (4, .ref 4 0 0), (5, .int .i64 (nx L I 8)), (6, .ref 6 0 0), (7, .int .i64 i)], [(4, ⟨[[.fsl [], .fsl []]], 2, 30, true⟩), (6, ⟨[[Q8 s.1, Q8 s.2]], 2, 30, true⟩), (kg, gB L (nxI I) eg)] ++ H⟩) (fun ⟨i, s⟩ => i <= zs.length /\ Qjh (bnd i - 4) s) (fun ⟨i, s⟩ => zs.length - i) (0, ([], [])) ?_ ?_ ?_
 ·exact QcB (l := [0, 1, 4, 5, 6, 7]) (B := [_, _, _, _]) (kp6 rfl rfl rfl rfl rfl rfl) rfl (by intro p hp; simp only [List.mem_cons, List.not_mem_nil, or_false] at hp; rcases hp with rfl | rfl | rfl <;> exact ⟨by repeat (first | exact Qs | refine Qj (by first | decide | omega) ?_), rfl⟩) rfl (by intro p hp h; simp only [List.mem_cons, List.not_mem_nil, or_false] at hp; rcases hp with rfl | rfl | rfl | rfl <;> first | (simp only at h; omega) | (repeat (first | exact QQ | refine QO ?_))) hB hC (by intro p hp k hk; simp only [List.mem_cons, List.not_mem_nil, or_false] at hp; rcases hp with rfl | rfl | rfl | rfl | rfl | rfl <;> first | (simp [D.ids, D.sid, Q1, QS, ZJ] at hk; done) | (simp [D.ids, D.sid, Q1, QS, ZJ] at hk; subst hk; repeat (first | exact QQ | exact Ze hg | exact Ze hc | refine QO ?_)))
 ·exact ⟨Nat.zero_le _, SmN.nil _, SmN.nil _⟩
 intro ⟨i, s⟩ hI
 try dsimp only at hI
 have hb16 := QkG (i := i) (by omega)
 try dsimp only
 refine XK ?_ -- 1
 refine Q3 fun K hK => Qb Z (Qb Z ?_)
 first | refine ZB rfl Yg ?_ | refine ZB rfl rfl ?_
 refine YM Z Z (hK _ _ (QL (kp7 Z Z Z Z Z Z Z) ?_))
 refine YY Z (fun h1 => ?_) (fun h1 => ?_)
 ·try rw [h1]
  try simp only [qA] at h1
  refine Xd (Q2 (kp6 Z Z Z Z Z Z) ?_)
  refine XK ?_ -- 2
  refine Yy (Q3 fun K hK => Qb Z (Qb Z (QfP Z (Qhe (by omega) (by omega)) (QnI Z Z (by omega) (Qgo Z Z (YF Z Z (hK _ _ (QL (kp7 Z Z Z Z Z Z Z) ?_))))))))
  refine YY Z (fun h2 => ?_) (fun h2 => ?_)
  ·try rw [h2]
   try simp only [qA] at h2
   have hvp := (hz _ (List.getElem_mem (show i < zs.length by omega))).1
   refine ZS fun K hK => QK (ds0 := [1, 0]) (cs := [_, _]) Z Z Z Z (by simp [Dr.ok, Qaj]) Z (Qb Z (Qb Z (QcZ (ds0 := [4, 3, 2, 1, 0]) Z Z (Qj (by omega) (Qj (by omega) (Qj (by omega) hc))) (by simp) (by omega) (by omega) Z (by simp [Dr.ok, Qaj]) Z (Qh Z (Ze (Qj (by omega) (Qj (by omega) (Qj (by omega) hc)))) (QK (ds0 := [2, 1, 0]) (cs := [_, _, _, _, _]) Z (ZW (Qj (by omega) (Qj (by omega) (Qj (by omega) hc))) (ZO (by omega))) Z Z (by simp [Dr.ok, Qaj]) Z (QX (ds0 := [1, 0]) (Yj (hz _ (List.getElem_mem (by omega))).1 (hz _ (List.getElem_mem (by omega))).2) Z Z (.inl Z) (by simp [Dr.ok, Qaj]) Z (QX (ds0 := [0]) (QaN (a := s) (b := (YJ (zs[i]'(by omega)).v.a (zs[i]'(by omega)).v.b (zs[i]'(by omega)).v.c (zs[i]'(by omega)).v.p (zs[i]'(by omega)).v.q)) (hI.2.1.sm (by omega)) (hI.2.2.sm (by omega)) ((Xn hvp).1.sm (by omega)) ((Xn hvp).2.sm (by omega)) (by have := hI.2.1.1; have := (Xn (a := (zs[i]'(by omega)).v.a) (b := (zs[i]'(by omega)).v.b) (c := (zs[i]'(by omega)).v.c) (q := (zs[i]'(by omega)).v.q) hvp).1.1; omega) (by have := hI.2.2.1; have := (Xn (a := (zs[i]'(by omega)).v.a) (b := (zs[i]'(by omega)).v.b) (c := (zs[i]'(by omega)).v.c) (q := (zs[i]'(by omega)).v.q) hvp).2.1; omega)) Z Z (.inl Z) (by simp [Dr.ok, Qaj]) Z (Xj (ds0 := []) Z Z Z Z Z Z Z Z (by simp [Dr.ok, Qaj]) Z (hK _ ?_)))))))))
   refine Qm (Q2 (kp6 Z Z Z Z Z Z) (ZS fun K hK => Qb Z (Zl Z Z (by first | exact Qt (by omega) (by omega) | rfl) (Qb Z (hK _ ?_)))))
   refine Qp (i + 1, QmN s (YJ (zs[i]'(by omega)).v.a (zs[i]'(by omega)).v.b (zs[i]'(by omega)).v.c (zs[i]'(by omega)).v.p (zs[i]'(by omega)).v.q)) ?_ ?_ ?_
   ·exact QcB (l := [0, 1, 4, 5, 6, 7]) (B := [_, _, _, _]) (kp6 rfl rfl rfl rfl rfl rfl) rfl (by intro p hp; simp only [List.mem_cons, List.not_mem_nil, or_false] at hp; rcases hp with rfl | rfl | rfl <;> exact ⟨by repeat (first | exact Qs | refine Qj (by first | decide | omega) ?_), rfl⟩) rfl (by intro p hp h; simp only [List.mem_cons, List.not_mem_nil, or_false] at hp; rcases hp with rfl | rfl | rfl | rfl <;> first | (simp only at h; omega) | (repeat (first | exact QQ | refine QO ?_))) hB hC (by intro p hp k hk; simp only [List.mem_cons, List.not_mem_nil, or_false] at hp; rcases hp with rfl | rfl | rfl | rfl | rfl | rfl <;> first | (simp [D.ids, D.sid, Q1, QS, ZJ] at hk; done) | (simp [D.ids, D.sid, Q1, QS, ZJ] at hk; subst hk; repeat (first | exact QQ | exact Ze hg | exact Ze hc | refine QO ?_)))
   ·exact ⟨by show i + 1 <= _; omega, Qnw hI.2 (hz _ (List.getElem_mem (by omega))).1 (by omega)⟩
   ·show zs.length - (i + 1) < zs.length - i; omega
  ·try rw [h2]
   try simp only [qA] at h2
   have hvp := (hz _ (List.getElem_mem (show i < zs.length by omega))).1
   refine Xd (Qm (Q2 (kp6 Z Z Z Z Z Z) (ZS fun K hK => Qb Z (Zl Z Z (by first | exact Qt (by omega) (by omega) | rfl) (Qb Z (hK _ ?_))))))
   refine Qp (i + 1, s) ?_ ?_ ?_
   ·exact QcB (l := [0, 1, 4, 5, 6, 7]) (B := [_, _, _]) (kp6 rfl rfl rfl rfl rfl rfl) rfl (by intro p hp; simp only [List.mem_cons, List.not_mem_nil, or_false] at hp; rcases hp with rfl | rfl | rfl <;> exact ⟨by repeat (first | exact Qs | refine Qj (by first | decide | omega) ?_), rfl⟩) rfl (by intro p hp h; simp only [List.mem_cons, List.not_mem_nil, or_false] at hp; rcases hp with rfl | rfl | rfl <;> first | (simp only at h; omega) | (repeat (first | exact QQ | refine QO ?_))) hB hC (by intro p hp k hk; simp only [List.mem_cons, List.not_mem_nil, or_false] at hp; rcases hp with rfl | rfl | rfl | rfl | rfl | rfl <;> first | (simp [D.ids, D.sid, Q1, QS, ZJ] at hk; done) | (simp [D.ids, D.sid, Q1, QS, ZJ] at hk; subst hk; repeat (first | exact QQ | exact Ze hg | exact Ze hc | refine QO ?_)))
   ·exact ⟨by show i + 1 <= _; omega, Qj0 hI.2⟩
   ·show zs.length - (i + 1) < zs.length - i; omega
 ·try rw [h1]
  try simp only [qA] at h1
  refine Qc1 (Xv (QD (QJ (Q2 (kp3 Z Z Z) ?_))))
  refine XK ?_ -- 3
  refine Q3 fun K hK => Qb Z (Yd (Qaz (I := nxI I) Z (Qj (by omega) (Qj (by omega) Qs)) hL (by omega)) (hK _ _ (QL (kp3 Z Z Z) ?_)))
  refine Yy (Q3 fun K hK => YF Z Z (Qb Z (hK _ _ (QL (kp4 Z Z Z Z) ?_))))
  refine YY Z (fun h3 => ?_) (fun h3 => ?_)
  ·try rw [h3]
   try simp only [qA] at h3
   refine Q3 fun K hK => Qz (Qar) Z Z (.inl Z) (QW Z (Qj (by omega) Z) Z Z Z Z Z Z (hK _ _ (QL (kp1 Z) ?_)))
   refine QdH (Qu (Qez ?_))
   refine ⟨Qdh Qgq, (kg, gB L (nxI (nxI I)) eg) :: H, ⟨Qgq, _, ⟨Qji.1.up (by omega), Qji.2.up (by omega)⟩, rfl, rfl⟩, (Z8 hB hC hkg rfl).1, (Z8 hB hC hkg rfl).2, ?_⟩
   refine Xg (cs := [Q8 Qgq.1, Q8 Qgq.2]) Z (ZW (by repeat (first | exact Qs | refine Qj (by first | decide | omega) ?_)) Z) Z Z Z ?_
   exact YR (B := [_, _, _, _, _]) hB (by repeat (first | exact Qs | refine Qj (by first | decide | omega) ?_)) (by intro p hp h; simp only [List.mem_cons, List.not_mem_nil, or_false] at hp; rcases hp with rfl | rfl | rfl | rfl | rfl <;> first | rfl | (simp only at h; omega))
  ·try rw [h3]
   try simp only [qA] at h3
   refine Q3 fun K hK => YF Z Z (Qb Z (hK _ _ (QL (kp3 Z Z Z) ?_)))
   refine YY Z (fun h4 => ?_) (fun h4 => ?_)
   ·try rw [h4]
    try simp only [qA] at h4
    refine Q3 fun K hK => QE (cs := [_, _]) Z (ZW (Qj (by omega) Z) Z) Z Z (Qz (Qas (a := s) (hI.2.1.sm (by omega)) (hI.2.2.sm (by omega))) Z Z (.inl Z) (QW Z (Qj (by omega) Z) Z Z Z Z Z Z (hK _ _ (QL (kp1 Z) ?_))))
    refine QdH (Qu (Qez ?_))
    refine ⟨Qdh (QdS s), (kg, gB L (nxI (nxI I)) eg) :: H, ⟨(QdS s), _, ⟨(QgY hI.2 (by omega)).1.up (by omega), (QgY hI.2 (by omega)).2.up (by omega)⟩, rfl, rfl⟩, (Z8 hB hC hkg rfl).1, (Z8 hB hC hkg rfl).2, ?_⟩
    refine Xg (cs := [Q8 (QdS s).1, Q8 (QdS s).2]) Z (ZW (by repeat (first | exact Qs | refine Qj (by first | decide | omega) ?_)) Z) Z Z Z ?_
    exact YR (B := [_, _, _, _, _]) hB (by repeat (first | exact Qs | refine Qj (by first | decide | omega) ?_)) (by intro p hp h; simp only [List.mem_cons, List.not_mem_nil, or_false] at hp; rcases hp with rfl | rfl | rfl | rfl | rfl <;> first | rfl | (simp only at h; omega))
   ·try rw [h4]
    try simp only [qA] at h4
    refine Xd (Qm (Q2 (kp2 Z Z) (Q3 fun K hK => QE (cs := [_, _]) Z (ZW (Qj (by omega) Z) Z) Z Z (QW Z (Qj (by omega) Z) Z Z Z Z Z Z (hK _ _ (QL (kp1 Z) ?_))))))
    refine QdH ?_
    refine ⟨Qdh s, (kg, gB L (nxI (nxI I)) eg) :: H, ⟨s, _, ⟨hI.2.1.up (by omega), hI.2.2.up (by omega)⟩, rfl, rfl⟩, (Z8 hB hC hkg rfl).1, (Z8 hB hC hkg rfl).2, ?_⟩
    refine Xg (cs := [Q8 s.1, Q8 s.2]) Z (ZW (by repeat (first | exact Qs | refine Qj (by first | decide | omega) ?_)) Z) Z Z Z ?_
    exact YR (B := [_, _, _, _, _]) hB (by repeat (first | exact Qs | refine Qj (by first | decide | omega) ?_)) (by intro p hp h; simp only [List.mem_cons, List.not_mem_nil, or_false] at hp; rcases hp with rfl | rfl | rfl | rfl | rfl <;> first | rfl | (simp only at h; omega))
end Go.Proofs
namespace Go.Proofs
open Go Go.Abs M3 M25
set_option linter.unusedVariables false
set_option linter.unusedSimpArgs false
/-- The call of 'set', over boxes that are lent. -/
theorem Qp8 {H : List (Nat × Box)} {kg kc : Nat} {L : List Int} {I : Int} {eg ec : Nat} {pr : Bool} {zs : List CR} (hg : lk H kg = some (gB L I eg)) (hc : lk H kc = some ⟨zs.map dCR, 8, ec, pr⟩) (hne : kg ≠ kc) (hC : Closed H) (hL : ∀ x ∈ L, I64 x) (hz : ∀ z ∈ zs, Qei z.v) (hn : zs.length <= 16) :
  ∃ s I2, SetOk s /\ ∀ (st : St) (args : List Opd), Zt st args = some [.ref kg 0 0, .osl kc zs.length] -> (∀ j x, lk H j = some x -> lk st.H j = some x) -> QaP Tryd.prog 58 args st H [] [(kg, gB L I2 eg)] (Qdh s) := by
 obtain ⟨d, H2, ⟨s, I2, hs, rfl, rfl⟩, hok⟩ := Qc8 (H := upH H) (kg := upN kg) (kc := upN kc) (L := L) (I := I) (eg := eg) (ec := ec) (pr := pr) (zs := zs.map CR.ren) (by unfold upN; omega) (by rw [XX, hg]; rfl) (by rw [XX, hc, Option.map_some, Box.ren, QkS]) (fun e => hne (Qi5 e)) Qfx (Qa2 hC) hL
  (fun z hz' => by obtain ⟨z0, h0, rfl⟩ := List.mem_map.1 hz'; exact hz z0 h0) (by simpa using hn)
 refine ⟨s, I2, hs, fun st args ha hF => QfS (b' := gB L I2 eg) (ds' := [.ref (upN kg) 0 0, .osl (upN kc) zs.length]) ha hF hC (fun x hx j hj => ?_) (Ze hg) Z Z Z Z ?_⟩
 ·simp only [List.mem_cons, List.not_mem_nil, or_false] at hx
  rcases hx with rfl | rfl
  ·simp [D.ids, D.sid] at hj; subst hj; exact Ze hg
  ·simp [D.ids, D.sid] at hj; subst hj; exact Ze hc
 ·rw [List.length_map] at hok; exact hok
theorem QcH {H : List (Nat × Box)} {kg ku : Nat} {L : List Int} {I : Int} {eg eu ec : Nat} {us : List UR} (hkg : 1000000 <= kg) (hg : lk H kg = some (gB L I eg)) (hU : Fam H kg ku eu ec us) (hB : Big H) (hC : Closed H) (hL : ∀ x ∈ L, I64 x) (h2n : 2 <= us.length) (hn : us.length <= 48) : ∃ d H2, (∃ x I2, WantIn us.length x /\ d = .agg (QaQ x) /\ H2 = (kg, gB L I2 eg) :: H) /\ OkH Tryd.prog 38 [.ref kg 0 0, .osl ku us.length] H d H2 := by
 obtain ⟨pu, hu⟩ := hU.u
 have hku := hB _ _ hu
 have hne := hU.ne
 have hx0 := Qge (v := Qks L (IntKind.i64.wrap (nxI I - 1))) (n := (us.length : Int) - 1)
 have hx1 := Qgd (v := Qks L (IntKind.i64.wrap (nxI I - 1))) (n := (us.length : Int) - 1) (by omega)
 change 0 <= nx L I ((us.length : Int) - 1) at hx0
 change nx L I ((us.length : Int) - 1) < _ at hx1
 obtain ⟨hyk, pr, hy⟩ := hU.c (us[(1 + nx L I ((us.length : Int) - 1)).toNat]'(by omega)) (List.getElem_mem _)
 obtain ⟨hv1, hv2⟩ := hU.v (us[(1 + nx L I ((us.length : Int) - 1)).toNat]'(by omega)) (List.getElem_mem _)
 obtain ⟨s, I2, hs, hcall⟩ := Qp8 (H := (kg, gB L (nxI I) eg) :: H) Qs (Qj (Ne.symm hyk) hy) (Ne.symm hyk) (hC.pr rfl) hL hv2 hv1
 refine OkH.ofX (R := fun d H2 => ∃ x I2, WantIn us.length x /\ d = .agg (QaQ x) /\ H2 = (kg, gB L I2 eg) :: H) Z3 Tryd.func38 Qqy (Nat.le_of_ble_eq_true Z) ?_
 show TX _ _ tf38.body _ _
 refine Q3 fun K hK => ?_
 refine Zy (by repeat (first | exact hB.none (by decide) | refine Zj (by first | decide | omega) ?_)) ?_
 refine hK _ _ (QL (kp3 Z Z Z) ?_)
 refine Q3 fun K hK => Qb Z (Qb Z ?_)
 first | refine ZB rfl Yg ?_ | refine ZB rfl rfl ?_
 refine Qc0 Z Z (by first | exact Qt (by omega) (by omega) | rfl) (Yd (Qaz (I := I) Z (Qj (by omega) hg) hL (by omega)) (Zl Z Z (by first | exact Qt (by omega) (by omega) | rfl) (Qb Z (hK _ _ (QL (kp4 Z Z Z Z) ?_)))))
 refine Q3 fun K hK => Qb rfl (Qb rfl (Qb rfl (Qb rfl (Qa4 rfl rfl (Qj (by omega) (Qj (by omega) hu)) (by simp) (by omega) (by omega) rfl (Qh rfl (Ze (Qj (by omega) (Qj (by omega) hu))) (QF rfl (ZW (Qj (by omega) (Qj (by omega) hu)) (Z7 (by omega) (by omega))) rfl (Yd (hcall _ _ rfl (YR (B := [_, _]) hB Qs (by intro p hp h; simp only [List.mem_cons, List.not_mem_nil, or_false] at hp; rcases hp with rfl | rfl <;> first | rfl | (simp only at h; omega)))) (Q4 rfl rfl (QW rfl (Qj (by omega) (Qj (by omega) rfl)) rfl rfl rfl rfl rfl rfl (hK _ _ (QL (kp1 rfl) ?_)))))))))))
 refine QdH ?_
 refine ⟨.agg (QaQ ⟨1 + nx L I ((us.length : Int) - 1), s⟩), (kg, gB L I2 eg) :: H, ⟨⟨1 + nx L I ((us.length : Int) - 1), s⟩, _, ⟨by show 1 <= 1 + _; omega, by show 1 + _ < (us.length : Int); omega, hs⟩, rfl, rfl⟩, (Z8 hB hC hkg rfl).1, (Z8 hB hC hkg rfl).2, ?_⟩
 refine Xg (cs := QaQ ⟨1 + nx L I ((us.length : Int) - 1), s⟩) Z (ZW (by repeat (first | exact Qs | refine Qj (by first | decide | omega) ?_)) Z) Z Z Z ?_
 exact YR (B := [_, _, _, _]) hB (by repeat (first | exact Qs | refine Qj (by first | decide | omega) ?_)) (by intro p hp h; simp only [List.mem_cons, List.not_mem_nil, or_false] at hp; rcases hp with rfl | rfl | rfl | rfl <;> first | rfl | (simp only at h; omega))
/-- The call of 'want'. -/
theorem QjS {H : List (Nat × Box)} {kg ku : Nat} {L : List Int} {I : Int} {eg eu ec : Nat} {us : List UR} (hg : lk H kg = some (gB L I eg)) (hU : Fam H kg ku eu ec us) (hC : Closed H) (hL : ∀ x ∈ L, I64 x) (h2 : 2 <= us.length) (hn : us.length <= 48) :
  ∃ x I2, WantIn us.length x /\ ∀ (st : St) (args : List Opd), Zt st args = some [.ref kg 0 0, .osl ku us.length] -> (∀ j x, lk H j = some x -> lk st.H j = some x) -> QaP Tryd.prog 38 args st H [] [(kg, gB L I2 eg)] (.agg (QaQ x)) := by
 obtain ⟨d, H2, ⟨x, I2, hx, rfl, rfl⟩, hok⟩ := QcH (H := upH H) (kg := upN kg) (ku := upN ku) (L := L) (I := I) (eg := eg) (eu := eu) (ec := ec) (us := us.map UR.ren) (by unfold upN; omega) (by rw [XX, hg]; rfl) hU.up Qfx (Qa2 hC) hL (by simpa using h2) (by simpa using hn)
 obtain ⟨pu, hu⟩ := hU.u
 rw [List.length_map] at hx hok
 refine ⟨x, I2, hx, fun st args ha hF => QfS (b' := gB L I2 eg) (ds' := [.ref (upN kg) 0 0, .osl (upN ku) us.length]) ha hF hC (fun x hx j hj => ?_) (Ze hg) Z Z Z Z hok⟩
 simp only [List.mem_cons, List.not_mem_nil, or_false] at hx
 rcases hx with rfl | rfl
 ·simp [D.ids, D.sid] at hj; subst hj; exact Ze hg
 ·simp [D.ids, D.sid] at hj; subst hj; exact Ze hu
end Go.Proofs
namespace Go.Proofs
open Go Go.Abs M3 M25
set_option linter.unusedVariables false
set_option linter.unusedSimpArgs false
theorem Qcl {H : List (Nat × Box)} {kg ku : Nat} {L : List Int} {I most : Int} {eg eu ec : Nat} {us : List UR} (hkg : 1000000 <= kg) (hg : lk H kg = some (gB L I eg)) (hU : Fam H kg ku eu ec us) (hB : Big H) (hC : Closed H) (hL : ∀ x ∈ L, I64 x) (h2n : 2 <= us.length) (hn : us.length <= 48) (hm0 : 0 <= most) (hm1 : most <= 10) : ∃ d H2, (∃ ns I2, QeF us.length most ns /\ d = QS ns /\ H2 = (kg, gB L I2 eg) :: H) /\ OkH Tryd.prog 35 [.ref kg 0 0, .osl ku us.length, .int .i64 most] H d H2 := by
 obtain ⟨pu, hu⟩ := hU.u
 have hku := hB _ _ hu
 have hne := hU.ne
 have hk0 : 0 <= nx L I (most + 1) := Qge
 have hk1 : nx L I (most + 1) < most + 1 := Qgd (by omega)
 refine OkH.ofX (R := fun d H2 => ∃ ns I2, QeF us.length most ns /\ d = QS ns /\ H2 = (kg, gB L I2 eg) :: H) Z3 Tryd.func35 QqW (Nat.le_of_ble_eq_true Z) ?_
 show TX _ _ tf35.body _ _
 refine Q3 fun K hK => Qb Z (hK _ _ (QL (kp3 Z Z Z) ?_))
 refine Q3 fun K hK => Qb Z (hK _ _ (QL (kp4 Z Z Z Z) ?_))
 refine XK ?_ -- 0
 refine Q3 fun K hK => Qb Z (Qb Z (Zl Z Z (by first | exact Qt (by omega) (by omega) | rfl) (Yd (Qaz (I := I) Z hg hL (by omega)) (Qb Z (hK _ _ (QL (kp4 Z Z Z Z) ?_))))))
 refine Yy ?_
 refine Qd2 (ι := Nat × List (List WantT) × Int) (fun ⟨k, ns, J⟩ => ⟨[(0, .ref kg 0 0), (1, .osl ku us.length), (7, .osl 7 ns.length), (8, .int .i64 k)], [(7, ⟨(ns).map (fun r => [Q1 r]), 1, 51, true⟩), (kg, gB L J eg)] ++ H⟩) (fun ⟨k, ns, J⟩ => (ns.length : Int) + k <= most /\ ∀ r ∈ ns, Qhr us.length r) (fun ⟨k, ns, J⟩ => k) ((nx L I (most + 1)).toNat, [], nxI I) ?_ ?_ ?_
 ·exact le_trans (XO 7 7 1 51 rfl (by repeat (first | exact hB.none (by decide) | refine Zj (by first | decide | omega) ?_))) (QcB (l := [0, 1, 7, 8]) (B := [_, _]) (kp4 rfl rfl rfl rfl) (by simp only [Int.toNat_of_nonneg hk0] <;> rfl) (by intro p hp; simp only [List.mem_cons, List.not_mem_nil, or_false] at hp; rcases hp with rfl | rfl <;> exact ⟨by repeat (first | exact Qs | refine Qj (by first | decide | omega) ?_), rfl⟩) rfl (by intro p hp h; simp only [List.mem_cons, List.not_mem_nil, or_false] at hp; rcases hp with rfl | rfl <;> first | (simp only at h; omega) | (repeat (first | exact QQ | refine QO ?_))) hB hC (by intro p hp k hk; simp only [List.mem_cons, List.not_mem_nil, or_false] at hp; rcases hp with rfl | rfl | rfl | rfl <;> first | (simp [D.ids, D.sid, Q1, QS, ZJ] at hk; done) | (simp [D.ids, D.sid, Q1, QS, ZJ] at hk; subst hk; repeat (first | exact QQ | exact Ze hg | exact Ze hu | refine QO ?_))))
 ·exact ⟨by simp only [List.length_nil]; omega, by simp⟩
 intro ⟨k, ns, J⟩ hI
 try dsimp only at hI
 try dsimp only
 refine XK ?_ -- 1
 refine Q3 fun K hK => Qb Z (QdG Z Z (hK _ _ (QL (kp5 Z Z Z Z Z) ?_)))
 refine YY Z (fun h1 => ?_) (fun h1 => ?_)
 ·try rw [h1]
  try simp only [qA] at h1
  refine Xd (Q2 (kp4 Z Z Z Z) ?_)
  refine XK ?_ -- 2
  refine Yy (Q3 fun K hK => Qb Z (Qb Z ?_))
  obtain ⟨x1, J1, hx1, hc1⟩ := QjS (I := J) (H := (kg, gB L (J) eg) :: H) Qs hU.cons (hC.pr rfl) hL h2n hn
  refine Yd (hc1 _ _ rfl (YR (B := [_, _]) hB (by repeat (first | exact Qs | refine Qj (by first | decide | omega) ?_)) (by intro p hp h; simp only [List.mem_cons, List.not_mem_nil, or_false] at hp; rcases hp with rfl | rfl <;> first | rfl | (simp only at h; omega)))) ?_
  refine QN Z (by repeat (first | exact hB.none (by decide) | refine Zj (by first | decide | omega) ?_)) ?_
  refine Qb Z (hK _ _ (QL (kp5 Z Z Z Z Z) ?_))
  refine QoZ (ι := List WantT × Int) (fun ⟨r, J4⟩ => ⟨[(0, .ref kg 0 0), (1, .osl ku us.length), (7, .osl 7 ns.length), (8, .int .i64 k), (9, Q1 r)], [(7, ⟨(ns).map (fun r => [Q1 r]), 1, 51, true⟩), (kg, gB L J4 eg)] ++ H⟩) (fun ⟨r, J4⟩ => Qhr us.length r) ?_ ?_
  ·skip
   refine Q3 fun K hK => Qb Z (Yd (Qaz (I := J1) Z (Qj (by omega) Qs) hL (by omega)) (YF Z Z (hK _ _ (QL (kp6 Z Z Z Z Z Z) ?_))))
   refine YY Z (fun h2 => ?_) (fun h2 => ?_)
   ·try rw [h2]
    try simp only [qA] at h2
    refine ZS fun K hK => Qb Z (Qb Z (Qb Z ?_))
    obtain ⟨x2, J2, hx2, hc2⟩ := QjS (I := nxI J1) (H := (kg, gB L (nxI J1) eg) :: H) Qs hU.cons (hC.pr rfl) hL h2n hn
    refine Yd (hc2 _ _ rfl (YR (B := [_, _, _, _, _]) hB (by repeat (first | exact Qs | refine Qj (by first | decide | omega) ?_)) (by intro p hp h; simp only [List.mem_cons, List.not_mem_nil, or_false] at hp; rcases hp with rfl | rfl | rfl | rfl | rfl <;> first | rfl | (simp only at h; omega)))) ?_
    refine QN Z (by repeat (first | exact hB.none (by decide) | refine Zj (by first | decide | omega) ?_)) ?_
    refine QnF Z Z (by simp [D.ids, D.sid]) ⟨_, rfl, rfl, rfl, rfl, rfl⟩ (by repeat (first | exact hB.none (by decide) | refine Zj (by first | decide | omega) ?_)) (Qj (by decide) (Qj (by omega) (Qj (by omega) Z))) Z Z Z (by simp) (by simp) ?_
    refine Qb Z (hK _ ?_)
    refine Xz ([x1, x2], J2) ?_ ?_
    ·exact le_trans (QiM (l := [0, 1, 7, 8]) (B := [_, _, _, _, _, _, _, _, _]) (A := [(7, ⟨(ns).map (fun r => [Q1 r]), 1, 51, true⟩), (kg, gB L J2 eg)]) 30 9 (kp4 rfl rfl rfl rfl) rfl rfl rfl (by first | (simp; done) | (simp; omega)) (by intro p hp hk; simp only [List.mem_cons, List.not_mem_nil, or_false] at hp; rcases hp with rfl | rfl | rfl | rfl <;> first | (simp [D.ids, D.sid, Q1, QS, ZJ] at hk; done) | (simp [D.ids, D.sid, Q1, QS, ZJ] at hk; omega)) (by intro p hp; simp only [List.mem_cons, List.not_mem_nil, or_false] at hp; rcases hp with rfl | rfl <;> exact ⟨by first | decide | (simp only; omega), by repeat (first | exact Qs | refine Qj (by first | decide | omega) ?_), rfl⟩) (by intro p hp h; simp only [List.mem_cons, List.not_mem_nil, or_false] at hp; rcases hp with rfl | rfl | rfl | rfl | rfl | rfl | rfl | rfl | rfl <;> first | (simp only at h; omega) | (repeat (first | exact QQ | refine QO ?_))) hB hC (by intro p hp k hk; simp only [List.mem_cons, List.not_mem_nil, or_false] at hp; rcases hp with rfl | rfl | rfl | rfl <;> first | (simp [D.ids, D.sid, Q1, QS, ZJ] at hk; done) | (simp [D.ids, D.sid, Q1, QS, ZJ] at hk; subst hk; repeat (first | exact QQ | exact Ze hg | exact Ze hu | refine QO ?_)))) (QcB (l := [0, 1, 7, 8, 9]) (B := [_, _]) (kp5 rfl rfl rfl rfl rfl) rfl (by intro p hp; simp only [List.mem_cons, List.not_mem_nil, or_false] at hp; rcases hp with rfl | rfl <;> exact ⟨by repeat (first | exact Qs | refine Qj (by first | decide | omega) ?_), rfl⟩) rfl (by intro p hp h; simp only [List.mem_cons, List.not_mem_nil, or_false] at hp; rcases hp with rfl | rfl <;> first | (simp only at h; omega) | (repeat (first | exact QQ | refine QO ?_))) hB hC (by intro p hp k hk; simp only [List.mem_cons, List.not_mem_nil, or_false] at hp; rcases hp with rfl | rfl | rfl | rfl | rfl <;> first | (simp [D.ids, D.sid, Q1, QS, ZJ] at hk; done) | (simp [D.ids, D.sid, Q1, QS, ZJ] at hk; subst hk; repeat (first | exact QQ | exact Ze hg | exact Ze hu | refine QO ?_))))
    ·exact Qok hx1 hx2
   ·try rw [h2]
    try simp only [qA] at h2
    refine Xd ?_
    refine Xz ([x1], nxI J1) ?_ ?_
    ·exact le_trans (QiM (l := [0, 1, 7, 8]) (B := [_, _, _, _, _]) (A := [(7, ⟨(ns).map (fun r => [Q1 r]), 1, 51, true⟩), (kg, gB L (nxI J1) eg)]) 21 9 (kp4 rfl rfl rfl rfl) rfl (Qj (by omega) rfl) rfl (by first | (simp; done) | (simp; omega)) (by intro p hp hk; simp only [List.mem_cons, List.not_mem_nil, or_false] at hp; rcases hp with rfl | rfl | rfl | rfl <;> first | (simp [D.ids, D.sid, Q1, QS, ZJ] at hk; done) | (simp [D.ids, D.sid, Q1, QS, ZJ] at hk; omega)) (by intro p hp; simp only [List.mem_cons, List.not_mem_nil, or_false] at hp; rcases hp with rfl | rfl <;> exact ⟨by first | decide | (simp only; omega), by repeat (first | exact Qs | refine Qj (by first | decide | omega) ?_), rfl⟩) (by intro p hp h; simp only [List.mem_cons, List.not_mem_nil, or_false] at hp; rcases hp with rfl | rfl | rfl | rfl | rfl <;> first | (simp only at h; omega) | (repeat (first | exact QQ | refine QO ?_))) hB hC (by intro p hp k hk; simp only [List.mem_cons, List.not_mem_nil, or_false] at hp; rcases hp with rfl | rfl | rfl | rfl <;> first | (simp [D.ids, D.sid, Q1, QS, ZJ] at hk; done) | (simp [D.ids, D.sid, Q1, QS, ZJ] at hk; subst hk; repeat (first | exact QQ | exact Ze hg | exact Ze hu | refine QO ?_)))) (QcB (l := [0, 1, 7, 8, 9]) (B := [_, _]) (kp5 rfl rfl rfl rfl rfl) rfl (by intro p hp; simp only [List.mem_cons, List.not_mem_nil, or_false] at hp; rcases hp with rfl | rfl <;> exact ⟨by repeat (first | exact Qs | refine Qj (by first | decide | omega) ?_), rfl⟩) rfl (by intro p hp h; simp only [List.mem_cons, List.not_mem_nil, or_false] at hp; rcases hp with rfl | rfl <;> first | (simp only at h; omega) | (repeat (first | exact QQ | refine QO ?_))) hB hC (by intro p hp k hk; simp only [List.mem_cons, List.not_mem_nil, or_false] at hp; rcases hp with rfl | rfl | rfl | rfl | rfl <;> first | (simp [D.ids, D.sid, Q1, QS, ZJ] at hk; done) | (simp [D.ids, D.sid, Q1, QS, ZJ] at hk; subst hk; repeat (first | exact QQ | exact Ze hg | exact Ze hu | refine QO ?_))))
    ·exact Qoj hx1
  intro ⟨r, J4⟩ hJ
  try dsimp only at hJ
  try dsimp only
  refine ZS fun K hK => Qb Z (Qb Z ?_)
  refine QN Z (by repeat (first | exact hB.none (by decide) | refine Zj (by first | decide | omega) ?_)) ?_
  refine Qbz Z Z (fun _ h => Qbt Z Z Z h) Z (by simp) Z Z Z (by simp; omega) (by simp; omega) (Qb Z (hK _ ?_))
  refine Qm (Q2 (kp4 Z Z Z Z) (ZS fun K hK => Qb Z (Qc0 Z Z (by first | exact Qt (by omega) (by omega) | rfl) (Qb Z (hK _ ?_)))))
  refine Qp (k - 1, ns ++ [r], J4) ?_ ?_ ?_
  ·exact le_trans (Qpj (B := [_, _, _, _]) 7 hB hC) (QcB (l := [0, 1, 7, 8]) (A := [(7, ⟨ns.map (fun r => [Q1 r]) ++ [[Q1 r]], 1, 51, true⟩), (kg, gB L J4 eg)]) (B := [_, _, _, _]) (kp4 rfl rfl rfl rfl) (by simp [D.scrub, show ¬ kg = 7 by omega, show ¬ ku = 7 by omega] <;> omega) (by intro p hp; simp only [List.mem_cons, List.not_mem_nil, or_false] at hp; rcases hp with rfl | rfl <;> exact ⟨by repeat (first | exact Qs | refine Qj (by first | decide | omega) ?_), rfl⟩) (by simp) (by intro p hp h; simp only [List.mem_cons, List.not_mem_nil, or_false] at hp; rcases hp with rfl | rfl | rfl | rfl <;> first | (simp only at h; omega) | (repeat (first | exact QQ | refine QO ?_))) hB hC (by intro p hp k hk; simp only [List.mem_cons, List.not_mem_nil, or_false] at hp; rcases hp with rfl | rfl | rfl | rfl <;> first | (simp [D.ids, D.sid, Q1, QS, ZJ] at hk; done) | (simp [D.ids, D.sid, Q1, QS, ZJ] at hk; subst hk; repeat (first | exact QQ | exact Ze hg | exact Ze hu | refine QO ?_))))
  ·exact ⟨by simp only [List.length_append, List.length_singleton]; omega, QlK hI.2 hJ⟩
  ·show k - 1 < k; omega
 ·try rw [h1]
  try simp only [qA] at h1
  refine Qc1 (Xv (QD (QJ (Q2 (kp1 Z) (Q3 fun K hK => Qb Z (Qb Z (hK _ _ (QL (kp1 Z) ?_))))))))
  refine QdH ?_
  refine ⟨QS ns, (kg, gB L J eg) :: H, ⟨ns, _, ⟨by omega, hI.2⟩, rfl, rfl⟩, (Z8 hB hC hkg rfl).1, (Z8 hB hC hkg rfl).2, ?_⟩
  refine Qag Z (by simp [Ql3, D.fz, D.fzS, QfN, lk, D.can, D.canS, QS]) ?_
  exact YR (B := [_, _]) hB (by repeat (first | exact Qs | refine Qj (by first | decide | omega) ?_)) (by intro p hp h; simp only [List.mem_cons, List.not_mem_nil, or_false] at hp; rcases hp with rfl | rfl <;> first | rfl | (simp only at h; omega))
end Go.Proofs
