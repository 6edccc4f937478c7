/- Part 4 of the means of the proof: a verified abstract evaluator, the prepared functions, and contracts of functions. It states nothing of the claim by itself. -/
import Derived.Test.YtgikdkfobdfmfaaGreatB3
set_option maxRecDepth 4000
set_option linter.unusedSimpArgs false
set_option linter.unusedVariables false
namespace Go.Proofs
open Go Go.Abs M3
set_option linter.unusedVariables false
set_option linter.unusedSimpArgs false
theorem Qau {s : List UInt8} (hl : s.length <= 1000000) : Ok Tryz.prog 97 [.str s] (.tup [.int .i64 (Yb s).1, .bool (Yb s).2]) := by
 refine Ok.ofT ZZ Tryz.func97 Qqp (Nat.le_of_ble_eq_true Z) ?_
 show TW _ _ tf97.body _ _
 refine Qf fun K hK => Qa Z (Qa Z (hK _ _ (Qb (kp1 Z) ?_)))
 refine Qg3 (ι := Unit) (fun _u => ⟨[(0, .str s)], []⟩) (fun _u => ¬ (s = [] \/ 4 < s.length \/ (1 < s.length /\ s.head? = some 48))) ?_ ?_
 ·skip
  refine Qf fun K hK => Qa Z (QaF Z Z (Qa Z ?_))
  refine QB (g := 9) Z (fun h1 => ?_) (fun h1 => ?_)
  ·try rw [h1]
   try simp only [qB, Bool.and_eq_true, Bool.and_eq_false_iff, decide_eq_true_eq] at h1
   refine Qz Z (Qz Z (Qz Z (Qo Z Z (Qa Z (Qz Z (Qz Z (Qz Z (Qz Z (QX Z (QX Z (QX Z ?_)))))))))))
   refine Qz Z (Qo Z Z (hK _ _ (Qb (kp2 Z Z) ?_)))
   refine ZJ Z (Qf fun K hK => Qa Z (Qa Z (hK _ _ (Qb (kp2 Z Z) ?_))))
   refine Qt (QbV (ZT Z Z ?_))
   first | (rw [Qaq (s := s) (by first | (left; assumption) | (right; omega))]; exact ⟨rfl, rfl⟩) | (rw [YC (s := s) (by omega) (by assumption)]; exact ⟨rfl, rfl⟩) | (rw [Xo (s := s) (i := i) (by omega) (by simp [Yl]; omega)]; exact ⟨rfl, rfl⟩) | (rw [QbJ (s := s) (i := i) hJ (by omega) hI.2.1]; exact ⟨rfl, by simp [Qae, D.fz, D.fzS, D.can, D.canS]; omega⟩)
  ·try rw [h1]
   try simp only [qB, Bool.and_eq_true, Bool.and_eq_false_iff, decide_eq_true_eq] at h1
   refine Qi Z (Qa Z (Qi Z (Ym Z (Qi Z (Qcc Z Z (Qo Z Z (Qa Z ?_)))))))
   refine QB (g := 14) Z (fun h2 => ?_) (fun h2 => ?_)
   ·try rw [h2]
    try simp only [qB, Bool.and_eq_true, Bool.and_eq_false_iff, decide_eq_true_eq] at h2
    refine Qz Z (Qz Z (Qz Z (Qz Z (QX Z (QX Z (QX Z (Qz Z (Qo Z Z (hK _ _ (Qb (kp2 Z Z) ?_))))))))))
    refine ZJ Z (Qf fun K hK => Qa Z (Qa Z (hK _ _ (Qb (kp2 Z Z) ?_))))
    refine Qt (QbV (ZT Z Z ?_))
    first | (rw [Qaq (s := s) (by first | (left; assumption) | (right; omega))]; exact ⟨rfl, rfl⟩) | (rw [YC (s := s) (by omega) (by assumption)]; exact ⟨rfl, rfl⟩) | (rw [Xo (s := s) (i := i) (by omega) (by simp [Yl]; omega)]; exact ⟨rfl, rfl⟩) | (rw [QbJ (s := s) (i := i) hJ (by omega) hI.2.1]; exact ⟨rfl, by simp [Qae, D.fz, D.fzS, D.can, D.canS]; omega⟩)
   ·try rw [h2]
    try simp only [qB, Bool.and_eq_true, Bool.and_eq_false_iff, decide_eq_true_eq] at h2
    refine Qi Z (Qa Z (Qi Z (Yc Z Z (by omega) (XR (i := 0) (List.length_pos_iff.2 (by assumption))) (Qi Z (YH Z Z (Qi Z (Qa Z ?_)))))))
    refine QB (g := 18) Z (fun h3 => ?_) (fun h3 => ?_)
    ·try rw [h3]
     try simp only [qB, Bool.and_eq_true, Bool.and_eq_false_iff, decide_eq_true_eq] at h3
     refine Qi Z (Qa Z (Qi Z (Ym Z (Qi Z (Qcc Z Z (Qi Z (Qo Z Z (Qo Z Z (hK _ _ (Qb (kp2 Z Z) ?_))))))))))
     refine Qy Z (fun h4 => ?_) (fun h4 => ?_)
     ·try rw [h4]
      try simp only [qB, Bool.and_eq_true, Bool.and_eq_false_iff, decide_eq_true_eq] at h4
      refine Qf fun K hK => Qa Z (Qa Z (hK _ _ (Qb (kp2 Z Z) ?_)))
      refine Qt (QbV (ZT Z Z ?_))
      first | (rw [Qaq (s := s) (by first | (left; assumption) | (right; omega))]; exact ⟨rfl, rfl⟩) | (rw [YC (s := s) (by omega) (by assumption)]; exact ⟨rfl, rfl⟩) | (rw [Xo (s := s) (i := i) (by omega) (by simp [Yl]; omega)]; exact ⟨rfl, rfl⟩) | (rw [QbJ (s := s) (i := i) hJ (by omega) hI.2.1]; exact ⟨rfl, by simp [Qae, D.fz, D.fzS, D.can, D.canS]; omega⟩)
     ·try rw [h4]
      try simp only [qB, Bool.and_eq_true, Bool.and_eq_false_iff, decide_eq_true_eq] at h4
      refine Qw ?_
      refine Zl () ?_ ?_
      ·exact QV (kp1 rfl)
      ·rintro (q | q | q) <;> first | (simp_all; done) | omega | exact Qgp (s := s) (by omega) (by assumption) q.2
    ·try rw [h3]
     try simp only [qB, Bool.and_eq_true, Bool.and_eq_false_iff, decide_eq_true_eq] at h3
     refine Qz Z (Qz Z (Qz Z (Qi Z (Qo Z Z (Qo Z Z (hK _ _ (Qb (kp2 Z Z) ?_)))))))
     refine Zu Z (Qw ?_)
     refine Zl () ?_ ?_
     ·exact QV (kp1 rfl)
     ·rintro (q | q | q) <;> first | (simp_all; done) | omega | exact Qgp (s := s) (by omega) (by assumption) q.2
 intro _u hJ
 try dsimp only
 refine Qf fun K hK => Qa Z (hK _ _ (Qb (kp2 Z Z) ?_))
 refine QG ?_ -- 1
 refine Qf fun K hK => Qa Z (QjY Z Z (hK _ _ (Qb (kp2 Z Z) ?_)))
 refine QF ?_
 refine ZK (ι := Nat) (fun i => ⟨[(4, .int .i64 (val (s.take i))), (25, .ref 25 0 0)], [(25, ⟨[], 0, Zr s i, false⟩)]⟩) (fun i => i <= s.length /\ (s.take i).all Yl = true /\ s.length <= 4 /\ 0 < s.length) (fun i => s.length - i) 0 ?_ ?_ ?_
 ·exact Ze (l := [4, 25]) (lH := [25]) (kp2 rfl rfl) (Qe rfl Qq) (by simp [val]) rfl rfl
 ·exact ⟨Nat.zero_le _, rfl, Nat.le_of_not_lt fun h => hJ (.inr (.inl h)), List.length_pos_iff.2 fun h => hJ (.inl h)⟩
 intro i hI
 have hv := Qk3 (s := s.take i) hI.2.1
 have hp : 10 ^ (s.take i).length <= 10 ^ 4 := Nat.pow_le_pow_right (by omega) (by simp; omega)
 have hI1 := hI.1
 have hI3 := hI.2.2.1
 try dsimp only
 refine Qf fun K hK => ?_
 rcases Nat.lt_or_ge (i) (s).length with h5 | h5
 ·rcases Nat.lt_or_ge (((s)[i]).toNat) 128 with h6 | h6
  ·refine QiQ Z Z h5 (Qhi h5 h6) (Zh Z Z (hK _ _ (Qb (kp4 Z Z Z Z) ?_)))
   refine QG ?_ -- 2
   refine ZJ Z (Qw (Qd (kp3 Z Z Z) (QF (Qf fun K hK => Zh Z Z (Qa Z (hK _ _ (Qb (kp3 Z Z Z) ?_)))))))
   refine QF (Qf fun K hK => Qa Z (QjR Z Z (Qa Z ?_)))
   refine QB (g := 32) Z (fun h7 => ?_) (fun h7 => ?_)
   ·try rw [h7]
    try simp only [qB, Bool.and_eq_true, Bool.and_eq_false_iff, decide_eq_true_eq] at h7
    refine Qi Z (Qa Z (Qi Z (Qla Z Z (Qo Z Z (Qa Z (hK _ _ (Qb (kp4 Z Z Z Z) ?_)))))))
    refine Qy Z (fun h8 => ?_) (fun h8 => ?_)
    ·try rw [h8]
     try simp only [qB, Bool.and_eq_true, Bool.and_eq_false_iff, decide_eq_true_eq] at h8
     refine QY fun K hK => Qa Z (Qmy Z Z (by first | exact Qr (by omega) (by omega) | exact QH (by omega) (by omega) | exact QL (by omega) (by omega) | rfl) (Qa Z (Qb2 Z Z (by first | exact Qr (by omega) (by omega) | exact QH (by omega) (by omega) | exact QL (by omega) (by omega) | rfl) (Qfz Z (by first | exact Qr (by omega) (by omega) | exact QH (by omega) (by omega) | exact QL (by omega) (by omega) | rfl) (Za Z Z (by first | exact Qr (by omega) (by omega) | exact QH (by omega) (by omega) | exact QL (by omega) (by omega) | rfl) (Qa Z (hK _ ?_)))))))
     refine Qg (Qg ?_)
     refine Qj (i + 1) ?_ ?_ ?_
     ·first | exact Ze (l := [4, 25]) (lH := [25]) (kp2 rfl rfl) (Qe rfl Qq) rfl rfl rfl | exact Ze (l := [4, 25]) (lH := [25]) (kp2 rfl rfl) (Qe rfl Qq) (by rw [Qeg (by omega)]; simp; omega) rfl rfl | (exfalso; omega)
     ·first | exact ⟨by omega, Zg (by omega) hI.2.1 (by simp [Yl]; omega), hI.2.2⟩ | (exfalso; omega)
     ·first | omega | (simp only; omega) | (dsimp only; omega)
    ·try rw [h8]
     try simp only [qB, Bool.and_eq_true, Bool.and_eq_false_iff, decide_eq_true_eq] at h8
     refine Qf fun K hK => Qa Z (Qa Z (hK _ _ (Qb (kp2 Z Z) ?_)))
     refine Qt (Qs (Qs (Q8 (Qs (Ql (ZT Z Z ?_))))))
     first | (rw [Qaq (s := s) (by first | (left; assumption) | (right; omega))]; exact ⟨rfl, rfl⟩) | (rw [YC (s := s) (by omega) (by assumption)]; exact ⟨rfl, rfl⟩) | (rw [Xo (s := s) (i := i) (by omega) (by simp [Yl]; omega)]; exact ⟨rfl, rfl⟩) | (rw [QbJ (s := s) (i := i) hJ (by omega) hI.2.1]; exact ⟨rfl, by simp [Qae, D.fz, D.fzS, D.can, D.canS]; omega⟩)
   ·try rw [h7]
    try simp only [qB, Bool.and_eq_true, Bool.and_eq_false_iff, decide_eq_true_eq] at h7
    refine Qz Z (Qz Z (Qo Z Z (Qa Z (hK _ _ (Qb (kp4 Z Z Z Z) ?_)))))
    refine Zu Z (Qf fun K hK => Qa Z (Qa Z (hK _ _ (Qb (kp2 Z Z) ?_))))
    refine Qt (Qs (Qs (Q8 (Qs (Ql (ZT Z Z ?_))))))
    first | (rw [Qaq (s := s) (by first | (left; assumption) | (right; omega))]; exact ⟨rfl, rfl⟩) | (rw [YC (s := s) (by omega) (by assumption)]; exact ⟨rfl, rfl⟩) | (rw [Xo (s := s) (i := i) (by omega) (by simp [Yl]; omega)]; exact ⟨rfl, rfl⟩) | (rw [QbJ (s := s) (i := i) hJ (by omega) hI.2.1]; exact ⟨rfl, by simp [Qae, D.fz, D.fzS, D.can, D.canS]; omega⟩)
  ·obtain ⟨cwh6, nwh6, hch6, hdh6⟩ := QiY h5 h6
   refine QiQ Z Z h5 hdh6 (Zh Z Z (hK _ _ (Qb (kp4 Z Z Z Z) ?_)))
   refine QG ?_ -- 2
   refine ZJ Z (Qw (Qd (kp3 Z Z Z) (QF (Qf fun K hK => Zh Z Z (Qa Z (hK _ _ (Qb (kp3 Z Z Z) ?_)))))))
   refine QF (Qf fun K hK => Qa Z (QjR Z Z (Qa Z ?_)))
   refine QB (g := 32) Z (fun h9 => ?_) (fun h9 => ?_)
   ·try rw [h9]
    try simp only [qB, Bool.and_eq_true, Bool.and_eq_false_iff, decide_eq_true_eq] at h9
    refine Qi Z (Qa Z (Qi Z (Qla Z Z (Qo Z Z (Qa Z (hK _ _ (Qb (kp4 Z Z Z Z) ?_)))))))
    refine Qy Z (fun h10 => ?_) (fun h10 => ?_)
    ·try rw [h10]
     try simp only [qB, Bool.and_eq_true, Bool.and_eq_false_iff, decide_eq_true_eq] at h10
     refine QY fun K hK => Qa Z (Qmy Z Z (by first | exact Qr (by omega) (by omega) | exact QH (by omega) (by omega) | exact QL (by omega) (by omega) | rfl) (Qa Z (Qb2 Z Z (by first | exact Qr (by omega) (by omega) | exact QH (by omega) (by omega) | exact QL (by omega) (by omega) | rfl) (Qfz Z (by first | exact Qr (by omega) (by omega) | exact QH (by omega) (by omega) | exact QL (by omega) (by omega) | rfl) (Za Z Z (by first | exact Qr (by omega) (by omega) | exact QH (by omega) (by omega) | exact QL (by omega) (by omega) | rfl) (Qa Z (hK _ ?_)))))))
     refine Qg (Qg ?_)
     refine Qj (i + 1) ?_ ?_ ?_
     ·first | exact Ze (l := [4, 25]) (lH := [25]) (kp2 rfl rfl) (Qe rfl Qq) rfl rfl rfl | exact Ze (l := [4, 25]) (lH := [25]) (kp2 rfl rfl) (Qe rfl Qq) (by rw [Qeg (by omega)]; simp; omega) rfl rfl | (exfalso; omega)
     ·first | exact ⟨by omega, Zg (by omega) hI.2.1 (by simp [Yl]; omega), hI.2.2⟩ | (exfalso; omega)
     ·first | omega | (simp only; omega) | (dsimp only; omega)
    ·try rw [h10]
     try simp only [qB, Bool.and_eq_true, Bool.and_eq_false_iff, decide_eq_true_eq] at h10
     refine Qf fun K hK => Qa Z (Qa Z (hK _ _ (Qb (kp2 Z Z) ?_)))
     refine Qt (Qs (Qs (Q8 (Qs (Ql (ZT Z Z ?_))))))
     first | (rw [Qaq (s := s) (by first | (left; assumption) | (right; omega))]; exact ⟨rfl, rfl⟩) | (rw [YC (s := s) (by omega) (by assumption)]; exact ⟨rfl, rfl⟩) | (rw [Xo (s := s) (i := i) (by omega) (by simp [Yl]; omega)]; exact ⟨rfl, rfl⟩) | (rw [QbJ (s := s) (i := i) hJ (by omega) hI.2.1]; exact ⟨rfl, by simp [Qae, D.fz, D.fzS, D.can, D.canS]; omega⟩)
   ·try rw [h9]
    try simp only [qB, Bool.and_eq_true, Bool.and_eq_false_iff, decide_eq_true_eq] at h9
    refine Qz Z (Qz Z (Qo Z Z (Qa Z (hK _ _ (Qb (kp4 Z Z Z Z) ?_)))))
    refine Zu Z (Qf fun K hK => Qa Z (Qa Z (hK _ _ (Qb (kp2 Z Z) ?_))))
    refine Qt (Qs (Qs (Q8 (Qs (Ql (ZT Z Z ?_))))))
    first | (rw [Qaq (s := s) (by first | (left; assumption) | (right; omega))]; exact ⟨rfl, rfl⟩) | (rw [YC (s := s) (by omega) (by assumption)]; exact ⟨rfl, rfl⟩) | (rw [Xo (s := s) (i := i) (by omega) (by simp [Yl]; omega)]; exact ⟨rfl, rfl⟩) | (rw [QbJ (s := s) (i := i) hJ (by omega) hI.2.1]; exact ⟨rfl, by simp [Qae, D.fz, D.fzS, D.can, D.canS]; omega⟩)
 ·refine Qg1 Z Z (by omega) (Zh Z Z (hK _ _ (Qb (kp4 Z Z Z Z) ?_)))
  refine QG ?_ -- 2
  refine Zu Z (Zi (QI (Qv (QC (Qd (kp1 Z) (Qf fun K hK => Qa Z (Qa Z (Qla Z Z (Qa Z (Qa Z ?_))))))))))
  refine hK _ _ (Qb (kp2 Z Z) ?_)
  refine Qt (ZT Z Z ?_)
  first | (rw [Qaq (s := s) (by first | (left; assumption) | (right; omega))]; exact ⟨rfl, rfl⟩) | (rw [YC (s := s) (by omega) (by assumption)]; exact ⟨rfl, rfl⟩) | (rw [Xo (s := s) (i := i) (by omega) (by simp [Yl]; omega)]; exact ⟨rfl, rfl⟩) | (rw [QbJ (s := s) (i := i) hJ (by omega) hI.2.1]; exact ⟨rfl, by simp [Qae, D.fz, D.fzS, D.can, D.canS]; omega⟩)
theorem Qaw {s : List UInt8} (hl : s.length <= 1000000) : Ok Tryz.prog 94 [.str s] (.bool (Qck s)) := by
 refine Ok.ofT ZZ Tryz.func94 Qqm (Nat.le_of_ble_eq_true Z) ?_
 show TW _ _ tf94.body _ _
 refine Qf fun K hK => Qa Z (hK _ _ (Qb (kp1 Z) ?_))
 refine QmB (Qf fun K hK => Qa Z (QD (XU (by omega)) Z Z (.inl Z) (Qa Z (hK _ _ (Qb (kp1 Z) ?_)))))
 refine Qf fun K hK => Qa Z (Q5 Z Z (Qla Z Z (Qa Z (hK _ _ (Qb (kp2 Z Z) ?_)))))
 refine QG ?_ -- 0
 refine Qw (Qd (kp2 Z Z) ?_)
 refine QG ?_ -- 1
 refine Qf fun K hK => Qa Z (Q5 Z Z (Qa Z (hK _ _ (Qb (kp4 Z Z Z Z) ?_))))
 refine QF ?_
 refine ZK (ι := Nat) (fun i => ⟨[(4, .bool (decide ((Q6 s 46).length <= 4))), (14, .sl (dStrs (Q6 s 46))), (15, .int .i64 (Q6 s 46).length), (16, .int .i64 i)], []⟩) (fun i => i <= (Q6 s 46).length /\ ((Q6 s 46).take i).all Qbn = true) (fun i => (Q6 s 46).length - i) 0 ?_ ?_ ?_
 ·exact Ze (l := [4, 14, 15, 16]) (kp4 rfl rfl rfl rfl) Qq (by simp [Qh]; omega) rfl rfl
 ·exact ⟨Nat.zero_le _, rfl⟩
 intro i hI
 have sl := Qdj (s := s) (c := 46)
 try dsimp only
 refine Qf fun K hK => YF Z Z (hK _ _ (Qb (kp5 Z Z Z Z Z) ?_))
 refine QG ?_ -- 2
 refine Qy Z (fun h1 => ?_) (fun h1 => ?_)
 ·try rw [h1]
  try simp only [qB, Qh] at h1
  refine Qw (Qd (kp4 Z Z Z Z) ?_)
  refine QG ?_ -- 3
  refine QF (Qf fun K hK => QS Z Z Z (by omega) (YU (by omega)) Z (QE Z Z Z (Qa Z (hK _ _ (Qb (kp5 Z Z Z Z Z) ?_)))))
  refine QG ?_ -- 4
  refine Qf fun K hK => Qa Z (QaF Z Z (Qa Z ?_))
  refine QB (g := 22) Z (fun h2 => ?_) (fun h2 => ?_)
  ·try rw [h2]
   try simp only [qB, Qh] at h2
   refine Qz Z (Qz Z (Qz Z (Qo Z Z (hK _ _ (Qb (kp6 Z Z Z Z Z Z) ?_)))))
   refine ZJ Z (Qf fun K hK => Qa Z (hK _ _ (Qb (kp1 Z) ?_)))
   refine Zi (QI (Zf (by decide) (QI (Qv (QC (Qd (kp1 Z) (Qf fun K hK => Qa Z (Qa Z (hK _ _ (Qb (kp1 Z) ?_))))))))))
   refine Qt (Qp Z ?_)
   first | exact (ZS (i := i) (by omega) (Xn (by first | (left; assumption) | (right; omega)))).symm | exact (ZS (i := i) (by omega) (Xm (Yd (i := j) (by omega) (by simp [ZQ]; omega)))).symm | exact (YQ (by omega) hI.2).symm
  ·try rw [h2]
   try simp only [qB, Qh] at h2
   refine Qi Z (Qa Z (Qi Z (Ym Z (Qi Z (Qcc Z Z (Qo Z Z (hK _ _ (Qb (kp6 Z Z Z Z Z Z) ?_))))))))
   refine Qy Z (fun h3 => ?_) (fun h3 => ?_)
   ·try rw [h3]
    try simp only [qB, Qh] at h3
    refine Qf fun K hK => Qa Z (hK _ _ (Qb (kp1 Z) ?_))
    refine Zi (QI (Zf (by decide) (QI (Qv (QC (Qd (kp1 Z) (Qf fun K hK => Qa Z (Qa Z (hK _ _ (Qb (kp1 Z) ?_))))))))))
    refine Qt (Qp Z ?_)
    first | exact (ZS (i := i) (by omega) (Xn (by first | (left; assumption) | (right; omega)))).symm | exact (ZS (i := i) (by omega) (Xm (Yd (i := j) (by omega) (by simp [ZQ]; omega)))).symm | exact (YQ (by omega) hI.2).symm
   ·try rw [h3]
    try simp only [qB, Qh] at h3
    refine Qw (Qd (kp5 Z Z Z Z Z) (Qf fun K hK => Qa Z (QjY Z Z (hK _ _ (Qb (kp5 Z Z Z Z Z) ?_)))))
    refine QF ?_
    have hlt : i < (Q6 s 46).length := by omega
    refine ZK (ι := Nat) (fun j => ⟨[(4, .bool (decide ((Q6 s 46).length <= 4))), (14, .sl (dStrs (Q6 s 46))), (15, .int .i64 (Q6 s 46).length), (16, .int .i64 i), (28, .ref 28 0 0)], [(28, ⟨[], 0, Zr ((Q6 s 46)[i]'hlt) j, false⟩)]⟩) (fun j => j <= ((Q6 s 46)[i]'hlt).length /\ (((Q6 s 46)[i]'hlt).take j).all ZQ = true) (fun j => ((Q6 s 46)[i]'hlt).length - j) 0 ?_ ?_ ?_
    ·first | exact Ze (l := [4, 14, 15, 16, 28]) (lH := [28]) (kp5 rfl rfl rfl rfl rfl) (Qe rfl Qq) rfl rfl rfl | (exfalso; omega)
    ·exact ⟨Nat.zero_le _, rfl⟩
    intro j hJ
    have hJ1 := hJ.1
    try dsimp only
    refine Qf fun K hK => ?_
    rcases Nat.lt_or_ge (j) (((Q6 s 46)[i]'hlt)).length with h4 | h4
    ·rcases Nat.lt_or_ge (((((Q6 s 46)[i]'hlt))[j]).toNat) 128 with h5 | h5
     ·refine QiQ Z Z h4 (Qhi h4 h5) (Zh Z Z (hK _ _ (Qb (kp7 Z Z Z Z Z Z Z) ?_)))
      refine QG ?_ -- 5
      refine ZJ Z (Qw (Qd (kp6 Z Z Z Z Z Z) (QF (Qf fun K hK => Zh Z Z (Qa Z (hK _ _ (Qb (kp6 Z Z Z Z Z Z) ?_)))))))
      refine Qf fun K hK => Qa Z (YF Z Z (Qa Z ?_))
      refine QB (g := 34) Z (fun h6 => ?_) (fun h6 => ?_)
      ·try rw [h6]
       try simp only [qB, Qh] at h6
       refine Qz Z (Qz Z (Qo Z Z (Qa Z (Qi Z (Qa Z (Qi Z (YF Z Z (Qi Z (Qa Z ?_)))))))))
       refine QB (g := 41) Z (fun h7 => ?_) (fun h7 => ?_)
       ·try rw [h7]
        try simp only [qB, Qh] at h7
        refine Qz Z (Qz Z (Qi Z (Qo Z Z (Qo Z Z (Qa Z (Qi Z (Qa Z (Qi Z (Xt Z Z (Qo Z Z (hK _ _ (Qb (kp6 Z Z Z Z Z Z) ?_))))))))))))
        refine Qy Z (fun h8 => ?_) (fun h8 => ?_)
        ·try rw [h8]
         try simp only [qB, Qh] at h8
         refine Qf fun K hK => Qa Z (hK _ _ (Qb (kp1 Z) ?_))
         refine Zi (Zf (by decide) (Qv (Zf (by decide) (Zf (by decide) (QI (Qv (QC (Qd (kp1 Z) (Qf fun K hK => Qa Z (Qa Z ?_))))))))))
         refine hK _ _ (Qb (kp1 Z) ?_)
         refine Qt (Qp Z ?_)
         first | exact (ZS (i := i) (by omega) (Xn (by first | (left; assumption) | (right; omega)))).symm | exact (ZS (i := i) (by omega) (Xm (Yd (i := j) (by omega) (by simp [ZQ]; omega)))).symm | exact (YQ (by omega) hI.2).symm
        ·try rw [h8]
         try simp only [qB, Qh] at h8
         refine Qw (Qg ?_)
         refine Qj (j + 1) ?_ ?_ ?_
         ·first | exact Ze (l := [4, 14, 15, 16, 28]) (lH := [28]) (kp5 rfl rfl rfl rfl rfl) (Qe rfl Qq) rfl rfl rfl | (exfalso; omega)
         ·first | exact ⟨by omega, Zg (by omega) hJ.2 (by simp [ZQ]; omega)⟩ | (exfalso; omega)
         ·first | omega | (simp only; omega) | (dsimp only; omega)
       ·try rw [h7]
        try simp only [qB, Qh] at h7
        refine Qi Z (Qa Z (Qi Z (Qcc Z Z (Qi Z (Qo Z Z (Qo Z Z (Qa Z ?_)))))))
        refine QB (g := 46) Z (fun h9 => ?_) (fun h9 => ?_)
        ·try rw [h9]
         try simp only [qB, Qh] at h9
         refine Qi Z (Qa Z (Qi Z (Xt Z Z (Qo Z Z (hK _ _ (Qb (kp6 Z Z Z Z Z Z) ?_))))))
         refine Qy Z (fun h10 => ?_) (fun h10 => ?_)
         ·try rw [h10]
          try simp only [qB, Qh] at h10
          refine Qf fun K hK => Qa Z (hK _ _ (Qb (kp1 Z) ?_))
          refine Zi (Zf (by decide) (Qv (Zf (by decide) (Zf (by decide) (QI (Qv (QC (Qd (kp1 Z) (Qf fun K hK => Qa Z (Qa Z ?_))))))))))
          refine hK _ _ (Qb (kp1 Z) ?_)
          refine Qt (Qp Z ?_)
          first | exact (ZS (i := i) (by omega) (Xn (by first | (left; assumption) | (right; omega)))).symm | exact (ZS (i := i) (by omega) (Xm (Yd (i := j) (by omega) (by simp [ZQ]; omega)))).symm | exact (YQ (by omega) hI.2).symm
         ·try rw [h10]
          try simp only [qB, Qh] at h10
          refine Qw (Qg ?_)
          refine Qj (j + 1) ?_ ?_ ?_
          ·first | exact Ze (l := [4, 14, 15, 16, 28]) (lH := [28]) (kp5 rfl rfl rfl rfl rfl) (Qe rfl Qq) rfl rfl rfl | (exfalso; omega)
          ·first | exact ⟨by omega, Zg (by omega) hJ.2 (by simp [ZQ]; omega)⟩ | (exfalso; omega)
          ·first | omega | (simp only; omega) | (dsimp only; omega)
        ·try rw [h9]
         try simp only [qB, Qh] at h9
         refine Qz Z (Qz Z (Qo Z Z (hK _ _ (Qb (kp6 Z Z Z Z Z Z) ?_))))
         refine Zu Z (Qw (Qg ?_))
         refine Qj (j + 1) ?_ ?_ ?_
         ·first | exact Ze (l := [4, 14, 15, 16, 28]) (lH := [28]) (kp5 rfl rfl rfl rfl rfl) (Qe rfl Qq) rfl rfl rfl | (exfalso; omega)
         ·first | exact ⟨by omega, Zg (by omega) hJ.2 (by simp [ZQ]; omega)⟩ | (exfalso; omega)
         ·first | omega | (simp only; omega) | (dsimp only; omega)
      ·try rw [h6]
       try simp only [qB, Qh] at h6
       refine Qi Z (Qa Z (Qi Z (Qcc Z Z (Qo Z Z (Qa Z ?_)))))
       refine QB (g := 38) Z (fun h11 => ?_) (fun h11 => ?_)
       ·try rw [h11]
        try simp only [qB, Qh] at h11
        refine Qi Z (Qa Z (Qi Z (YF Z Z (Qi Z (Qa Z ?_)))))
        refine QB (g := 41) Z (fun h12 => ?_) (fun h12 => ?_)
        ·try rw [h12]
         try simp only [qB, Qh] at h12
         refine Qz Z (Qz Z (Qi Z (Qo Z Z (Qo Z Z (Qa Z (Qi Z (Qa Z (Qi Z (Xt Z Z (Qo Z Z (hK _ _ (Qb (kp6 Z Z Z Z Z Z) ?_))))))))))))
         refine Qy Z (fun h13 => ?_) (fun h13 => ?_)
         ·try rw [h13]
          try simp only [qB, Qh] at h13
          refine Qf fun K hK => Qa Z (hK _ _ (Qb (kp1 Z) ?_))
          refine Zi (Zf (by decide) (Qv (Zf (by decide) (Zf (by decide) (QI (Qv (QC (Qd (kp1 Z) (Qf fun K hK => Qa Z (Qa Z ?_))))))))))
          refine hK _ _ (Qb (kp1 Z) ?_)
          refine Qt (Qp Z ?_)
          first | exact (ZS (i := i) (by omega) (Xn (by first | (left; assumption) | (right; omega)))).symm | exact (ZS (i := i) (by omega) (Xm (Yd (i := j) (by omega) (by simp [ZQ]; omega)))).symm | exact (YQ (by omega) hI.2).symm
         ·try rw [h13]
          try simp only [qB, Qh] at h13
          refine Qw (Qg ?_)
          refine Qj (j + 1) ?_ ?_ ?_
          ·first | exact Ze (l := [4, 14, 15, 16, 28]) (lH := [28]) (kp5 rfl rfl rfl rfl rfl) (Qe rfl Qq) rfl rfl rfl | (exfalso; omega)
          ·first | exact ⟨by omega, Zg (by omega) hJ.2 (by simp [ZQ]; omega)⟩ | (exfalso; omega)
          ·first | omega | (simp only; omega) | (dsimp only; omega)
        ·try rw [h12]
         try simp only [qB, Qh] at h12
         refine Qi Z (Qa Z (Qi Z (Qcc Z Z (Qi Z (Qo Z Z (Qo Z Z (Qa Z ?_)))))))
         refine QB (g := 46) Z (fun h14 => ?_) (fun h14 => ?_)
         ·try rw [h14]
          try simp only [qB, Qh] at h14
          refine Qi Z (Qa Z (Qi Z (Xt Z Z (Qo Z Z (hK _ _ (Qb (kp6 Z Z Z Z Z Z) ?_))))))
          refine Qy Z (fun h15 => ?_) (fun h15 => ?_)
          ·try rw [h15]
           try simp only [qB, Qh] at h15
           refine Qf fun K hK => Qa Z (hK _ _ (Qb (kp1 Z) ?_))
           refine Zi (Zf (by decide) (Qv (Zf (by decide) (Zf (by decide) (QI (Qv (QC (Qd (kp1 Z) (Qf fun K hK => Qa Z (Qa Z ?_))))))))))
           refine hK _ _ (Qb (kp1 Z) ?_)
           refine Qt (Qp Z ?_)
           first | exact (ZS (i := i) (by omega) (Xn (by first | (left; assumption) | (right; omega)))).symm | exact (ZS (i := i) (by omega) (Xm (Yd (i := j) (by omega) (by simp [ZQ]; omega)))).symm | exact (YQ (by omega) hI.2).symm
          ·try rw [h15]
           try simp only [qB, Qh] at h15
           refine Qw (Qg ?_)
           refine Qj (j + 1) ?_ ?_ ?_
           ·first | exact Ze (l := [4, 14, 15, 16, 28]) (lH := [28]) (kp5 rfl rfl rfl rfl rfl) (Qe rfl Qq) rfl rfl rfl | (exfalso; omega)
           ·first | exact ⟨by omega, Zg (by omega) hJ.2 (by simp [ZQ]; omega)⟩ | (exfalso; omega)
           ·first | omega | (simp only; omega) | (dsimp only; omega)
         ·try rw [h14]
          try simp only [qB, Qh] at h14
          refine Qz Z (Qz Z (Qo Z Z (hK _ _ (Qb (kp6 Z Z Z Z Z Z) ?_))))
          refine Zu Z (Qw (Qg ?_))
          refine Qj (j + 1) ?_ ?_ ?_
          ·first | exact Ze (l := [4, 14, 15, 16, 28]) (lH := [28]) (kp5 rfl rfl rfl rfl rfl) (Qe rfl Qq) rfl rfl rfl | (exfalso; omega)
          ·first | exact ⟨by omega, Zg (by omega) hJ.2 (by simp [ZQ]; omega)⟩ | (exfalso; omega)
          ·first | omega | (simp only; omega) | (dsimp only; omega)
       ·try rw [h11]
        try simp only [qB, Qh] at h11
        refine Qz Z (Qz Z (Qz Z (QX Z (QX Z (Qz Z (Qo Z Z (Qa Z (Qz Z (Qz Z (Qo Z Z (hK _ _ (Qb (kp6 Z Z Z Z Z Z) ?_))))))))))))
        refine Zu Z (Qw (Qg ?_))
        refine Qj (j + 1) ?_ ?_ ?_
        ·first | exact Ze (l := [4, 14, 15, 16, 28]) (lH := [28]) (kp5 rfl rfl rfl rfl rfl) (Qe rfl Qq) rfl rfl rfl | (exfalso; omega)
        ·first | exact ⟨by omega, Zg (by omega) hJ.2 (by simp [ZQ]; omega)⟩ | (exfalso; omega)
        ·first | omega | (simp only; omega) | (dsimp only; omega)
     ·obtain ⟨cwh5, nwh5, hch5, hdh5⟩ := QiY h4 h5
      refine QiQ Z Z h4 hdh5 (Zh Z Z (hK _ _ (Qb (kp7 Z Z Z Z Z Z Z) ?_)))
      refine QG ?_ -- 5
      refine ZJ Z (Qw (Qd (kp6 Z Z Z Z Z Z) (QF (Qf fun K hK => Zh Z Z (Qa Z (hK _ _ (Qb (kp6 Z Z Z Z Z Z) ?_)))))))
      refine Qf fun K hK => Qa Z (YF Z Z (Qa Z ?_))
      refine QB (g := 34) Z (fun h16 => ?_) (fun h16 => ?_)
      ·try rw [h16]
       try simp only [qB, Qh] at h16
       refine Qz Z (Qz Z (Qo Z Z (Qa Z (Qi Z (Qa Z (Qi Z (YF Z Z (Qi Z (Qa Z ?_)))))))))
       refine QB (g := 41) Z (fun h17 => ?_) (fun h17 => ?_)
       ·try rw [h17]
        try simp only [qB, Qh] at h17
        refine Qz Z (Qz Z (Qi Z (Qo Z Z (Qo Z Z (Qa Z (Qi Z (Qa Z (Qi Z (Xt Z Z (Qo Z Z (hK _ _ (Qb (kp6 Z Z Z Z Z Z) ?_))))))))))))
        refine Qy Z (fun h18 => ?_) (fun h18 => ?_)
        ·try rw [h18]
         try simp only [qB, Qh] at h18
         refine Qf fun K hK => Qa Z (hK _ _ (Qb (kp1 Z) ?_))
         refine Zi (Zf (by decide) (Qv (Zf (by decide) (Zf (by decide) (QI (Qv (QC (Qd (kp1 Z) (Qf fun K hK => Qa Z (Qa Z ?_))))))))))
         refine hK _ _ (Qb (kp1 Z) ?_)
         refine Qt (Qp Z ?_)
         first | exact (ZS (i := i) (by omega) (Xn (by first | (left; assumption) | (right; omega)))).symm | exact (ZS (i := i) (by omega) (Xm (Yd (i := j) (by omega) (by simp [ZQ]; omega)))).symm | exact (YQ (by omega) hI.2).symm
        ·try rw [h18]
         try simp only [qB, Qh] at h18
         refine Qw (Qg ?_)
         refine Qj (j + 1) ?_ ?_ ?_
         ·first | exact Ze (l := [4, 14, 15, 16, 28]) (lH := [28]) (kp5 rfl rfl rfl rfl rfl) (Qe rfl Qq) rfl rfl rfl | (exfalso; omega)
         ·first | exact ⟨by omega, Zg (by omega) hJ.2 (by simp [ZQ]; omega)⟩ | (exfalso; omega)
         ·first | omega | (simp only; omega) | (dsimp only; omega)
       ·try rw [h17]
        try simp only [qB, Qh] at h17
        refine Qi Z (Qa Z (Qi Z (Qcc Z Z (Qi Z (Qo Z Z (Qo Z Z (Qa Z ?_)))))))
        refine QB (g := 46) Z (fun h19 => ?_) (fun h19 => ?_)
        ·try rw [h19]
         try simp only [qB, Qh] at h19
         refine Qi Z (Qa Z (Qi Z (Xt Z Z (Qo Z Z (hK _ _ (Qb (kp6 Z Z Z Z Z Z) ?_))))))
         refine Qy Z (fun h20 => ?_) (fun h20 => ?_)
         ·try rw [h20]
          try simp only [qB, Qh] at h20
          refine Qf fun K hK => Qa Z (hK _ _ (Qb (kp1 Z) ?_))
          refine Zi (Zf (by decide) (Qv (Zf (by decide) (Zf (by decide) (QI (Qv (QC (Qd (kp1 Z) (Qf fun K hK => Qa Z (Qa Z ?_))))))))))
          refine hK _ _ (Qb (kp1 Z) ?_)
          refine Qt (Qp Z ?_)
          first | exact (ZS (i := i) (by omega) (Xn (by first | (left; assumption) | (right; omega)))).symm | exact (ZS (i := i) (by omega) (Xm (Yd (i := j) (by omega) (by simp [ZQ]; omega)))).symm | exact (YQ (by omega) hI.2).symm
         ·try rw [h20]
          try simp only [qB, Qh] at h20
          refine Qw (Qg ?_)
          refine Qj (j + 1) ?_ ?_ ?_
          ·first | exact Ze (l := [4, 14, 15, 16, 28]) (lH := [28]) (kp5 rfl rfl rfl rfl rfl) (Qe rfl Qq) rfl rfl rfl | (exfalso; omega)
          ·first | exact ⟨by omega, Zg (by omega) hJ.2 (by simp [ZQ]; omega)⟩ | (exfalso; omega)
          ·first | omega | (simp only; omega) | (dsimp only; omega)
        ·try rw [h19]
         try simp only [qB, Qh] at h19
         refine Qz Z (Qz Z (Qo Z Z (hK _ _ (Qb (kp6 Z Z Z Z Z Z) ?_))))
         refine Zu Z (Qw (Qg ?_))
         refine Qj (j + 1) ?_ ?_ ?_
         ·first | exact Ze (l := [4, 14, 15, 16, 28]) (lH := [28]) (kp5 rfl rfl rfl rfl rfl) (Qe rfl Qq) rfl rfl rfl | (exfalso; omega)
         ·first | exact ⟨by omega, Zg (by omega) hJ.2 (by simp [ZQ]; omega)⟩ | (exfalso; omega)
         ·first | omega | (simp only; omega) | (dsimp only; omega)
      ·try rw [h16]
       try simp only [qB, Qh] at h16
       refine Qi Z (Qa Z (Qi Z (Qcc Z Z (Qo Z Z (Qa Z ?_)))))
       refine QB (g := 38) Z (fun h21 => ?_) (fun h21 => ?_)
       ·try rw [h21]
        try simp only [qB, Qh] at h21
        refine Qi Z (Qa Z (Qi Z (YF Z Z (Qi Z (Qa Z ?_)))))
        refine QB (g := 41) Z (fun h22 => ?_) (fun h22 => ?_)
        ·try rw [h22]
         try simp only [qB, Qh] at h22
         refine Qz Z (Qz Z (Qi Z (Qo Z Z (Qo Z Z (Qa Z (Qi Z (Qa Z (Qi Z (Xt Z Z (Qo Z Z (hK _ _ (Qb (kp6 Z Z Z Z Z Z) ?_))))))))))))
         refine Qy Z (fun h23 => ?_) (fun h23 => ?_)
         ·try rw [h23]
          try simp only [qB, Qh] at h23
          refine Qf fun K hK => Qa Z (hK _ _ (Qb (kp1 Z) ?_))
          refine Zi (Zf (by decide) (Qv (Zf (by decide) (Zf (by decide) (QI (Qv (QC (Qd (kp1 Z) (Qf fun K hK => Qa Z (Qa Z ?_))))))))))
          refine hK _ _ (Qb (kp1 Z) ?_)
          refine Qt (Qp Z ?_)
          first | exact (ZS (i := i) (by omega) (Xn (by first | (left; assumption) | (right; omega)))).symm | exact (ZS (i := i) (by omega) (Xm (Yd (i := j) (by omega) (by simp [ZQ]; omega)))).symm | exact (YQ (by omega) hI.2).symm
         ·try rw [h23]
          try simp only [qB, Qh] at h23
          refine Qw (Qg ?_)
          refine Qj (j + 1) ?_ ?_ ?_
          ·first | exact Ze (l := [4, 14, 15, 16, 28]) (lH := [28]) (kp5 rfl rfl rfl rfl rfl) (Qe rfl Qq) rfl rfl rfl | (exfalso; omega)
          ·first | exact ⟨by omega, Zg (by omega) hJ.2 (by simp [ZQ]; omega)⟩ | (exfalso; omega)
          ·first | omega | (simp only; omega) | (dsimp only; omega)
        ·try rw [h22]
         try simp only [qB, Qh] at h22
         refine Qi Z (Qa Z (Qi Z (Qcc Z Z (Qi Z (Qo Z Z (Qo Z Z (Qa Z ?_)))))))
         refine QB (g := 46) Z (fun h24 => ?_) (fun h24 => ?_)
         ·try rw [h24]
          try simp only [qB, Qh] at h24
          refine Qi Z (Qa Z (Qi Z (Xt Z Z (Qo Z Z (hK _ _ (Qb (kp6 Z Z Z Z Z Z) ?_))))))
          refine Qy Z (fun h25 => ?_) (fun h25 => ?_)
          ·try rw [h25]
           try simp only [qB, Qh] at h25
           refine Qf fun K hK => Qa Z (hK _ _ (Qb (kp1 Z) ?_))
           refine Zi (Zf (by decide) (Qv (Zf (by decide) (Zf (by decide) (QI (Qv (QC (Qd (kp1 Z) (Qf fun K hK => Qa Z (Qa Z ?_))))))))))
           refine hK _ _ (Qb (kp1 Z) ?_)
           refine Qt (Qp Z ?_)
           first | exact (ZS (i := i) (by omega) (Xn (by first | (left; assumption) | (right; omega)))).symm | exact (ZS (i := i) (by omega) (Xm (Yd (i := j) (by omega) (by simp [ZQ]; omega)))).symm | exact (YQ (by omega) hI.2).symm
          ·try rw [h25]
           try simp only [qB, Qh] at h25
           refine Qw (Qg ?_)
           refine Qj (j + 1) ?_ ?_ ?_
           ·first | exact Ze (l := [4, 14, 15, 16, 28]) (lH := [28]) (kp5 rfl rfl rfl rfl rfl) (Qe rfl Qq) rfl rfl rfl | (exfalso; omega)
           ·first | exact ⟨by omega, Zg (by omega) hJ.2 (by simp [ZQ]; omega)⟩ | (exfalso; omega)
           ·first | omega | (simp only; omega) | (dsimp only; omega)
         ·try rw [h24]
          try simp only [qB, Qh] at h24
          refine Qz Z (Qz Z (Qo Z Z (hK _ _ (Qb (kp6 Z Z Z Z Z Z) ?_))))
          refine Zu Z (Qw (Qg ?_))
          refine Qj (j + 1) ?_ ?_ ?_
          ·first | exact Ze (l := [4, 14, 15, 16, 28]) (lH := [28]) (kp5 rfl rfl rfl rfl rfl) (Qe rfl Qq) rfl rfl rfl | (exfalso; omega)
          ·first | exact ⟨by omega, Zg (by omega) hJ.2 (by simp [ZQ]; omega)⟩ | (exfalso; omega)
          ·first | omega | (simp only; omega) | (dsimp only; omega)
       ·try rw [h21]
        try simp only [qB, Qh] at h21
        refine Qz Z (Qz Z (Qz Z (QX Z (QX Z (Qz Z (Qo Z Z (Qa Z (Qz Z (Qz Z (Qo Z Z (hK _ _ (Qb (kp6 Z Z Z Z Z Z) ?_))))))))))))
        refine Zu Z (Qw (Qg ?_))
        refine Qj (j + 1) ?_ ?_ ?_
        ·first | exact Ze (l := [4, 14, 15, 16, 28]) (lH := [28]) (kp5 rfl rfl rfl rfl rfl) (Qe rfl Qq) rfl rfl rfl | (exfalso; omega)
        ·first | exact ⟨by omega, Zg (by omega) hJ.2 (by simp [ZQ]; omega)⟩ | (exfalso; omega)
        ·first | omega | (simp only; omega) | (dsimp only; omega)
    ·refine Qg1 Z Z (by omega) (Zh Z Z (hK _ _ (Qb (kp7 Z Z Z Z Z Z Z) ?_)))
     refine QG ?_ -- 5
     refine Zu Z (Zi (QI (Qv (QC (Qg (Qd (kp4 Z Z Z Z) (QY fun K hK => Za Z Z (by first | exact Qr (by omega) (by omega) | exact QH (by omega) (by omega) | exact QL (by omega) (by omega) | rfl) (Qa Z (hK _ ?_)))))))))
     refine Qj (i + 1) ?_ ?_ ?_
     ·exact Ze (l := [4, 14, 15, 16]) (kp4 rfl rfl rfl rfl) Qq rfl rfl rfl
     ·exact ⟨by omega, Zg (by omega) hI.2 (Qm0 (by assumption) (by omega) (Xa (by omega) hJ.2))⟩
     ·first | omega | (simp only; omega) | (dsimp only; omega)
 ·try rw [h1]
  try simp only [qB, Qh] at h1
  refine Zi (QI (Qv (QC (Qd (kp1 Z) (Qf fun K hK => Qa Z (Qa Z (hK _ _ (Qb (kp1 Z) ?_))))))))
  refine Qt (Qp Z ?_)
  first | exact (ZS (i := i) (by omega) (Xn (by first | (left; assumption) | (right; omega)))).symm | exact (ZS (i := i) (by omega) (Xm (Yd (i := j) (by omega) (by simp [ZQ]; omega)))).symm | exact (YQ (by omega) hI.2).symm
end Go.Proofs
namespace Go.Proofs
open Go Go.Abs M3
set_option linter.unusedVariables false
set_option linter.unusedSimpArgs false
theorem Qgc {a b : List UInt8} (ha : a.length <= 1000000) (hb : b.length <= 1000000) : Ok Tryz.prog 76 [.str a, .str b] (.int .i64 (Qfu a b)) := by
 refine Ok.ofT ZZ Tryz.func76 Qp6 (Nat.le_of_ble_eq_true Z) ?_
 show TW _ _ tf76.body _ _
 refine Qf fun K hK => Qa Z (hK _ _ (Qb (kp2 Z Z) ?_))
 refine Qf fun K hK => Qa Z (QD (Xw (by omega)) Z Z (.inr Z) (Qa Z (QD (Xw (by omega)) Z Z (.inr Z) (Qa Z (Qa Z (hK _ _ (Qb (kp4 Z Z Z Z) ?_)))))))
 refine QG ?_ -- 0
 refine Qf fun K hK => Qa Z (Qa Z ?_)
 refine QB (g := 16) Z (fun h1 => ?_) (fun h1 => ?_)
 ·try rw [h1]
  try simp only [qB] at h1
  refine Qi Z (Qa Z (Qo Z Z (hK _ _ (Qb (kp5 Z Z Z Z Z) ?_))))
  refine Qy Z (fun h2 => ?_) (fun h2 => ?_)
  ·try rw [h2]
   try simp only [qB] at h2
   refine Qf fun K hK => Qa Z (QD (Qau (by omega)) Z Z (.inr Z) (Qa Z (Zh Z Z (Zh Z Z (Qa Z (Qa Z (hK _ _ (Qb (kp2 Z Z) ?_))))))))
   refine Qf fun K hK => Qa Z (QD (Qau (by omega)) Z Z (.inr Z) (Qa Z (Zh Z Z (Zh Z Z (Qa Z (Qa Z (hK _ _ (Qb (kp2 Z Z) ?_))))))))
   refine Qf fun K hK => Qa Z (Qa Z (QD (Z3) Z Z (.inr Z) (Qa Z (hK _ _ (Qb (kp1 Z) ?_)))))
   refine Qt (Ql (Qu Z ?_))
   (repeat clear hK K); first | (simp [Qfu, h1, h2]; done) | (simp_all [Qfu]; done)
  ·try rw [h2]
   try simp only [qB] at h2
   refine Qw (Qd (kp4 Z Z Z Z) ?_)
   refine QG ?_ -- 1
   refine Qf fun K hK => Qa Z (Qa Z (QnF Z Z (hK _ _ (Qb (kp4 Z Z Z Z) ?_))))
   refine Qy Z (fun h3 => ?_) (fun h3 => ?_)
   ·try rw [h3]
    try simp only [qB] at h3
    refine QG ?_ -- 2
    refine Qf fun K hK => Qa Z (hK _ _ (Qb (kp1 Z) ?_))
    refine ZJ Z (Qf fun K hK => Qa Z (hK _ _ (Qb (kp1 Z) ?_)))
    refine Qt (Ql (Ql (Qu Z ?_)))
    (repeat clear hK K); first | (simp [Qfu, h1, h2, h3]; done) | (simp_all [Qfu]; done)
   ·try rw [h3]
    try simp only [qB] at h3
    refine Qw (Qd (kp2 Z Z) (Qf fun K hK => Qa Z (Qa Z (QD (XL) Z Z (.inr Z) (Qa Z (hK _ _ (Qb (kp1 Z) ?_)))))))
    refine Qt (Qu Z ?_)
    (repeat clear hK K); first | (simp [Qfu, h1, h2, h3]; done) | (simp_all [Qfu]; done)
 ·try rw [h1]
  try simp only [qB] at h1
  refine Qz Z (Qo Z Z (hK _ _ (Qb (kp5 Z Z Z Z Z) ?_)))
  refine Zu Z (Qw (Qd (kp4 Z Z Z Z) ?_))
  refine QG ?_ -- 1
  refine Qf fun K hK => Qa Z (Qa Z (QnF Z Z (hK _ _ (Qb (kp4 Z Z Z Z) ?_))))
  refine Qy Z (fun h4 => ?_) (fun h4 => ?_)
  ·try rw [h4]
   try simp only [qB] at h4
   refine QG ?_ -- 2
   refine Qf fun K hK => Qa Z (hK _ _ (Qb (kp1 Z) ?_))
   refine Zu Z (Qw (Qd (QQ) (Qf fun K hK => Qa Z (hK _ _ (Qb (kp1 Z) ?_)))))
   refine Qt (Ql (Qu Z ?_))
   (repeat clear hK K); first | (simp [Qfu, h1, h4]; done) | (simp_all [Qfu]; done)
  ·try rw [h4]
   try simp only [qB] at h4
   refine Qw (Qd (kp2 Z Z) (Qf fun K hK => Qa Z (Qa Z (QD (XL) Z Z (.inr Z) (Qa Z (hK _ _ (Qb (kp1 Z) ?_)))))))
   refine Qt (Qu Z ?_)
   (repeat clear hK K); first | (simp [Qfu, h1, h4]; done) | (simp_all [Qfu]; done)
theorem Qgb {s : List UInt8} (hl : s.length <= 1000000) : Ok Tryz.prog 93 [.str s] (.bool (Qfv s)) := by
 refine Ok.ofT ZZ Tryz.func93 Qql (Nat.le_of_ble_eq_true Z) ?_
 show TW _ _ tf93.body _ _
 refine Qf fun K hK => Qa Z (hK _ _ (Qb (kp1 Z) ?_))
 refine QG ?_ -- 0
 refine Qf fun K hK => Qa Z (QD (Qaw (by omega)) Z Z (.inr Z) (Yn Z (hK _ _ (Qb (kp2 Z Z) ?_))))
 refine Qy Z (fun h1 => ?_) (fun h1 => ?_)
 ·try rw [h1]
  try simp only [qB, Qh] at h1
  refine Qf fun K hK => Qa Z (hK _ _ (Qb (kp1 Z) ?_))
  refine Qt (Ql (Qp Z ?_))
  first | (simp [Qfv, h1]; done) | exact (Qiw (i := i) (by omega) (by simp [QdY, h1])).symm | exact (QgB (i := i) (by assumption) (by omega) hI.2).symm
 ·try rw [h1]
  try simp only [qB, Qh] at h1
  refine Qw (Qd (kp1 Z) ?_)
  refine QG ?_ -- 1
  refine Qf fun K hK => Qa Z (QD (XU (by omega)) Z Z (.inl Z) (Q5 Z Z (Qa Z (hK _ _ (Qb (kp3 Z Z Z) ?_)))))
  refine QF ?_
  refine ZK (ι := Nat) (fun i => ⟨[(11, .sl (dStrs (Q6 s 46))), (12, .int .i64 (Q6 s 46).length), (13, .int .i64 i)], []⟩) (fun i => i <= (Q6 s 46).length /\ ((Q6 s 46).take i).all QdY = true) (fun i => (Q6 s 46).length - i) 0 ?_ ?_ ?_
  ·exact Ze (l := [11, 12, 13]) (kp3 rfl rfl rfl) Qq (by simp [Qh]) rfl rfl
  ·exact ⟨Nat.zero_le _, rfl⟩
  intro i hI
  have sl := Qdj (s := s) (c := 46)
  try dsimp only
  refine Qf fun K hK => YF Z Z (hK _ _ (Qb (kp4 Z Z Z Z) ?_))
  refine QG ?_ -- 2
  refine Qy Z (fun h2 => ?_) (fun h2 => ?_)
  ·try rw [h2]
   try simp only [qB, Qh] at h2
   refine Qw (Qd (kp3 Z Z Z) ?_)
   refine QG ?_ -- 3
   refine QF (Qf fun K hK => QS Z Z Z (by omega) (YU (by omega)) Z (QE Z Z Z (Qa Z (hK _ _ (Qb (kp4 Z Z Z Z) ?_)))))
   refine Qf fun K hK => Qa Z (QD (Qau (X0 (by omega) hl)) Z Z (.inr Z) (Qa Z (Zh Z Z (Zh Z Z (Qa Z (Qa Z (hK _ _ (Qb (kp5 Z Z Z Z Z) ?_))))))))
   refine Qf fun K hK => Qa Z (QD (Xw (X0 (by omega) hl)) Z Z (.inr Z) (Qa Z ?_))
   refine QB (g := 24) Z (fun h3 => ?_) (fun h3 => ?_)
   ·try rw [h3]
    try simp only [qB, Qh] at h3
    refine Qi Z (Qa Z (Qi Z (Yn Z (Qo Z Z (hK _ _ (Qb (kp4 Z Z Z Z) ?_))))))
    refine Qy Z (fun h4 => ?_) (fun h4 => ?_)
    ·try rw [h4]
     try simp only [qB, Qh] at h4
     refine Qf fun K hK => Qa Z (hK _ _ (Qb (kp1 Z) ?_))
     refine Qt (Qs (Ql (Q8 (Qs (Ql (Qp Z ?_))))))
     first | (simp [Qfv, h1, h2, h3, h4]; done) | exact (Qiw (i := i) (by omega) (by simp [QdY, h1, h2, h3, h4])).symm | exact (QgB (i := i) (by assumption) (by omega) hI.2).symm
    ·try rw [h4]
     try simp only [qB, Qh] at h4
     refine Qw (Qg (Qd (kp3 Z Z Z) (QY fun K hK => Za Z Z (by first | exact Qr (by omega) (by omega) | exact QH (by omega) (by omega) | exact QL (by omega) (by omega) | rfl) (Qa Z (hK _ ?_)))))
     refine Qj (i + 1) ?_ ?_ ?_
     ·exact QV (kp3 rfl rfl rfl)
     ·exact ⟨by omega, Zg (by omega) hI.2 (by simp [QdY, h1, h2, h3, h4])⟩
     ·first | omega | (simp only; omega) | (dsimp only; omega)
   ·try rw [h3]
    try simp only [qB, Qh] at h3
    refine Qz Z (Qz Z (Qo Z Z (hK _ _ (Qb (kp4 Z Z Z Z) ?_))))
    refine Zu Z (Qw (Qg (Qd (kp3 Z Z Z) (QY fun K hK => Za Z Z (by first | exact Qr (by omega) (by omega) | exact QH (by omega) (by omega) | exact QL (by omega) (by omega) | rfl) (Qa Z (hK _ ?_))))))
    refine Qj (i + 1) ?_ ?_ ?_
    ·exact QV (kp3 rfl rfl rfl)
    ·exact ⟨by omega, Zg (by omega) hI.2 (by simp [QdY, h1, h2, h3])⟩
    ·first | omega | (simp only; omega) | (dsimp only; omega)
  ·try rw [h2]
   try simp only [qB, Qh] at h2
   refine Zi (QI (Qv (QC (Qd (QQ) (Qf fun K hK => Qa Z (hK _ _ (Qb (kp1 Z) ?_)))))))
   refine Qt (Qp Z ?_)
   first | (simp [Qfv, h1, h2]; done) | exact (Qiw (i := i) (by omega) (by simp [QdY, h1, h2])).symm | exact (QgB (i := i) (by assumption) (by omega) hI.2).symm
theorem QcO {a b c : Int} {p q : List UInt8} (hp : p.length <= 1000000) (hq : q.length <= 1000000) : Ok Tryz.prog 71 [.agg [.int .i64 a, .int .i64 b, .int .i64 c, .str p, .str q]] (.bool (Qbm a b c p q)) := by
 refine Ok.ofT ZZ Tryz.func71 Qp1 (Nat.le_of_ble_eq_true Z) ?_
 show TW _ _ tf71.body _ _
 refine Qf fun K hK => ZH Z Z Z (Qa Z (hK _ _ (Qb (kp1 Z) ?_)))
 refine Qf fun K hK => Qm Z Z (QE Z Z Z (QD (Qav) Z Z (.inr Z) (Qa Z ?_)))
 refine QB (g := 6) Z (fun h1 => ?_) (fun h1 => ?_)
 ·try rw [h1]
  try simp only [qB] at h1
  refine Qi Z (Qm Z Z (Qi Z (QE Z Z Z (Qi Z (QD (Qav) Z Z (.inr Z) (Qo Z Z (Qa Z ?_)))))))
  refine QB (g := 11) Z (fun h2 => ?_) (fun h2 => ?_)
  ·try rw [h2]
   try simp only [qB] at h2
   refine Qi Z (Qm Z Z (Qi Z (QE Z Z Z (Qi Z (QD (Qav) Z Z (.inr Z) (Qo Z Z (Qa Z ?_)))))))
   refine QB (g := 16) Z (fun h3 => ?_) (fun h3 => ?_)
   ·try rw [h3]
    try simp only [qB] at h3
    refine Qi Z (Qm Z Z (Qi Z (QE Z Z Z (Qi Z (QaF Z Z (Qi Z (Qa Z ?_)))))))
    refine QB (g := 20) Z (fun h4 => ?_) (fun h4 => ?_)
    ·try rw [h4]
     try simp only [qB] at h4
     refine Qz Z (Qz Z (Qz Z (Qi Z (Qo Z Z (Qo Z Z (Qa Z (Qi Z (Qm Z Z (Qi Z (QE Z Z Z (Qi Z ?_)))))))))))
     refine QaF Z Z (Qi Z (Qa Z ?_))
     refine QB (g := 30) Z (fun h5 => ?_) (fun h5 => ?_)
     ·try rw [h5]
      try simp only [qB] at h5
      refine Qz Z (Qz Z (Qz Z (Qi Z (Qo Z Z (Qo Z Z (Qa Z (hK _ _ (Qb (kp1 Z) ?_))))))))
      refine Qt (Qp Z ?_)
      simp [Qbm, YN, Xf, h1, h2, h3, h4, h5]
     ·try rw [h5]
      try simp only [qB] at h5
      refine Qi Z (Qm Z Z (Qi Z (QE Z Z Z (Qi Z (QD (Qaw (by omega)) Z Z (.inr Z) (Qi Z (Qo Z Z (Qo Z Z (Qa Z (hK _ _ (Qb (kp1 Z) ?_)))))))))))
      refine Qt (Qp Z ?_)
      simp [Qbm, YN, Xf, h1, h2, h3, h4, h5]
    ·try rw [h4]
     try simp only [qB] at h4
     refine Qi Z (Qm Z Z (Qi Z (QE Z Z Z (Qi Z (QD (Qgb (by omega)) Z Z (.inr Z) (Qi Z (Qo Z Z (Qo Z Z (Qa Z ?_)))))))))
     refine QB (g := 26) Z (fun h6 => ?_) (fun h6 => ?_)
     ·try rw [h6]
      try simp only [qB] at h6
      refine Qi Z (Qm Z Z (Qi Z (QE Z Z Z (Qi Z (QaF Z Z (Qi Z (Qa Z ?_)))))))
      refine QB (g := 30) Z (fun h7 => ?_) (fun h7 => ?_)
      ·try rw [h7]
       try simp only [qB] at h7
       refine Qz Z (Qz Z (Qz Z (Qi Z (Qo Z Z (Qo Z Z (Qa Z (hK _ _ (Qb (kp1 Z) ?_))))))))
       refine Qt (Qp Z ?_)
       simp [Qbm, YN, Xf, h1, h2, h3, h4, h6, h7]
      ·try rw [h7]
       try simp only [qB] at h7
       refine Qi Z (Qm Z Z (Qi Z (QE Z Z Z (Qi Z (QD (Qaw (by omega)) Z Z (.inr Z) (Qi Z (Qo Z Z (Qo Z Z (Qa Z (hK _ _ (Qb (kp1 Z) ?_)))))))))))
       refine Qt (Qp Z ?_)
       simp [Qbm, YN, Xf, h1, h2, h3, h4, h6, h7]
     ·try rw [h6]
      try simp only [qB] at h6
      refine Qz Z (Qz Z (Qz Z (Qz Z (QX Z (QX Z (QX Z (Qz Z (Qo Z Z (Qa Z (hK _ _ (Qb (kp1 Z) ?_)))))))))))
      refine Qt (Qp Z ?_)
      simp [Qbm, YN, Xf, h1, h2, h3, h4, h6]
   ·try rw [h3]
    try simp only [qB] at h3
    refine Qz Z (Qz Z (Qz Z (Qz Z (QX Z (QX Z (QX Z (Qz Z (Qo Z Z (Qa Z (Qz Z (Qz Z ?_)))))))))))
    refine Qz Z (Qz Z (QX Z (QX Z (QX Z (Qz Z (Qo Z Z (Qa Z (hK _ _ (Qb (kp1 Z) ?_)))))))))
    refine Qt (Qp Z ?_)
    simp [Qbm, YN, Xf, h1, h2, h3]
  ·try rw [h2]
   try simp only [qB] at h2
   refine Qz Z (Qz Z (Qz Z (Qo Z Z (Qa Z (Qz Z (Qz Z (Qz Z (Qz Z (QX Z (QX Z (QX Z ?_)))))))))))
   refine Qz Z (Qo Z Z (Qa Z (Qz Z (Qz Z (Qz Z (Qz Z (QX Z (QX Z (QX Z (Qz Z (Qo Z Z ?_)))))))))))
   refine Qa Z (hK _ _ (Qb (kp1 Z) ?_))
   refine Qt (Qp Z ?_)
   simp [Qbm, YN, Xf, h1, h2]
 ·try rw [h1]
  try simp only [qB] at h1
  refine Qz Z (Qz Z (Qz Z (Qo Z Z (Qa Z (Qz Z (Qz Z (Qz Z (Qo Z Z (Qa Z (Qz Z (Qz Z ?_)))))))))))
  refine Qz Z (Qz Z (QX Z (QX Z (QX Z (Qz Z (Qo Z Z (Qa Z (Qz Z (Qz Z (Qz Z (Qz Z ?_)))))))))))
  refine QX Z (QX Z (QX Z (Qz Z (Qo Z Z (Qa Z (hK _ _ (Qb (kp1 Z) ?_)))))))
  refine Qt (Qp Z ?_)
  simp [Qbm, YN, Xf, h1]
theorem Qdr {a b c : Int} {p q : List UInt8} (hp : p.length <= 1000000) (hq : q.length <= 1000000) {a' b' c' : Int} {p' q' : List UInt8} (hp' : p'.length <= 1000000) (hq' : q'.length <= 1000000) : Ok Tryz.prog 42 [.agg [.int .i64 a, .int .i64 b, .int .i64 c, .str p, .str q], .agg [.int .i64 a', .int .i64 b', .int .i64 c', .str p', .str q']] (.int .i64 (Qcu a b c p q a' b' c' p' q')) := by
 refine Ok.ofT ZZ Tryz.func42 QpB (Nat.le_of_ble_eq_true Z) ?_
 show TW _ _ tf42.body _ _
 refine Qf fun K hK => ZH Z Z Z (ZH Z Z Z (Qa Z (hK _ _ (Qb (kp2 Z Z) ?_))))
 refine QG ?_ -- 0
 refine Qf fun K hK => QO (ds0 := [13, 12, 11, 10, 9, 8, 7, 6, 5, 4, 3, 2, 1, 0]) (cs := [_, _, _, _, _]) Z Z Z Z Z Z (Q4 (ds0 := [12, 11, 10, 9, 8, 7, 6, 5, 4, 3, 2, 1, 0]) (QcO (by omega) (by omega)) Z Z (.inr Z) Z Z (Yn Z (Qa Z ?_)))
 refine QB (g := 13) Z (fun h1 => ?_) (fun h1 => ?_)
 ·try rw [h1]
  try simp only [qB, Qh] at h1
  refine Qz Z (Qz Z (Qz Z (Qo Z Z (Qa Z (Qz Z (Qz Z (Qz Z (Qz Z (Qz Z (Qo Z Z (hK _ _ (Qb (kp3 Z Z Z) ?_))))))))))))
  refine ZJ Z (Qf fun K hK => Qa Z (hK _ _ (Qb (kp1 Z) ?_)))
  refine Qt (Ql (Qu Z ?_))
  first | (simp [Qcu, h1]; done) | (exact (QcS (by assumption) (by assumption) (by assumption)).symm) | (exact QaT (by assumption) (by assumption) (by assumption)) | (exact (XW (by assumption) (by assumption) (by assumption) (by assumption) (by assumption)).symm) | (exact (XX (by assumption) (by assumption) (by assumption) (by assumption) (by assumption)).symm) | (rw [hI.2.2, Ys (by omega) (by omega) (by assumption)]) | (rw [hI.2.2, Yr (by omega) (by omega) (by omega)]; simp [Qh])
 ·try rw [h1]
  try simp only [qB, Qh] at h1
  refine Qi Z (QO (ds0 := [9, 8, 7, 6, 5, 4, 3, 2, 1, 0]) (cs := [_, _, _, _, _]) Z Z Z Z Z Z (Qi Z (Q4 (ds0 := [8, 7, 6, 5, 4, 3, 2, 1, 0]) (QcO (by omega) (by omega)) Z Z (.inr Z) Z Z (Qi Z (Yn Z (Qo Z Z (Qa Z ?_)))))))
  refine QB (g := 18) Z (fun h2 => ?_) (fun h2 => ?_)
  ·try rw [h2]
   try simp only [qB, Qh] at h2
   refine Qz Z (Qz Z (Qz Z (Qz Z (Qz Z (Qo Z Z (hK _ _ (Qb (kp3 Z Z Z) ?_)))))))
   refine ZJ Z (Qf fun K hK => Qa Z (hK _ _ (Qb (kp1 Z) ?_)))
   refine Qt (Ql (Qu Z ?_))
   first | (simp [Qcu, h1, h2]; done) | (exact (QcS (by assumption) (by assumption) (by assumption)).symm) | (exact QaT (by assumption) (by assumption) (by assumption)) | (exact (XW (by assumption) (by assumption) (by assumption) (by assumption) (by assumption)).symm) | (exact (XX (by assumption) (by assumption) (by assumption) (by assumption) (by assumption)).symm) | (rw [hI.2.2, Ys (by omega) (by omega) (by assumption)]) | (rw [hI.2.2, Yr (by omega) (by omega) (by omega)]; simp [Qh])
  ·try rw [h2]
   try simp only [qB, Qh] at h2
   refine Qi Z (QO (ds0 := [4, 1, 0]) (cs := [_, _, _, _, _]) Z Z Z Z Z Z (Qi Z (Q4 (ds0 := [1, 0]) (Qce) Z Z (.inl Z) Z Z (Qi Z (QO (ds0 := [2, 1, 0]) (cs := [_, _, _, _, _]) Z Z Z Z Z Z (Qi Z (Q4 (ds0 := [1, 0]) (Qce) Z Z (.inl Z) Z Z (Qi Z (QjW Z Z Z (Qo Z Z (hK _ _ (Qb (kp3 Z Z Z) ?_))))))))))))
   refine Qy Z (fun h3 => ?_) (fun h3 => ?_)
   ·try rw [h3]
    try simp only [qB, Qh] at h3
    refine Qf fun K hK => Qa Z (hK _ _ (Qb (kp1 Z) ?_))
    refine Qt (Ql (Qu Z ?_))
    first | (simp [Qcu, h1, h2, h3]; done) | (exact (QcS (by assumption) (by assumption) (by assumption)).symm) | (exact QaT (by assumption) (by assumption) (by assumption)) | (exact (XW (by assumption) (by assumption) (by assumption) (by assumption) (by assumption)).symm) | (exact (XX (by assumption) (by assumption) (by assumption) (by assumption) (by assumption)).symm) | (rw [hI.2.2, Ys (by omega) (by omega) (by assumption)]) | (rw [hI.2.2, Yr (by omega) (by omega) (by omega)]; simp [Qh])
   ·try rw [h3]
    try simp only [qB, Qh] at h3
    refine Qw (Qd (kp2 Z Z) ?_)
    refine QG ?_ -- 1
    refine Qf fun K hK => Qm Z Z (ZC (ds0 := [13, 2, 1, 0]) Z Z Z Z Z (Qm Z Z (ZC (ds0 := [13, 2, 1, 0]) Z Z Z Z Z (Q4 (ds0 := [2, 1, 0]) (Z3) Z Z (.inr Z) Z Z (Qm Z Z (ZC (ds0 := [8, 2, 1, 0]) Z Z Z Z Z (Qm Z Z (ZC (ds0 := [8, 2, 1, 0]) Z Z Z Z Z (Q4 (ds0 := [2, 1, 0]) (Z3) Z Z (.inr Z) Z Z (Qm Z Z ?_))))))))))
    refine ZC (ds0 := [3, 2, 1, 0]) Z Z Z Z Z (Qm Z Z (ZC (ds0 := [3, 2, 1, 0]) Z Z Z Z Z (Q4 (ds0 := [2, 1, 0]) (Z3) Z Z (.inr Z) Z Z (QM Z Z (Q4 (ds0 := [0]) (Qg9 (l := [ZX a a', ZX b b', ZX c c']) (by simp)) Z Z (.inr Z) Z Z (Qa Z (hK _ _ (Qb (kp3 Z Z Z) ?_))))))))
    refine Qf fun K hK => Qa Z (Xt Z Z (hK _ _ (Qb (kp4 Z Z Z Z) ?_)))
    refine Qy Z (fun h4 => ?_) (fun h4 => ?_)
    ·try rw [h4]
     try simp only [qB, Qh] at h4
     refine Qf fun K hK => Qa Z (Qa Z (hK _ _ (Qb (kp1 Z) ?_)))
     refine Qt (Ql (Qu Z ?_))
     first | (simp [Qcu, h1, h2, h3, h4]; done) | (exact (QcS (by assumption) (by assumption) (by assumption)).symm) | (exact QaT (by assumption) (by assumption) (by assumption)) | (exact (XW (by assumption) (by assumption) (by assumption) (by assumption) (by assumption)).symm) | (exact (XX (by assumption) (by assumption) (by assumption) (by assumption) (by assumption)).symm) | (rw [hI.2.2, Ys (by omega) (by omega) (by assumption)]) | (rw [hI.2.2, Yr (by omega) (by omega) (by omega)]; simp [Qh])
    ·try rw [h4]
     try simp only [qB, Qh] at h4
     refine Qw (Qd (kp2 Z Z) ?_)
     refine QG ?_ -- 2
     refine Qf fun K hK => Qm Z Z (QE Z Z Z (QaF Z Z (hK _ _ (Qb (kp3 Z Z Z) ?_))))
     refine Qy Z (fun h5 => ?_) (fun h5 => ?_)
     ·try rw [h5]
      try simp only [qB, Qh] at h5
      refine Qf fun K hK => Qa Z (hK _ _ (Qb (kp1 Z) ?_))
      refine Qt (Ql (Qu Z ?_))
      first | (simp [Qcu, h1, h2, h3, h4, h5]; done) | (exact (QcS (by assumption) (by assumption) (by assumption)).symm) | (exact QaT (by assumption) (by assumption) (by assumption)) | (exact (XW (by assumption) (by assumption) (by assumption) (by assumption) (by assumption)).symm) | (exact (XX (by assumption) (by assumption) (by assumption) (by assumption) (by assumption)).symm) | (rw [hI.2.2, Ys (by omega) (by omega) (by assumption)]) | (rw [hI.2.2, Yr (by omega) (by omega) (by omega)]; simp [Qh])
     ·try rw [h5]
      try simp only [qB, Qh] at h5
      refine Qw (Qd (kp2 Z Z) ?_)
      refine QG ?_ -- 3
      refine Qf fun K hK => Qm Z Z (QE Z Z Z (QaF Z Z (hK _ _ (Qb (kp3 Z Z Z) ?_))))
      refine Qy Z (fun h6 => ?_) (fun h6 => ?_)
      ·try rw [h6]
       try simp only [qB, Qh] at h6
       refine Qf fun K hK => Qa Z (hK _ _ (Qb (kp1 Z) ?_))
       refine Qt (Ql (Qu Z ?_))
       first | (simp [Qcu, h1, h2, h3, h4, h5, h6]; done) | (exact (QcS (by assumption) (by assumption) (by assumption)).symm) | (exact QaT (by assumption) (by assumption) (by assumption)) | (exact (XW (by assumption) (by assumption) (by assumption) (by assumption) (by assumption)).symm) | (exact (XX (by assumption) (by assumption) (by assumption) (by assumption) (by assumption)).symm) | (rw [hI.2.2, Ys (by omega) (by omega) (by assumption)]) | (rw [hI.2.2, Yr (by omega) (by omega) (by omega)]; simp [Qh])
      ·try rw [h6]
       try simp only [qB, Qh] at h6
       refine Qw (Qd (kp2 Z Z) (Qf fun K hK => Qm Z Z (ZC (ds0 := [5, 1]) Z Z Z Z Z (Q4 (ds0 := [1]) (XU (by omega)) Z Z (.inl Z) Z Z (Qm Z Z (ZC (ds0 := [2, 0]) Z Z Z Z Z (Q4 (ds0 := [0]) (XU (by omega)) Z Z (.inl Z) Z Z (Qa Z (Qa Z (hK _ _ (Qb (kp2 Z Z) ?_)))))))))))
       refine QG ?_ -- 4
       refine Qf fun K hK => Qa Z (hK _ _ (Qb (kp3 Z Z Z) ?_))
       refine QF ?_
       refine ZK (ι := Nat) (fun i => ⟨[(6, .sl (dStrs (Q6 p 46))), (7, .sl (dStrs (Q6 p' 46))), (8, .int .i64 i)], []⟩) (fun i => i <= (Q6 p 46).length /\ i <= (Q6 p' 46).length /\ Qcu a b c p q a' b' c' p' q' = Qjk ((Q6 p 46).drop i) ((Q6 p' 46).drop i)) (fun i => (Q6 p 46).length - i) 0 ?_ ?_ ?_
       ·exact Ze (l := [6, 7, 8]) (kp3 rfl rfl rfl) Qq rfl rfl rfl
       ·exact ⟨Nat.zero_le _, Nat.zero_le _, QmQ (by assumption) (by assumption) (by assumption) (by assumption) (by assumption) (by assumption)⟩
       intro i hI
       have sl := Qdj (s := p) (c := 46)
       try dsimp only
       refine QG ?_ -- 5
       refine Qf fun K hK => Qa Z (Qa Z (Q5 Z Z (YF Z Z (Qa Z ?_))))
       refine QB (g := 61) Z (fun h7 => ?_) (fun h7 => ?_)
       ·try rw [h7]
        try simp only [qB, Qh] at h7
        refine Qi Z (Qa Z (Qi Z (Qa Z (Qi Z (Q5 Z Z (Qi Z (YF Z Z (Qo Z Z (hK _ _ (Qb (kp4 Z Z Z Z) ?_))))))))))
        refine Qy Z (fun h8 => ?_) (fun h8 => ?_)
        ·try rw [h8]
         try simp only [qB, Qh] at h8
         refine Qw (Qd (kp3 Z Z Z) ?_)
         refine QG ?_ -- 6
         refine QF (Qf fun K hK => Qa Z (Qa Z (QS Z Z Z (by omega) (YU (by omega)) Z (ZC (ds0 := [1, 0]) Z Z Z Z Z (Qa Z (Qa Z (QS Z Z Z (by omega) (YU (by omega)) Z (ZC (ds0 := [1, 0]) Z Z Z Z Z (Q4 (ds0 := [0]) (Qgc (X0 (by omega) hp) (X0 (by omega) hp')) Z Z (.inr Z) Z Z (Qa Z ?_))))))))))
         refine hK _ _ (Qb (kp4 Z Z Z Z) ?_)
         refine Qf fun K hK => Qa Z (Xt Z Z (hK _ _ (Qb (kp5 Z Z Z Z Z) ?_)))
         refine Qy Z (fun h9 => ?_) (fun h9 => ?_)
         ·try rw [h9]
          try simp only [qB, Qh] at h9
          refine Qf fun K hK => Qa Z (Qa Z (hK _ _ (Qb (kp1 Z) ?_)))
          refine Qt (Qs (Ql (Q8 (Qs (Ql (Qu Z ?_))))))
          first | (simp [Qcu, h1, h2, h3, h4, h5, h6, h7, h8, h9]; done) | (exact (QcS (by assumption) (by assumption) (by assumption)).symm) | (exact QaT (by assumption) (by assumption) (by assumption)) | (exact (XW (by assumption) (by assumption) (by assumption) (by assumption) (by assumption)).symm) | (exact (XX (by assumption) (by assumption) (by assumption) (by assumption) (by assumption)).symm) | (rw [hI.2.2, Ys (by omega) (by omega) (by assumption)]) | (rw [hI.2.2, Yr (by omega) (by omega) (by omega)]; simp [Qh])
         ·try rw [h9]
          try simp only [qB, Qh] at h9
          refine Qw (Qg (Qd (kp3 Z Z Z) (QY fun K hK => Qa Z (Za Z Z (by first | exact Qr (by omega) (by omega) | exact QH (by omega) (by omega) | exact QL (by omega) (by omega) | rfl) (Qa Z (hK _ ?_))))))
          refine Qj (i + 1) ?_ ?_ ?_
          ·exact QV (kp3 rfl rfl rfl)
          ·exact ⟨by omega, by omega, by rw [hI.2.2, QhB (by omega) (by omega) (by assumption)]⟩
          ·first | omega | (simp only; omega) | (dsimp only; omega)
        ·try rw [h8]
         try simp only [qB, Qh] at h8
         refine Zi (QI (Qv (QC (Qd (kp2 Z Z) (Qf fun K hK => Qa Z (Q5 Z Z (Qa Z (Q5 Z Z (QD (Z3) Z Z (.inr Z) (Qa Z ?_))))))))))
         refine hK _ _ (Qb (kp1 Z) ?_)
         refine Qt (Qu Z ?_)
         first | (simp [Qcu, h1, h2, h3, h4, h5, h6, h7, h8]; done) | (exact (QcS (by assumption) (by assumption) (by assumption)).symm) | (exact QaT (by assumption) (by assumption) (by assumption)) | (exact (XW (by assumption) (by assumption) (by assumption) (by assumption) (by assumption)).symm) | (exact (XX (by assumption) (by assumption) (by assumption) (by assumption) (by assumption)).symm) | (rw [hI.2.2, Ys (by omega) (by omega) (by assumption)]) | (rw [hI.2.2, Yr (by omega) (by omega) (by omega)]; simp [Qh])
       ·try rw [h7]
        try simp only [qB, Qh] at h7
        refine Qz Z (Qz Z (Qz Z (Qz Z (Qo Z Z (hK _ _ (Qb (kp4 Z Z Z Z) ?_))))))
        refine Zu Z (Zi (QI (Qv (QC (Qd (kp2 Z Z) (Qf fun K hK => Qa Z (Q5 Z Z (Qa Z (Q5 Z Z (QD (Z3) Z Z (.inr Z) ?_))))))))))
        refine Qa Z (hK _ _ (Qb (kp1 Z) ?_))
        refine Qt (Qu Z ?_)
        first | (simp [Qcu, h1, h2, h3, h4, h5, h6, h7]; done) | (exact (QcS (by assumption) (by assumption) (by assumption)).symm) | (exact QaT (by assumption) (by assumption) (by assumption)) | (exact (XW (by assumption) (by assumption) (by assumption) (by assumption) (by assumption)).symm) | (exact (XX (by assumption) (by assumption) (by assumption) (by assumption) (by assumption)).symm) | (rw [hI.2.2, Ys (by omega) (by omega) (by assumption)]) | (rw [hI.2.2, Yr (by omega) (by omega) (by omega)]; simp [Qh])
end Go.Proofs
namespace M3
open Go Go.Abs
end M3
namespace M3
open Go Go.Abs
end M3
namespace M3
open Go Go.Abs
end M3
namespace M25
open Go Go.Abs M3
def QfR (a b c : Int) : Bool := decide (a = 0) && decide (b = 0) && decide (c = 0)
def XY (a b c : Int) (p q : List UInt8) (part : Int) : Option (Int × Int × Int) :=
 if Qbm a b c p q = false \/ part < 0 \/ 2 < part then none
 else
  let o := if part = 0 then (a + 1, 0, 0) else if part = 1 then (a, b + 1, 0) else (a, b, c + 1)
  if Qbm o.1 o.2.1 o.2.2 [] [] = true then some o else none
def dOV (o : Option (Int × Int × Int)) : D := .tup [.agg [.int .i64 (o.getD (0, 0, 0)).1, .int .i64 (o.getD (0, 0, 0)).2.1, .int .i64 (o.getD (0, 0, 0)).2.2, .str [], .str []], .bool o.isSome]
def Xz (a b c : Int) (p q : List UInt8) : Nat -> Option (Int × Int × Int)
 | 0 => none
 | n + 1 => if (XY a b c p q n).isSome = true then XY a b c p q n else Xz a b c p q n
def QhA (a b c : Int) (p q : List UInt8) : Option (Int × Int × Int) :=
 if Qbm a b c p q = false then none else if p ≠ [] then some (a, b, c) else Xz a b c p q 3
theorem QbX {a b c : Int} {p q : List UInt8} (h : Qbm a b c p q = true) : (0 <= a /\ a <= 9999) /\ (0 <= b /\ b <= 9999) /\ (0 <= c /\ c <= 9999) := by
 simp only [Qbm, Qfq, Bool.and_eq_true, decide_eq_true_eq] at h
 omega
theorem Qh9 {a b c : Int} {p q : List UInt8} {m : Nat} (hm : 0 < m) (h : (XY a b c p q ((m : Int) - 1)).isSome = false) : Xz a b c p q m = Xz a b c p q (m - 1) := by
 obtain ⟨n, rfl⟩ : ∃ n, m = n + 1 := ⟨m - 1, by omega⟩
 rw [show ((n + 1 : Nat) : Int) - 1 = (n : Int) by omega] at h
 rw [Xz, if_neg (by rw [h]; simp)]; rfl
theorem Qg8 {a b c : Int} {p q : List UInt8} {m : Nat} (hm : 0 < m) (h : (XY a b c p q ((m : Int) - 1)).isSome = true) : Xz a b c p q m = XY a b c p q ((m : Int) - 1) := by
 obtain ⟨n, rfl⟩ : ∃ n, m = n + 1 := ⟨m - 1, by omega⟩
 rw [show ((n + 1 : Nat) : Int) - 1 = (n : Int) by omega] at h ⊢
 rw [Xz, if_pos h]
def dCu (x : Cu) : List D := [.int .i64 x.e, .int .i64 x.a, .int .i64 x.b, .int .i64 x.c, .str x.p, .str x.q, .bool x.f]
def QdV (s : Cu × Cu) : List D := dCu s.1 ++ dCu s.2
def ZR (l : List (Cu × Cu)) : D := .sl (l.map QdV)
def QgS (s : List (Cu × Cu) × List (Cu × Cu)) : D := .agg [ZR s.1, ZR s.2]
def Qcg : Cu := ⟨-1, 0, 0, 0, [], [], false⟩
def Qfp : Cu := ⟨1, 0, 0, 0, [], [], false⟩
def QeZ (a b c : Int) : Cu := if QfR a b c = true then Qcg else ⟨0, a, b, c, [], [], false⟩
def Qc3 (a b c : Int) : Cu := match QhA a b c [] [] with
 | none => Qfp
 | some o => ⟨0, o.1, o.2.1, o.2.2, [], [], false⟩
def Xe (a b c : Int) (p q : List UInt8) : List (Cu × Cu) × List (Cu × Cu) :=
 if Qbm a b c p q = false then ([], []) else if p ≠ [] then ([], [(⟨0, a, b, c, p, [], false⟩, ⟨0, a, b, c, p, [], true⟩)]) else ([(QeZ a b c, Qc3 a b c)], [])
def QfU (e a b c : Int) (p q : List UInt8) (f : Bool) : Bool := !decide (e = 0) || (!f && decide (p = []) && !QfR a b c)
def Cu.sm (x : Cu) : Prop := x.p.length <= 1000000 /\ x.q.length <= 1000000
def Sm (l : List (Cu × Cu)) : Prop := l.length <= 1000000 /\ ∀ s ∈ l, Cu.sm s.1 /\ Cu.sm s.2
theorem Sm.at {l : List (Cu × Cu)} (h : Sm l) {i : Nat} (hi : i < l.length) : (l[i].1.p.length <= 1000000 /\ l[i].1.q.length <= 1000000) /\ (l[i].2.p.length <= 1000000 /\ l[i].2.q.length <= 1000000) := h.2 _ (List.getElem_mem hi)
def Qc5 (s : Cu × Cu) : Bool := QhC s.1.e s.1.a s.1.b s.1.c s.1.p s.1.q s.1.f s.2.e s.2.a s.2.b s.2.c s.2.p s.2.q s.2.f
def Qa5 (x y : Cu) : Int := Qa4 x.e x.a x.b x.c x.p x.q x.f y.e y.a y.b y.c y.p y.q y.f
def Qns (l : List (Cu × Cu)) (i : Nat) : Bool := match l[i]? with
 | none => true
 | some s => Qc5 s && (decide (i = 0) || match l[i - 1]? with | none => true | some r => decide (Qa5 r.2 s.1 < 0))
theorem QkI {l : List (Cu × Cu)} {i : Nat} (h : i < l.length) : Qns l i = (Qc5 l[i] && (decide (i = 0) || decide (Qa5 (l[i - 1]'(by omega)).2 l[i].1 < 0))) := by
 unfold Qns
 rw [List.getElem?_eq_getElem h, List.getElem?_eq_getElem (show i - 1 < l.length by omega)]
theorem Qml {l : List (Cu × Cu)} {i : Nat} (h : i < l.length) (h1 : Qc5 l[i] = true) (h2 : i = 0 \/ Qa5 (l[i - 1]'(by omega)).2 l[i].1 < 0) : Qns l i = true := by
 rw [QkI h, h1]; simpa using h2
theorem QfX {l : List (Cu × Cu)} {i : Nat} (h : i < l.length) (h1 : Qc5 l[i] = false \/ (i ≠ 0 /\ 0 <= Qa5 (l[i - 1]'(by omega)).2 l[i].1)) : Qns l i = false := by
 rw [QkI h]
 rcases h1 with h1 | ⟨h1, h2⟩
 ·rw [h1]; rfl
 ·simp only [Bool.and_eq_false_iff, Bool.or_eq_false_iff, decide_eq_false_iff_not]
  exact .inr ⟨h1, by omega⟩
def Qfs (l : List (Cu × Cu)) : Bool := (List.range l.length).all (Qns l)
theorem Qa8 {n i : Nat} {p : Nat -> Bool} (h : i < n) (hp : p i = false) : (List.range n).all p = false := by
 rw [Bool.eq_false_iff]; intro ha
 rw [List.all_eq_true] at ha
 rw [ha i (List.mem_range.2 h)] at hp; cases hp
theorem QgD {i : Nat} {p : Nat -> Bool} (h : (List.range i).all p = true) (hp : p i = true) : (List.range (i + 1)).all p = true := by
 rw [List.range_succ, List.all_append, h]; simp [hp]
theorem QgC {i : Nat} {p : Nat -> Bool} {n : Nat} (h : (List.range i).all p = true) (hn : n <= i) : (List.range n).all p = true := by
 rw [List.all_eq_true] at h ⊢
 exact fun x hx => h x (List.mem_range.2 (Nat.lt_of_lt_of_le (List.mem_range.1 hx) hn))
def inC (x y : Cu) (s : Cu × Cu) : Bool := decide (Qa5 s.1 x <= 0) && decide (Qa5 y s.2 <= 0)
theorem QnS {x y : Cu} {s : Cu × Cu} (h1 : Qa5 s.1 x <= 0) (h2 : Qa5 y s.2 <= 0) : inC x y s = true := by simp [inC, h1, h2]
theorem QnR {x y : Cu} {s : Cu × Cu} (h : ¬ Qa5 s.1 x <= 0 \/ ¬ Qa5 y s.2 <= 0) : inC x y s = false := by
 simp only [inC, Bool.and_eq_false_iff, decide_eq_false_iff_not]; exact h
def mIn (l : List (Cu × Cu)) (x y : Cu) : Bool := l.any (inC x y)
theorem Qh6 {α : Type} {s : List α} {p : α -> Bool} {i : Nat} (h : i < s.length) (hp : p s[i] = true) : s.any p = true := List.any_eq_true.2 ⟨_, List.getElem_mem h, hp⟩
theorem Ql6 {α : Type} {s : List α} {p : α -> Bool} {i : Nat} (hi : s.length <= i) (h : (s.take i).any p = false) : s.any p = false := by rwa [List.take_of_length_le hi] at h
theorem QfB {α : Type} {s : List α} {p : α -> Bool} {i : Nat} (h : i < s.length) (ha : (s.take i).any p = false) (hp : p s[i] = false) : (s.take (i + 1)).any p = false := by
 rw [List.take_succ_eq_append_getElem h, List.any_append, ha]; simp [hp]
def Qbg (x : Cu) : Bool := QfU x.e x.a x.b x.c x.p x.q x.f
def Qft (s : List (Cu × Cu) × List (Cu × Cu)) : Bool := Qfs s.1 && Qfs s.2 && s.1.all fun x => Qbg x.1 && Qbg x.2
theorem QaB {s : List (Cu × Cu) × List (Cu × Cu)} (h : Qfs s.1 = false \/ Qfs s.2 = false) : Qft s = false := by
 rw [Qft]; rcases h with h | h <;> simp [h]
theorem QaA {s : List (Cu × Cu) × List (Cu × Cu)} {i : Nat} (hi : i < s.1.length) (h : Qbg s.1[i].1 = false \/ Qbg s.1[i].2 = false) : Qft s = false := by
 have : (s.1.all fun x => Qbg x.1 && Qbg x.2) = false := Yd hi (by rcases h with h | h <;> simp [h])
 rw [Qft, this, Bool.and_false]
theorem Qc8 {s : List (Cu × Cu) × List (Cu × Cu)} {i : Nat} (h1 : Qfs s.1 = true) (h2 : Qfs s.2 = true) (hi : s.1.length <= i) (h : (s.1.take i).all (fun x => Qbg x.1 && Qbg x.2) = true) : Qft s = true := by
 rw [List.take_of_length_le hi] at h
 rw [Qft, h1, h2, h]; rfl
def Qgd (l : List Cu) : D := .sl (l.map dCu)
theorem QhN {l : List Cu} : ∀ r ∈ l.map dCu, r.length = 7 := fun r hr => by obtain ⟨x, _, rfl⟩ := List.mem_map.1 hr; rfl
theorem QlU {l : List Cu} {a b : Nat} : ∀ r ∈ ((l.map dCu).take a).drop b, r.length = 7 := fun r hr => QhN r (List.mem_of_mem_take (List.mem_of_mem_drop hr))
def QbG : List Cu -> Cu -> List Cu
 | [], c => [c]
 | x :: r, c => if Qa5 x c < 0 then x :: QbG r c else if Qa5 x c = 0 then x :: r else c :: x :: r
theorem QkB {l : List Cu} {c : Cu} {k : Nat} (hk : k < l.length) (h : Qa5 l[k] c < 0) (hi : QbG l c = l.take k ++ QbG (l.drop k) c) : QbG l c = l.take (k + 1) ++ QbG (l.drop (k + 1)) c := by
 rw [hi, List.drop_eq_getElem_cons hk, QbG, if_pos h, List.take_succ_eq_append_getElem hk, List.append_assoc]; rfl
theorem QkA {l : List Cu} {c : Cu} {k : Nat} (hk : k < l.length) (h : Qa5 l[k] c = 0) (hi : QbG l c = l.take k ++ QbG (l.drop k) c) : QbG l c = l := by
 rw [hi, List.drop_eq_getElem_cons hk, QbG, if_neg (by omega), if_pos h, <- List.drop_eq_getElem_cons hk, List.take_append_drop]
theorem Qjj {l : List Cu} {c : Cu} {k : Nat} (h : l.length <= k \/ ∃ hk : k < l.length, ¬ Qa5 l[k] c < 0 /\ Qa5 l[k] c ≠ 0) (hi : QbG l c = l.take k ++ QbG (l.drop k) c) : QbG l c = l.take k ++ c :: l.drop k := by
 rw [hi]
 rcases h with h | ⟨hk, h1, h2⟩
 ·rw [List.drop_eq_nil_of_le h, QbG]
 ·rw [List.drop_eq_getElem_cons hk, QbG, if_neg h1, if_neg h2]
theorem Qd9 : ∀ (l : List Cu) (c : Cu), (QbG l c).length <= l.length + 1
 | [], c => by simp [QbG]
 | x :: r, c => by
  have := Qd9 r c
  simp only [QbG]
  (repeat' split) <;> simp <;> omega
theorem Qgw : ∀ {l : List Cu} {c : Cu}, (∀ x ∈ l, Cu.sm x) -> Cu.sm c -> ∀ x ∈ QbG l c, Cu.sm x
 | [], c, _, hc, x, hx => by simp [QbG] at hx; exact hx ▸ hc
 | y :: r, c, hl, hc, x, hx => by
  simp only [QbG] at hx
  split at hx
  ·rcases List.mem_cons.1 hx with rfl | hx
   ·exact hl _ (by simp)
   ·exact Qgw (fun z hz => hl z (by simp [hz])) hc x hx
  ·split at hx
   ·exact hl x hx
   ·rcases List.mem_cons.1 hx with rfl | hx
    ·exact hc
    ·exact hl x hx
def YW (l : List (Cu × Cu)) : List Cu := l.foldl (fun out s => QbG (QbG out s.1) s.2) [Qcg, Qfp]
theorem QlG {l : List (Cu × Cu)} {i : Nat} (h : i < l.length) : YW (l.take (i + 1)) = QbG (QbG (YW (l.take i)) l[i].1) l[i].2 := by
 rw [List.take_succ_eq_append_getElem h, YW, List.foldl_append]; rfl
theorem QfO : ∀ (l : List (Cu × Cu)) (out : List Cu), (l.foldl (fun out s => QbG (QbG out s.1) s.2) out).length <= out.length + 2 * l.length
 | [], out => by simp
 | s :: l, out => by
  have h1 := Qd9 out s.1
  have h2 := Qd9 (QbG out s.1) s.2
  have := QfO l (QbG (QbG out s.1) s.2)
  simp only [List.foldl_cons, List.length_cons]; omega
theorem QbC (l : List (Cu × Cu)) : (YW l).length <= 2 + 2 * l.length := QfO l _
theorem Qhx : ∀ {l : List (Cu × Cu)} {out : List Cu}, (∀ s ∈ l, Cu.sm s.1 /\ Cu.sm s.2) -> (∀ x ∈ out, Cu.sm x) -> ∀ x ∈ l.foldl (fun out s => QbG (QbG out s.1) s.2) out, Cu.sm x
 | [], _, _, h => h
 | s :: l, out, hl, h => by
  rw [List.foldl_cons]
  exact Qhx (fun t ht => hl t (by simp [ht])) (Qgw (Qgw h (hl s (by simp)).1) (hl s (by simp)).2)
theorem Qjg {l : List (Cu × Cu)} (hl : ∀ s ∈ l, Cu.sm s.1 /\ Cu.sm s.2) : ∀ x ∈ YW l, Cu.sm x := Qhx hl (by
 intro x hx
 simp only [List.mem_cons, List.not_mem_nil, or_false] at hx
 rcases hx with rfl | rfl <;> exact ⟨Nat.zero_le _, Nat.zero_le _⟩)
theorem Qd8 {l : List (Cu × Cu)} (hl : Sm l) (i : Nat) : (YW (l.take i)).length <= 2000002 /\ ∀ x ∈ YW (l.take i), Cu.sm x := by
 refine ⟨?_, Qjg fun s hs => hl.2 s (List.mem_of_mem_take hs)⟩
 have := QbC (l.take i)
 have h2 : (l.take i).length <= l.length := List.length_take_le' ..
 have := hl.1
 omega
def QbF (l : List (Cu × Cu)) (x y : Cu) : List (Cu × Cu) := match l.getLast? with
 | some s => if Qa5 s.2 x = 0 then l.dropLast ++ [(s.1, y)] else l ++ [(x, y)]
 | none => l ++ [(x, y)]
theorem Qhy {l : List (Cu × Cu)} {x y : Cu} {i : Nat} (hi : i + 1 = l.length) (h : Qa5 (l[i]'(by omega)).2 x = 0) : QbF l x y = l.set i ((l[i]'(by omega)).1, y) := by
 have hg : l.getLast? = some (l[i]'(by omega)) := by
  rw [List.getLast?_eq_getElem?, show l.length - 1 = i by omega, List.getElem?_eq_getElem]
 rw [QbF, hg]
 simp only [h, if_true]
 rw [List.dropLast_eq_take, show l.length - 1 = i by omega, List.set_eq_take_append_cons_drop, if_pos (by omega), List.drop_eq_nil_of_le (by omega)]
theorem Qc4 {l : List (Cu × Cu)} {x y : Cu} (h : l = [] \/ ∃ i, ∃ hi : i + 1 = l.length, Qa5 (l[i]'(by omega)).2 x ≠ 0) : QbF l x y = l ++ [(x, y)] := by
 rcases h with rfl | ⟨i, hi, h⟩
 ·rfl
 ·have hg : l.getLast? = some (l[i]'(by omega)) := by
   rw [List.getLast?_eq_getElem?, show l.length - 1 = i by omega, List.getElem?_eq_getElem]
  rw [QbF, hg]
  simp only [if_neg h]
theorem Qhz (l : List (Cu × Cu)) (x y : Cu) : (QbF l x y).length <= l.length + 1 := by
 unfold QbF
 split
 ·split
  ·simp
  ·simp
 ·simp
theorem Qjh {l : List (Cu × Cu)} {x y : Cu} (hl : ∀ s ∈ l, Cu.sm s.1 /\ Cu.sm s.2) (hx : Cu.sm x) (hy : Cu.sm y) : ∀ s ∈ QbF l x y, Cu.sm s.1 /\ Cu.sm s.2 := by
 intro s hs
 unfold QbF at hs
 split at hs
 ·rename_i t ht
  have ht' := List.mem_of_getLast? ht
  split at hs
  ·rcases List.mem_append.1 hs with hs | hs
   ·exact hl s (List.dropLast_subset _ hs)
   ·simp at hs; subst hs; exact ⟨(hl t ht').1, hy⟩
  ·rcases List.mem_append.1 hs with hs | hs
   ·exact hl s hs
   ·simp at hs; subst hs; exact ⟨hx, hy⟩
 ·rcases List.mem_append.1 hs with hs | hs
  ·exact hl s hs
  ·simp at hs; subst hs; exact ⟨hx, hy⟩
theorem Qjc {α β : Type} {l : List α} {f : α -> β} {i : Nat} (h : i + 1 < l.length) : (l.map f)[((i : Int) + 1).toNat]? = some (f l[i + 1]) := by
 rw [show ((i : Int) + 1).toNat = i + 1 by omega, List.getElem?_map, List.getElem?_eq_getElem h]; rfl
def QbD (f : Cu -> Cu -> Bool) : List Cu -> List (Cu × Cu) -> List (Cu × Cu)
 | x :: y :: r, out => QbD f (y :: r) (if f x y = true then QbF out x y else out)
 | _, out => out
def Qis (l : List (Cu × Cu)) : List (Cu × Cu) := if l.all Qc5 = true then QbD (mIn l) (YW l) [] else []
theorem QfP {f : Cu -> Cu -> Bool} {c : List Cu} {out : List (Cu × Cu)} {i : Nat} (h : i + 1 < c.length) : QbD f (c.drop i) out = QbD f (c.drop (i + 1)) (if f c[i] c[i + 1] = true then QbF out c[i] c[i + 1] else out) := by
 rw [List.drop_eq_getElem_cons (show i < c.length by omega), List.drop_eq_getElem_cons h, QbD]
theorem Qkz {f : Cu -> Cu -> Bool} {c : List Cu} {out : List (Cu × Cu)} {i : Nat} (h : c.length <= i + 1) : QbD f (c.drop i) out = out := by
 have : (c.drop i).length <= 1 := by simp; omega
 match hd : c.drop i with
 | [] => rfl
 | [x] => rfl
 | x :: y :: r => rw [hd] at this; simp at this
def FillI (f : Cu -> Cu -> Bool) (c : List Cu) (i : Nat) (out : List (Cu × Cu)) : Prop :=
 out.length <= i /\ (∀ s ∈ out, Cu.sm s.1 /\ Cu.sm s.2) /\ QbD f c [] = QbD f (c.drop i) out
theorem FillI.zero {f : Cu -> Cu -> Bool} {c : List Cu} : FillI f c 0 [] := ⟨Nat.zero_le _, by simp, by simp⟩
theorem FillI.take {f : Cu -> Cu -> Bool} {c : List Cu} {i : Nat} {out : List (Cu × Cu)} (h : FillI f c i out) (hc : ∀ x ∈ c, Cu.sm x) (hi : i + 1 < c.length) (ht : f c[i] c[i + 1] = true) : FillI f c (i + 1) (QbF out c[i] c[i + 1]) := by
 obtain ⟨h1, h2, h3⟩ := h
 refine ⟨Nat.le_trans (Qhz ..) (by omega), Qjh h2 (hc _ (List.getElem_mem _)) (hc _ (List.getElem_mem _)), ?_⟩
 rw [h3, QfP hi, if_pos ht]
theorem FillI.skip {f : Cu -> Cu -> Bool} {c : List Cu} {i : Nat} {out : List (Cu × Cu)} (h : FillI f c i out) (hi : i + 1 < c.length) (ht : f c[i] c[i + 1] = false) : FillI f c (i + 1) out := by
 obtain ⟨h1, h2, h3⟩ := h
 exact ⟨by omega, h2, by rw [h3, QfP hi, if_neg (by rw [ht]; simp)]⟩
theorem FillI.done {f : Cu -> Cu -> Bool} {c : List Cu} {i : Nat} {out : List (Cu × Cu)} (h : FillI f c i out) (hi : c.length <= i + 1) : QbD f c [] = out := by rw [h.2.2, Qkz hi]
theorem Yw {l : List (Cu × Cu)} (hl : Sm l) : ∀ x ∈ YW l, Cu.sm x := Qjg hl.2
def Qmh (a b : List (Cu × Cu)) : List (Cu × Cu) := if Qfs a = true /\ Qfs b = true then Qis (a ++ b) else []
def Qit (a : List (Cu × Cu)) : List (Cu × Cu) := if Qfs a = true then QbD (fun x y => !mIn a x y) (YW a) [] else []
theorem Qmn {l : List (Cu × Cu)} : ∀ r ∈ l.map QdV, r.length = 14 := fun r hr => by obtain ⟨x, _, rfl⟩ := List.mem_map.1 hr; rfl
theorem Sm.app {a b : List (Cu × Cu)} (ha : Sm a) (hb : Sm b) (h : a.length + b.length <= 1000000) : Sm (a ++ b) := by
 refine ⟨by simp; omega, fun s hs => ?_⟩
 rcases List.mem_append.1 hs with hs | hs
 ·exact ha.2 s hs
 ·exact hb.2 s hs
theorem Qox {H : List (Nat × Box)} {S : Nat -> Bool} {k n : Nat} {b : Box} (hS : S k = true) (hb : lk H k = some b) (hp : b.pr = true) (hn : n = b.rows.length) : (D.osl k n).fz H S = .sl b.rows := by
 simp only [D.fz, D.fzS, hS, hb, if_true, hp, hn, and_self]
abbrev QhZ := List (Cu × Cu) × List (Cu × Cu)
def Qmi (a b : QhZ) : QhZ := if Qft a = true /\ Qft b = true then (Qmh a.1 b.1, Qmh a.2 b.2) else ([], [])
def Qgv (a : QhZ) : QhZ := if Qft a = true then (Qit a.1, Qit a.2) else ([], [])
def mPl (v n : Int) : Int := if n < 1 then 0 else Qe1 v n
theorem QfT {v n : Int} : 0 <= mPl v n := by
 unfold mPl; split
 ·omega
 ·exact QlQ (by omega)
theorem QfS {v n : Int} (h : 1 <= n) : mPl v n < n := by
 rw [mPl, if_neg (by omega)]; exact QlP (by omega)
def Qld (l : List Int) (i : Int) : Int := if i < 0 \/ (l.length : Int) <= i then i.tmod 3 else l.getD i.toNat 0
theorem Qky {l : List Int} {i : Int} (h0 : 0 <= i) (h : i < l.length) : Qld l i = l[i.toNat]'(by omega) := by
 rw [Qld, if_neg (by omega), List.getD_eq_getElem?_getD, List.getElem?_eq_getElem (by omega)]; rfl
def I64 (x : Int) : Prop := -9223372036854775808 <= x /\ x <= 9223372036854775807
theorem QlF {l : List Int} {i : Int} (hl : ∀ x ∈ l, I64 x) (hi : I64 i) : I64 (Qld l i) := by
 by_cases h : i < 0 \/ (l.length : Int) <= i
 ·rw [Qld, if_pos h]
  have h1 := Int.tmod_lt_of_pos i (show (0 : Int) < 3 by omega)
  have h2 := Int.lt_tmod_of_pos i (show (0 : Int) < 3 by omega)
  exact ⟨by omega, by omega⟩
 ·rw [Qky (by omega) (by omega)]
  exact hl _ (List.getElem_mem _)
theorem Qk9 (x : Int) : I64 (IntKind.i64.wrap x) := by
 unfold IntKind.wrap I64
 simp only [IntKind.bits, IntKind.signed, Bool.true_and]
 split
 ·rename_i h
  have := of_decide_eq_true h
  omega
 ·rename_i h
  have : ¬ (x % 2 ^ 64 >= 2 ^ (64 - 1)) := fun hh => h (decide_eq_true hh)
  omega
theorem QdA {α : Type} {k : Nat} {v : α} {l : List (Nat × α)} : lk ((k, v) :: l) k = some v := by rw [Qn, if_pos rfl]
theorem Qd7 {α : Type} {k : Nat} {v : α} {l : List (Nat × α)} : (lk ((k, v) :: l) k).isSome = true := by rw [QdA]; rfl
def gB (L : List Int) (I : Int) (et : Nat) : Box := ⟨[[Zm L, .int .i64 I]], 2, et, true⟩
def nxI (I : Int) : Int := IntKind.i64.wrap (I + 1)
def nx (L : List Int) (I n : Int) : Int := mPl (Qld L (IntKind.i64.wrap (nxI I - 1))) n
def QhD (h m : Int) : Int := if Qdz .and .i64 h m = h then 2 else if Qdz .and .i64 h m = 0 then 0 else 1
structure Vr where
 a : Int
 b : Int
 c : Int
 p : List UInt8
 q : List UInt8
def dVr (v : Vr) : List D := [.int .i64 v.a, .int .i64 v.b, .int .i64 v.c, .str v.p, .str v.q]
def Vr.sm (v : Vr) : Prop := v.p.length <= 100 /\ v.q.length <= 100
def versions : List Vr := [⟨1, 0, 0, [], []⟩, ⟨1, 2, 0, [], []⟩, ⟨2, 0, 0, [97, 46, 49], []⟩, ⟨2, 0, 0, [], []⟩]
theorem QiK : ∀ v ∈ versions, v.sm := by
 intro v hv
 simp only [versions, List.mem_cons, List.not_mem_nil, or_false] at hv
 rcases hv with rfl | rfl | rfl | rfl <;> exact ⟨by decide, by decide⟩
theorem Qdb {i : Nat} : ((i : Int) - 1).toNat = i - 1 := by omega
end M25
namespace Go.Proofs
open Go Go.Abs M3 M25
set_option linter.unusedVariables false
set_option linter.unusedSimpArgs false
theorem X3 {a b c : Int} {p q : List UInt8} : Ok Tryz.prog 84 [.agg [.int .i64 a, .int .i64 b, .int .i64 c, .str p, .str q]] (.agg [.int .i64 a, .int .i64 b, .int .i64 c, .str p, .str []]) := by
 refine Ok.ofT ZZ Tryz.func84 Qqc (Nat.le_of_ble_eq_true Z) ?_
 show TW _ _ tf84.body _ _
 refine Qf fun K hK => ZH Z Z Z (ZB Z (hK _ _ (Qb (kp2 Z Z) ?_)))
 refine Qf fun K hK => Qm Z Z (QP Z Z Z Z Z Z Z Z (hK _ _ (Qb (kp2 Z Z) ?_)))
 refine Qf fun K hK => QN (cs := [_, _, _, _, _]) Z Z Z Z (QP Z Z Z Z Z Z Z Z (hK _ _ (Qb (kp1 Z) ?_)))
 refine Qt (Zz (cs := [_, _, _, _, _]) Z Z Z Z ?_)
 exact rfl
theorem Y1  : Ok Tryz.prog 86 [] (.agg [.int .i64 (-1), .int .i64 0, .int .i64 0, .int .i64 0, .str [], .str [], .bool false]) := by
 refine Ok.ofT ZZ Tryz.func86 Qqe (Nat.le_of_ble_eq_true Z) ?_
 show TW _ _ tf86.body _ _
 refine Qf fun K hK => ZB Z (hK _ _ (Qb (kp1 Z) ?_))
 refine Qf fun K hK => Q0 Z Z (QP Z Z Z Z Z Z Z Z (hK _ _ (Qb (kp1 Z) ?_)))
 refine Qt (Zz (cs := [_, _, _, _, _, _, _]) Z Z Z Z ?_)
 exact rfl
theorem Xb  : Ok Tryz.prog 88 [] (.agg [.int .i64 1, .int .i64 0, .int .i64 0, .int .i64 0, .str [], .str [], .bool false]) := by
 refine Ok.ofT ZZ Tryz.func88 Qqg (Nat.le_of_ble_eq_true Z) ?_
 show TW _ _ tf88.body _ _
 refine Qf fun K hK => ZB Z (hK _ _ (Qb (kp1 Z) ?_))
 refine Qf fun K hK => Q0 Z Z (QP Z Z Z Z Z Z Z Z (hK _ _ (Qb (kp1 Z) ?_)))
 refine Qt (Zz (cs := [_, _, _, _, _, _, _]) Z Z Z Z ?_)
 exact rfl
theorem YL {a b c : Int} {p q : List UInt8} : Ok Tryz.prog 62 [.agg [.int .i64 a, .int .i64 b, .int .i64 c, .str p, .str q]] (.agg [.int .i64 0, .int .i64 a, .int .i64 b, .int .i64 c, .str p, .str [], .bool false]) := by
 refine Ok.ofT ZZ Tryz.func62 QpS (Nat.le_of_ble_eq_true Z) ?_
 show TW _ _ tf62.body _ _
 refine Qf fun K hK => ZH Z Z Z (ZB Z (hK _ _ (Qb (kp2 Z Z) ?_)))
 refine Qf fun K hK => QN (cs := [_, _, _, _, _]) Z Z Z Z (QD (X3) Z Z (.inl Z) (Q0 Z Z (QP Z Z Z Z Z Z Z Z (hK _ _ (Qb (kp1 Z) ?_)))))
 refine Qt (Zz (cs := [_, _, _, _, _, _, _]) Z Z Z Z ?_)
 exact rfl
theorem Qbs {a b c : Int} {p q : List UInt8} : Ok Tryz.prog 63 [.agg [.int .i64 a, .int .i64 b, .int .i64 c, .str p, .str q]] (.agg [.int .i64 0, .int .i64 a, .int .i64 b, .int .i64 c, .str p, .str [], .bool true]) := by
 refine Ok.ofT ZZ Tryz.func63 QpT (Nat.le_of_ble_eq_true Z) ?_
 show TW _ _ tf63.body _ _
 refine Qf fun K hK => ZH Z Z Z (ZB Z (hK _ _ (Qb (kp2 Z Z) ?_)))
 refine Qf fun K hK => QN (cs := [_, _, _, _, _]) Z Z Z Z (QD (X3) Z Z (.inl Z) (Q0 Z Z (QP Z Z Z Z Z Z Z Z (hK _ _ (Qb (kp1 Z) ?_)))))
 refine Qt (Zz (cs := [_, _, _, _, _, _, _]) Z Z Z Z ?_)
 exact rfl
theorem XO {a b c : Int} {p q : List UInt8} : Ok Tryz.prog 85 [.agg [.int .i64 a, .int .i64 b, .int .i64 c, .str p, .str q]] (.bool (QfR a b c)) := by
 refine Ok.ofT ZZ Tryz.func85 Qqd (Nat.le_of_ble_eq_true Z) ?_
 show TW _ _ tf85.body _ _
 refine Qf fun K hK => ZH Z Z Z (Qa Z (hK _ _ (Qb (kp1 Z) ?_)))
 refine Qf fun K hK => Qm Z Z (QE Z Z Z (YH Z Z (Qa Z ?_)))
 refine QB (g := 6) Z (fun h1 => ?_) (fun h1 => ?_)
 ·try rw [h1]
  try simp only [qB] at h1
  refine Qi Z (Qm Z Z (Qi Z (QE Z Z Z (Qi Z (YH Z Z (Qo Z Z (Qa Z ?_)))))))
  refine QB (g := 11) Z (fun h2 => ?_) (fun h2 => ?_)
  ·try rw [h2]
   try simp only [qB] at h2
   refine Qi Z (Qm Z Z (Qi Z (QE Z Z Z (Qi Z (YH Z Z (Qo Z Z (Qa Z (hK _ _ (Qb (kp1 Z) ?_)))))))))
   refine Qt (Qp Z ?_)
   (repeat clear hK K); simp_all [QfR]
  ·try rw [h2]
   try simp only [qB] at h2
   refine Qz Z (Qz Z (Qz Z (Qo Z Z (Qa Z (hK _ _ (Qb (kp1 Z) ?_))))))
   refine Qt (Qp Z ?_)
   (repeat clear hK K); simp_all [QfR]
 ·try rw [h1]
  try simp only [qB] at h1
  refine Qz Z (Qz Z (Qz Z (Qo Z Z (Qa Z (Qz Z (Qz Z (Qz Z (Qo Z Z (Qa Z (hK _ _ (Qb (kp1 Z) ?_)))))))))))
  refine Qt (Qp Z ?_)
  (repeat clear hK K); simp_all [QfR]
end Go.Proofs
namespace Go.Proofs
open Go Go.Abs M3 M25
set_option linter.unusedVariables false
set_option linter.unusedSimpArgs false
theorem Qcp {a b c : Int} {p q : List UInt8} (hp : p.length <= 1000000) (hq : q.length <= 1000000) {part : Int} : Ok Tryz.prog 107 [.agg [.int .i64 a, .int .i64 b, .int .i64 c, .str p, .str q], .int .i64 part] (dOV (XY a b c p q part)) := by
 refine Ok.ofT ZZ Tryz.func107 QoI (Nat.le_of_ble_eq_true Z) ?_
 show TW _ _ tf107.body _ _
 refine Qf fun K hK => ZH Z Z Z (ZB Z (Qa Z (hK _ _ (Qb (kp3 Z Z Z) ?_))))
 refine QG ?_ -- 0
 refine Qf fun K hK => QN (cs := [_, _, _, _, _]) Z Z Z Z (QD (Zw (by omega) (by omega)) Z Z (.inr Z) (Yn Z (Qa Z ?_)))
 refine QB (g := 10) Z (fun h1 => ?_) (fun h1 => ?_)
 ·try rw [h1]
  try simp only [qB] at h1
  refine Qz Z (Qz Z (Qo Z Z (Qa Z (Qz Z (Qz Z (Qo Z Z (hK _ _ (Qb (kp4 Z Z Z Z) ?_))))))))
  refine ZJ Z (Qf fun K hK => Q0 Z Z (QP Z Z Z Z Z Z Z Z (Qa Z (hK _ _ (Qb (kp2 Z Z) ?_)))))
  refine Qt (Ql (Post.eq (Xx (ds := [.int .i64 _, .int .i64 _, .int .i64 _, .str _, .str _]) (d' := .bool _) (cs := [_, _, _, _, _]) Z Z Z Z Z ⟨rfl, rfl⟩) ?_))
  (repeat clear hK K); first | (simp [XY, dOV, h1]; done) | (simp_all [XY, dOV]; done)
 ·try rw [h1]
  try simp only [qB] at h1
  refine Qi Z (Qa Z (Qi Z (YF Z Z (Qo Z Z (Qa Z ?_)))))
  refine QB (g := 14) Z (fun h2 => ?_) (fun h2 => ?_)
  ·try rw [h2]
   try simp only [qB] at h2
   refine Qz Z (Qz Z (Qo Z Z (hK _ _ (Qb (kp4 Z Z Z Z) ?_))))
   refine ZJ Z (Qf fun K hK => Q0 Z Z (QP Z Z Z Z Z Z Z Z (Qa Z (hK _ _ (Qb (kp2 Z Z) ?_)))))
   refine Qt (Ql (Post.eq (Xx (ds := [.int .i64 _, .int .i64 _, .int .i64 _, .str _, .str _]) (d' := .bool _) (cs := [_, _, _, _, _]) Z Z Z Z Z ⟨rfl, rfl⟩) ?_))
   (repeat clear hK K); first | (simp [XY, dOV, h1, h2]; done) | (simp_all [XY, dOV]; done)
  ·try rw [h2]
   try simp only [qB] at h2
   refine Qi Z (Qa Z (Qi Z (Qcc Z Z (Qo Z Z (hK _ _ (Qb (kp4 Z Z Z Z) ?_))))))
   refine Qy Z (fun h3 => ?_) (fun h3 => ?_)
   ·try rw [h3]
    try simp only [qB] at h3
    refine Qf fun K hK => Q0 Z Z (QP Z Z Z Z Z Z Z Z (Qa Z (hK _ _ (Qb (kp2 Z Z) ?_))))
    refine Qt (Ql (Post.eq (Xx (ds := [.int .i64 _, .int .i64 _, .int .i64 _, .str _, .str _]) (d' := .bool _) (cs := [_, _, _, _, _]) Z Z Z Z Z ⟨rfl, rfl⟩) ?_))
    (repeat clear hK K); first | (simp [XY, dOV, h1, h2, h3]; done) | (simp_all [XY, dOV]; done)
   ·try rw [h3]
    try simp only [qB] at h3
    refine Qw (Qd (kp3 Z Z Z) (Qf fun K hK => ZB Z (hK _ _ (Qb (kp4 Z Z Z Z) ?_))))
    refine QG ?_ -- 1
    refine Qf fun K hK => Qa Z (hK _ _ (Qb (kp4 Z Z Z Z) ?_))
    refine QF (Qf fun K hK => YH Z Z (Qa Z (hK _ _ (Qb (kp5 Z Z Z Z Z) ?_))))
    refine Qy Z (fun h4 => ?_) (fun h4 => ?_)
    ·try rw [h4]
     try simp only [qB] at h4
     refine QY fun K hK => Qm Z Z (QE Z Z Z (Za Z Z (Qr (by have := QbX (by simpa using h1); omega) (by have := QbX (by simpa using h1); omega)) (Q0 Z Z (QP Z Z Z Z Z Z Z Z (hK _ ?_)))))
     refine Qg (Qd (kp2 Z Z) ?_)
     refine QG ?_ -- 2
     refine Qf fun K hK => QN (cs := [_, _, _, _, _]) Z Z Z Z (QD (Zw (by simp) (by simp)) Z Z (.inr Z) (Yn Z (hK _ _ (Qb (kp3 Z Z Z) ?_))))
     refine Qy Z (fun h5 => ?_) (fun h5 => ?_)
     ·try rw [h5]
      try simp only [qB] at h5
      refine Qf fun K hK => Q0 Z Z (QP Z Z Z Z Z Z Z Z (Qa Z (hK _ _ (Qb (kp2 Z Z) ?_))))
      refine Qt (Ql (Post.eq (Xx (ds := [.int .i64 _, .int .i64 _, .int .i64 _, .str _, .str _]) (d' := .bool _) (cs := [_, _, _, _, _]) Z Z Z Z Z ⟨rfl, rfl⟩) ?_))
      (repeat clear hK K); first | (simp [XY, dOV, h1, h2, h3, h4, h5]; done) | (simp_all [XY, dOV]; done)
     ·try rw [h5]
      try simp only [qB] at h5
      refine Qw (Qd (kp2 Z Z) (Qf fun K hK => QN (cs := [_, _, _, _, _]) Z Z Z Z (QP Z Z Z Z Z Z Z Z (Qa Z (hK _ _ (Qb (kp2 Z Z) ?_))))))
      refine Qt (Post.eq (Xx (ds := [.int .i64 _, .int .i64 _, .int .i64 _, .str _, .str _]) (d' := .bool _) (cs := [_, _, _, _, _]) Z Z Z Z Z ⟨rfl, rfl⟩) ?_)
      (repeat clear hK K); first | (simp [XY, dOV, h1, h2, h3, h4, h5]; done) | (simp_all [XY, dOV]; done)
    ·try rw [h4]
     try simp only [qB] at h4
     refine Qf fun K hK => YH Z Z (Qa Z (hK _ _ (Qb (kp4 Z Z Z Z) ?_)))
     refine Qy Z (fun h6 => ?_) (fun h6 => ?_)
     ·try rw [h6]
      try simp only [qB] at h6
      refine QY fun K hK => Qm Z Z (QE Z Z Z (Qm Z Z (QE Z Z Z (Za Z Z (Qr (by have := QbX (by simpa using h1); omega) (by have := QbX (by simpa using h1); omega)) (Q0 Z Z (QP Z Z Z Z Z Z Z Z (hK _ ?_)))))))
      refine Qg (Qd (kp2 Z Z) ?_)
      refine QG ?_ -- 2
      refine Qf fun K hK => QN (cs := [_, _, _, _, _]) Z Z Z Z (QD (Zw (by simp) (by simp)) Z Z (.inr Z) (Yn Z (hK _ _ (Qb (kp3 Z Z Z) ?_))))
      refine Qy Z (fun h7 => ?_) (fun h7 => ?_)
      ·try rw [h7]
       try simp only [qB] at h7
       refine Qf fun K hK => Q0 Z Z (QP Z Z Z Z Z Z Z Z (Qa Z (hK _ _ (Qb (kp2 Z Z) ?_))))
       refine Qt (Ql (Post.eq (Xx (ds := [.int .i64 _, .int .i64 _, .int .i64 _, .str _, .str _]) (d' := .bool _) (cs := [_, _, _, _, _]) Z Z Z Z Z ⟨rfl, rfl⟩) ?_))
       (repeat clear hK K); first | (simp [XY, dOV, h1, h2, h3, h4, h6, h7]; done) | (simp_all [XY, dOV]; done)
      ·try rw [h7]
       try simp only [qB] at h7
       refine Qw (Qd (kp2 Z Z) (Qf fun K hK => QN (cs := [_, _, _, _, _]) Z Z Z Z (QP Z Z Z Z Z Z Z Z (Qa Z (hK _ _ (Qb (kp2 Z Z) ?_))))))
       refine Qt (Post.eq (Xx (ds := [.int .i64 _, .int .i64 _, .int .i64 _, .str _, .str _]) (d' := .bool _) (cs := [_, _, _, _, _]) Z Z Z Z Z ⟨rfl, rfl⟩) ?_)
       (repeat clear hK K); first | (simp [XY, dOV, h1, h2, h3, h4, h6, h7]; done) | (simp_all [XY, dOV]; done)
     ·try rw [h6]
      try simp only [qB] at h6
      refine QY fun K hK => Qm Z Z (QE Z Z Z (Qm Z Z (QE Z Z Z (Qm Z Z (QE Z Z Z (Za Z Z (Qr (by have := QbX (by simpa using h1); omega) (by have := QbX (by simpa using h1); omega)) (Q0 Z Z (QP Z Z Z Z Z Z Z Z (hK _ ?_)))))))))
      refine Qg (Qd (kp2 Z Z) ?_)
      refine QG ?_ -- 2
      refine Qf fun K hK => QN (cs := [_, _, _, _, _]) Z Z Z Z (QD (Zw (by simp) (by simp)) Z Z (.inr Z) (Yn Z (hK _ _ (Qb (kp3 Z Z Z) ?_))))
      refine Qy Z (fun h8 => ?_) (fun h8 => ?_)
      ·try rw [h8]
       try simp only [qB] at h8
       refine Qf fun K hK => Q0 Z Z (QP Z Z Z Z Z Z Z Z (Qa Z (hK _ _ (Qb (kp2 Z Z) ?_))))
       refine Qt (Ql (Post.eq (Xx (ds := [.int .i64 _, .int .i64 _, .int .i64 _, .str _, .str _]) (d' := .bool _) (cs := [_, _, _, _, _]) Z Z Z Z Z ⟨rfl, rfl⟩) ?_))
       (repeat clear hK K); first | (simp [XY, dOV, h1, h2, h3, h4, h6, h8]; done) | (simp_all [XY, dOV]; done)
      ·try rw [h8]
       try simp only [qB] at h8
       refine Qw (Qd (kp2 Z Z) (Qf fun K hK => QN (cs := [_, _, _, _, _]) Z Z Z Z (QP Z Z Z Z Z Z Z Z (Qa Z (hK _ _ (Qb (kp2 Z Z) ?_))))))
       refine Qt (Post.eq (Xx (ds := [.int .i64 _, .int .i64 _, .int .i64 _, .str _, .str _]) (d' := .bool _) (cs := [_, _, _, _, _]) Z Z Z Z Z ⟨rfl, rfl⟩) ?_)
       (repeat clear hK K); first | (simp [XY, dOV, h1, h2, h3, h4, h6, h8]; done) | (simp_all [XY, dOV]; done)
theorem Qcq {a b c : Int} {p q : List UInt8} (hp : p.length <= 1000000) (hq : q.length <= 1000000) : Ok Tryz.prog 87 [.agg [.int .i64 a, .int .i64 b, .int .i64 c, .str p, .str q]] (dOV (QhA a b c p q)) := by
 refine Ok.ofT ZZ Tryz.func87 Qqf (Nat.le_of_ble_eq_true Z) ?_
 show TW _ _ tf87.body _ _
 refine Qf fun K hK => ZH Z Z Z (ZB Z (Qa Z (hK _ _ (Qb (kp2 Z Z) ?_))))
 refine QG ?_ -- 0
 refine Qf fun K hK => QN (cs := [_, _, _, _, _]) Z Z Z Z (QD (Zw (by omega) (by omega)) Z Z (.inr Z) (Yn Z (hK _ _ (Qb (kp3 Z Z Z) ?_))))
 refine Qy Z (fun h1 => ?_) (fun h1 => ?_)
 ·try rw [h1]
  try simp only [qB] at h1
  refine Qf fun K hK => Q0 Z Z (QP Z Z Z Z Z Z Z Z (Qa Z (hK _ _ (Qb (kp2 Z Z) ?_))))
  refine Qt (Ql (Post.eq (Xx (ds := [.int .i64 _, .int .i64 _, .int .i64 _, .str _, .str _]) (d' := .bool _) (cs := [_, _, _, _, _]) Z Z Z Z Z ⟨rfl, rfl⟩) ?_))
  simp [QhA, dOV, h1]
 ·try rw [h1]
  try simp only [qB] at h1
  refine Qw (Qd (kp2 Z Z) ?_)
  refine QG ?_ -- 1
  refine Qf fun K hK => Qm Z Z (QE Z Z Z (Qg0 Z Z (hK _ _ (Qb (kp3 Z Z Z) ?_))))
  refine Qy Z (fun h2 => ?_) (fun h2 => ?_)
  ·try rw [h2]
   try simp only [qB] at h2
   refine Qf fun K hK => Qm Z Z (QE Z Z Z (Qm Z Z (QE Z Z Z (Qm Z Z (QE Z Z Z (Q0 Z Z (QP Z Z Z Z Z Z Z Z (Qa Z (hK _ _ (Qb (kp2 Z Z) ?_))))))))))
   refine Qt (Ql (Post.eq (Xx (ds := [.int .i64 _, .int .i64 _, .int .i64 _, .str _, .str _]) (d' := .bool _) (cs := [_, _, _, _, _]) Z Z Z Z Z ⟨rfl, rfl⟩) ?_))
   simp [QhA, dOV, h1, h2]
  ·try rw [h2]
   try simp only [qB] at h2
   refine Qw (Qd (kp2 Z Z) ?_)
   refine QG ?_ -- 2
   refine Qf fun K hK => Qa Z (hK _ _ (Qb (kp3 Z Z Z) ?_))
   refine QF ?_
   refine ZK (ι := Nat) (fun m => ⟨[(1, .ref 1 0 0), (2, .ref 2 0 0), (4, .int .i64 ((m : Int) - 1))], [(1, ⟨[[.int .i64 a, .int .i64 b, .int .i64 c, .str p, .str q]], 5, 58, true⟩), (2, ⟨[[.int .i64 0, .int .i64 0, .int .i64 0, .str [], .str []]], 5, 58, true⟩)]⟩) (fun m => m <= 3 /\ Xz a b c p q 3 = Xz a b c p q m) (fun m => m) 3 ?_ ?_ ?_
   ·exact Ze (l := [1, 2, 4]) (lH := [1, 2]) (kp3 rfl rfl rfl) (Qe rfl (Qe rfl Qq)) rfl rfl rfl
   ·exact ⟨by omega, rfl⟩
   intro m hI
   obtain ⟨hI1, hI2⟩ := hI
   try dsimp only
   refine QG ?_ -- 3
   refine Qf fun K hK => Qa Z (QjR Z Z (hK _ _ (Qb (kp4 Z Z Z Z) ?_)))
   refine Qy Z (fun h3 => ?_) (fun h3 => ?_)
   ·try rw [h3]
    try simp only [qB] at h3
    rcases Nat.eq_zero_or_pos m with hm | hm <;> first | omega | skip
    refine Qw (Qd (kp3 Z Z Z) ?_)
    refine QG ?_ -- 4
    refine QF (Qf fun K hK => QN (cs := [_, _, _, _, _]) Z Z Z Z (Qa Z (QD (Qcp (by omega) (by omega)) Z Z (.inl Z) (Qa Z (Zh Z Z (Zh Z Z (ZB Z (QP Z Z Z Z Z Z Z Z (Qa Z (hK _ _ (Qb (kp5 Z Z Z Z Z) ?_)))))))))))
    refine Qf fun K hK => Qa Z (hK _ _ (Qb (kp5 Z Z Z Z Z) ?_))
    refine Qy Z (fun h4 => ?_) (fun h4 => ?_)
    ·try rw [h4]
     try simp only [qB] at h4
     refine Qf fun K hK => QN (cs := [_, _, _, _, _]) Z Z Z Z (QP Z Z Z Z Z Z Z Z (Qa Z (hK _ _ (Qb (kp2 Z Z) ?_))))
     refine Qt (Qs (Ql (Q8 (Qs (Ql (Post.eq (Xx (ds := [.int .i64 _, .int .i64 _, .int .i64 _, .str _, .str _]) (d' := .bool _) (cs := [_, _, _, _, _]) Z Z Z Z Z ⟨rfl, rfl⟩) ?_))))))
     subst h2
     simp [QhA, dOV, h1, hI2, Qg8 hm h4, h4]
    ·try rw [h4]
     try simp only [qB] at h4
     refine Qw (Qg (Qd (kp3 Z Z Z) (QY fun K hK => Qa Z (Qb2 Z Z (by first | exact Qr (by omega) (by omega) | rfl) (Qa Z (hK _ ?_))))))
     refine Qj (m - 1) ?_ ?_ ?_
     ·refine Ze (l := [1, 2, 4]) (lH := [1, 2]) (kp3 Z Z Z) (Qe Z (Qe Z Qq)) ?_ Z rfl; simp only [List.cons.injEq, Prod.mk.injEq, D.int.injEq, and_true, true_and]; omega
     ·exact ⟨by omega, by rw [hI2]; exact Qh9 hm h4⟩
     ·show m - 1 < m; omega
   ·try rw [h3]
    try simp only [qB] at h3
    rcases Nat.eq_zero_or_pos m with hm | hm <;> first | omega | skip
    refine Zi (QI (Qv (QC (Qd (kp1 Z) (Qf fun K hK => Q0 Z Z (QP Z Z Z Z Z Z Z Z (Qa Z (hK _ _ (Qb (kp2 Z Z) ?_)))))))))
    refine Qt (Post.eq (Xx (ds := [.int .i64 _, .int .i64 _, .int .i64 _, .str _, .str _]) (d' := .bool _) (cs := [_, _, _, _, _]) Z Z Z Z Z ⟨rfl, rfl⟩) ?_)
    subst h2
    subst hm
    have hb : Xz a b c [] q 3 = none := hI2
    simp [QhA, dOV, h1, hb]
end Go.Proofs
namespace Go.Proofs
open Go Go.Abs M3 M25
set_option linter.unusedVariables false
set_option linter.unusedSimpArgs false
theorem XP {e a b c : Int} {p q : List UInt8} {f : Bool} : Ok Tryz.prog 118 [.agg [.int .i64 e, .int .i64 a, .int .i64 b, .int .i64 c, .str p, .str q, .bool f]] (.bool (QfU e a b c p q f)) := by
 refine Ok.ofT ZZ Tryz.func118 QoR (Nat.le_of_ble_eq_true Z) ?_
 show TW _ _ tf118.body _ _
 refine Qf fun K hK => ZH Z Z Z (Qa Z (hK _ _ (Qb (kp1 Z) ?_)))
 refine Qf fun K hK => Qm Z Z (QE Z Z Z (Xt Z Z (Qa Z ?_)))
 refine QB (g := 6) Z (fun h1 => ?_) (fun h1 => ?_)
 ·try rw [h1]
  try simp only [qB] at h1
  refine Qz Z (Qz Z (Qz Z (Qz Z (QX Z (QX Z (QX Z (QX Z (Qz Z (Qz Z (QX Z (QX Z ?_)))))))))))
  refine QX Z (QX Z (Qz Z (Qo Z Z (Qa Z (hK _ _ (Qb (kp1 Z) ?_))))))
  refine Qt (Qp Z ?_)
  (repeat clear hK K); simp_all [QfU]
 ·try rw [h1]
  try simp only [qB] at h1
  refine Qi Z (Qm Z Z (Qi Z (QE Z Z Z (Qi Z (Yn Z (Qi Z (Qa Z ?_)))))))
  refine QB (g := 10) Z (fun h2 => ?_) (fun h2 => ?_)
  ·try rw [h2]
   try simp only [qB] at h2
   refine Qi Z (Qm Z Z (Qi Z (Qm Z Z (Qi Z (QE Z Z Z (Qi Z (QaF Z Z (Qi Z (Qo Z Z (Qi Z (Qa Z ?_)))))))))))
   refine QB (g := 16) Z (fun h3 => ?_) (fun h3 => ?_)
   ·try rw [h3]
    try simp only [qB] at h3
    refine Qi Z (Qm Z Z (Qi Z (QN (cs := [_, _, _, _, _]) Z Z Z Z (Qi Z (QD (XO) Z Z (.inr Z) (Qi Z (Yn Z (Qi Z (Qo Z Z (Qo Z Z (Qa Z ?_)))))))))))
    refine hK _ _ (Qb (kp1 Z) ?_)
    refine Qt (Qp Z ?_)
    (repeat clear hK K); simp_all [QfU]
   ·try rw [h3]
    try simp only [qB] at h3
    refine Qz Z (Qz Z (Qz Z (Qz Z (Qi Z (Qo Z Z (Qo Z Z (Qa Z (hK _ _ (Qb (kp1 Z) ?_)))))))))
    refine Qt (Qp Z ?_)
    (repeat clear hK K); simp_all [QfU]
  ·try rw [h2]
   try simp only [qB] at h2
   refine Qz Z (Qz Z (Qz Z (Qz Z (Qi Z (Qo Z Z (Qi Z (Qa Z (Qz Z (Qz Z (Qz Z (Qz Z ?_)))))))))))
   refine Qi Z (Qo Z Z (Qo Z Z (Qa Z (hK _ _ (Qb (kp1 Z) ?_)))))
   refine Qt (Qp Z ?_)
   (repeat clear hK K); simp_all [QfU]
theorem Qb9 {a b c : Int} {p q : List UInt8} : Ok Tryz.prog 64 [.agg [.int .i64 a, .int .i64 b, .int .i64 c, .str p, .str q]] (.agg (dCu (QeZ a b c))) := by
 refine Ok.ofT ZZ Tryz.func64 QpU (Nat.le_of_ble_eq_true Z) ?_
 show TW _ _ tf64.body _ _
 refine Qf fun K hK => ZH Z Z Z (ZB Z (hK _ _ (Qb (kp2 Z Z) ?_)))
 refine QG ?_ -- 0
 refine Qf fun K hK => QN (cs := [_, _, _, _, _]) Z Z Z Z (QD (XO) Z Z (.inr Z) (hK _ _ (Qb (kp3 Z Z Z) ?_)))
 refine Qy Z (fun h1 => ?_) (fun h1 => ?_)
 ·try rw [h1]
  try simp only [qB] at h1
  refine Qf fun K hK => QD (Y1) Z Z (.inl Z) (QP Z Z Z Z Z Z Z Z (hK _ _ (Qb (kp1 Z) ?_)))
  refine Qt (Ql (Post.eq (Zz (ds := [.int .i64 _, .int .i64 _, .int .i64 _, .int .i64 _, .str _, .str _, .bool _]) (cs := [_, _, _, _, _, _, _]) Z Z Z Z Z) ?_))
  simp [QeZ, dCu, Qcg, h1]
 ·try rw [h1]
  try simp only [qB] at h1
  refine Qw (Qd (kp2 Z Z) (Qf fun K hK => Qm Z Z (QE Z Z Z (Qm Z Z (QE Z Z Z (Qm Z Z (QE Z Z Z (Q0 Z Z (QD (YL) Z Z (.inl Z) (QP Z Z Z Z Z Z Z Z ?_))))))))))
  refine hK _ _ (Qb (kp1 Z) ?_)
  refine Qt (Post.eq (Zz (ds := [.int .i64 _, .int .i64 _, .int .i64 _, .int .i64 _, .str _, .str _, .bool _]) (cs := [_, _, _, _, _, _, _]) Z Z Z Z Z) ?_)
  simp [QeZ, dCu, Qcg, h1]
theorem Qbt {a b c : Int} {p q : List UInt8} : Ok Tryz.prog 65 [.agg [.int .i64 a, .int .i64 b, .int .i64 c, .str p, .str q]] (.agg (dCu (Qc3 a b c))) := by
 refine Ok.ofT ZZ Tryz.func65 QpV (Nat.le_of_ble_eq_true Z) ?_
 show TW _ _ tf65.body _ _
 refine Qf fun K hK => ZH Z Z Z (ZB Z (hK _ _ (Qb (kp2 Z Z) ?_)))
 refine Qf fun K hK => Qm Z Z (QE Z Z Z (Qm Z Z (QE Z Z Z (Qm Z Z (QE Z Z Z (Q0 Z Z (QD (Qcq (by simp) (by simp)) Z Z (.inl Z) (Qa Z (Zh Z Z (Zh Z Z ?_))))))))))
 refine ZB Z (QP Z Z Z Z Z Z Z Z (Qa Z (hK _ _ (Qb (kp3 Z Z Z) ?_))))
 refine QG ?_ -- 0
 refine Qf fun K hK => Qa Z (Yn Z (hK _ _ (Qb (kp3 Z Z Z) ?_)))
 refine Qy Z (fun h1 => ?_) (fun h1 => ?_)
 ·try rw [h1]
  try simp only [qB] at h1
  refine Qf fun K hK => QD (Xb) Z Z (.inl Z) (QP Z Z Z Z Z Z Z Z (hK _ _ (Qb (kp1 Z) ?_)))
  refine Qt (Ql (Post.eq (Zz (ds := [.int .i64 _, .int .i64 _, .int .i64 _, .int .i64 _, .str _, .str _, .bool _]) (cs := [_, _, _, _, _, _, _]) Z Z Z Z Z) ?_))
  cases hn : QhA a b c [] [] <;> simp [Qc3, dCu, Qfp, hn] at *
 ·try rw [h1]
  try simp only [qB] at h1
  refine Qw (Qd (kp2 Z Z) (Qf fun K hK => QN (cs := [_, _, _, _, _]) Z Z Z Z (QD (YL) Z Z (.inl Z) (QP Z Z Z Z Z Z Z Z (hK _ _ (Qb (kp1 Z) ?_))))))
  refine Qt (Post.eq (Zz (ds := [.int .i64 _, .int .i64 _, .int .i64 _, .int .i64 _, .str _, .str _, .bool _]) (cs := [_, _, _, _, _, _, _]) Z Z Z Z Z) ?_)
  cases hn : QhA a b c [] [] <;> simp [Qc3, dCu, Qfp, hn] at *
theorem XQ  : Ok Tryz.prog 110 [] (ZR [(Qcg, Qfp)]) := by
 refine Ok.ofT ZZ Tryz.func110 QoL (Nat.le_of_ble_eq_true Z) ?_
 show TW _ _ tf110.body _ _
 refine Qf fun K hK => Qa Z (hK _ _ (Qb (QQ) ?_))
 refine Qf fun K hK => QD (Y1) Z Z (.inl Z) (QD (Xb) Z Z (.inl Z) (Q0 Z Z (QM Z Z (Qa Z (hK _ _ (Qb (kp1 Z) ?_))))))
 refine Qt (ZL Z ?_)
 rfl
theorem Z4  : Ok Tryz.prog 61 [] (QgS ([], [])) := by
 refine Ok.ofT ZZ Tryz.func61 QpR (Nat.le_of_ble_eq_true Z) ?_
 show TW _ _ tf61.body _ _
 refine Qf fun K hK => ZB Z (hK _ _ (Qb (kp1 Z) ?_))
 refine Qf fun K hK => Q0 Z Z (QP Z Z Z Z Z Z Z Z (hK _ _ (Qb (kp1 Z) ?_)))
 refine Qt (Post.eq (Zz (ds := [.sl _, .sl _]) (cs := [_, _]) Z Z Z Z Z) ?_)
 rfl
theorem QcM  : Ok Tryz.prog 90 [] (QgS ([(Qcg, Qfp)], [(Qcg, Qfp)])) := by
 refine Ok.ofT ZZ Tryz.func90 Qqi (Nat.le_of_ble_eq_true Z) ?_
 show TW _ _ tf90.body _ _
 refine Qf fun K hK => ZB Z (hK _ _ (Qb (kp1 Z) ?_))
 refine Qf fun K hK => QD (XQ) Z Z (.inl Z) (QD (XQ) Z Z (.inl Z) (Q0 Z Z (QP Z Z Z Z Z Z Z Z (hK _ _ (Qb (kp1 Z) ?_)))))
 refine Qt (Post.eq (Zz (ds := [.sl _, .sl _]) (cs := [_, _]) Z Z Z Z Z) ?_)
 rfl
theorem XN {a b c : Int} {p q : List UInt8} (hp : p.length <= 1000000) (hq : q.length <= 1000000) : Ok Tryz.prog 33 [.agg [.int .i64 a, .int .i64 b, .int .i64 c, .str p, .str q]] (QgS (Xe a b c p q)) := by
 refine Ok.ofT ZZ Tryz.func33 Qps (Nat.le_of_ble_eq_true Z) ?_
 show TW _ _ tf33.body _ _
 refine Qf fun K hK => ZH Z Z Z (ZB Z (hK _ _ (Qb (kp2 Z Z) ?_)))
 refine QG ?_ -- 0
 refine Qf fun K hK => QN (cs := [_, _, _, _, _]) Z Z Z Z (QD (Zw (by omega) (by omega)) Z Z (.inr Z) (Yn Z (hK _ _ (Qb (kp3 Z Z Z) ?_))))
 refine Qy Z (fun h1 => ?_) (fun h1 => ?_)
 ·try rw [h1]
  try simp only [qB] at h1
  refine Qf fun K hK => QD (Z4) Z Z (.inl Z) (QP Z Z Z Z Z Z Z Z (hK _ _ (Qb (kp1 Z) ?_)))
  refine Qt (Ql (Post.eq (Zz (ds := [.sl _, .sl _]) (cs := [_, _]) Z Z Z Z Z) ?_))
  simp [Xe, QgS, ZR, QdV, dCu, h1]
 ·try rw [h1]
  try simp only [qB] at h1
  refine Qw (Qd (kp2 Z Z) ?_)
  refine QG ?_ -- 1
  refine Qf fun K hK => Qm Z Z (QE Z Z Z (Qg0 Z Z (hK _ _ (Qb (kp3 Z Z Z) ?_))))
  refine Qy Z (fun h2 => ?_) (fun h2 => ?_)
  ·try rw [h2]
   try simp only [qB] at h2
   refine Qf fun K hK => QO (ds0 := [6, 3, 2, 1, 0]) (cs := [_, _, _, _, _]) Z Z Z Z Z Z (Q4 (ds0 := [3, 2, 1, 0]) (YL) Z Z (.inl Z) Z Z (QO (ds0 := [4, 3, 2, 1, 0]) (cs := [_, _, _, _, _]) Z Z Z Z Z Z (Q4 (ds0 := [3, 2, 1, 0]) (Qbs) Z Z (.inl Z) Z Z (Q0 Z Z (QM Z Z (Q0 Z Z (Xg (ds0 := []) Z Z Z Z Z Z Z Z Z Z (hK _ _ (Qb (kp1 Z) ?_)))))))))
   refine Qt (Ql (Post.eq (Zz (ds := [.sl _, .sl _]) (cs := [_, _]) Z Z Z Z Z) ?_))
   simp [Xe, QgS, ZR, QdV, dCu, h1, h2]
  ·try rw [h2]
   try simp only [qB] at h2
   refine Qw (Qd (kp2 Z Z) (Qf fun K hK => QO (ds0 := [6, 3, 2, 1, 0]) (cs := [_, _, _, _, _]) Z Z Z Z Z Z (Q4 (ds0 := [3, 2, 1, 0]) (Qb9) Z Z (.inl Z) Z Z (QO (ds0 := [4, 3, 2, 1, 0]) (cs := [_, _, _, _, _]) Z Z Z Z Z Z (Q4 (ds0 := [3, 2, 1, 0]) (Qbt) Z Z (.inl Z) Z Z (Q0 Z Z (QM Z Z (Q0 Z Z (Xg (ds0 := []) Z Z Z Z Z Z Z Z Z Z (hK _ _ (Qb (kp1 Z) ?_)))))))))))
   refine Qt (Post.eq (Zz (ds := [.sl _, .sl _]) (cs := [_, _]) Z Z Z Z Z) ?_)
   subst h2
   simp [Xe, QgS, ZR, QdV, dCu, h1]
end Go.Proofs
namespace Go.Proofs
open Go Go.Abs M3 M25
set_option linter.unusedVariables false
set_option linter.unusedSimpArgs false
theorem Z9 {l : List (Cu × Cu)} (hl : Sm l) : Ok Tryz.prog 117 [ZR l] (.bool (Qfs l)) := by
 refine Ok.ofT ZZ Tryz.func117 QoQ (Nat.le_of_ble_eq_true Z) ?_
 show TW _ _ tf117.body _ _
 have hn := hl.1
 refine Qf fun K hK => Qa Z (hK _ _ (Qb (kp1 Z) ?_))
 refine QG ?_ -- 0
 refine Qf fun K hK => Qa Z (hK _ _ (Qb (kp2 Z Z) ?_))
 refine QF ?_
 refine ZK (ι := Nat) (fun i => ⟨[(0, ZR l), (3, .int .i64 i)], []⟩) (fun i => i <= l.length /\ (List.range i).all (Qns l) = true) (fun i => l.length - i) 0 ?_ ?_ ?_
 ·exact QV (kp2 rfl rfl)
 ·exact ⟨Nat.zero_le _, rfl⟩
 intro i hI
 try dsimp only
 refine QG ?_ -- 1
 refine Qf fun K hK => Qa Z (Qa Z (Q5 Z Z (YF Z Z (hK _ _ (Qb (kp3 Z Z Z) ?_)))))
 refine Qy Z (fun h1 => ?_) (fun h1 => ?_)
 ·try rw [h1]
  try simp only [qA] at h1
  refine Qw (Qd (kp2 Z Z) ?_)
  refine QG ?_ -- 2
  refine QF (Qf fun K hK => Qa Z (Qa Z (QS Z Z Z (by omega) (Zj (by omega)) Z (QO (ds0 := [20, 19, 18, 17, 16, 15, 14, 13, 12, 11, 10, 9, 8, 7, 6, 5, 4, 3, 2, 1, 0]) (cs := [_, _, _, _, _, _, _, _, _, _, _, _, _, _]) Z Z Z Z Z Z (Q4 (ds0 := [19, 18, 17, 16, 15, 14, 13, 12, 11, 10, 9, 8, 7, 6, 5, 4, 3, 2, 1, 0]) (Xv (hl.at (i := i) (by omega)).1.1 (hl.at (i := i) (by omega)).1.2 (hl.at (i := i) (by omega)).2.1 (hl.at (i := i) (by omega)).2.2) Z Z (.inr Z) Z Z (Yn Z (Qa Z ?_)))))))
  refine QB (g := 16) Z (fun h2 => ?_) (fun h2 => ?_)
  ·try rw [h2]
   try simp only [qA] at h2
   refine Qz Z (Qz Z (Qz Z (QX Z (QX Z (QX Z (QX Z (QX Z (QX Z (QX Z (QX Z (QX Z ?_)))))))))))
   refine QX Z (QX Z (QX Z (QX Z (Qz Z (Qo Z Z (hK _ _ (Qb (kp3 Z Z Z) ?_)))))))
   refine ZJ Z (Qf fun K hK => Qa Z (hK _ _ (Qb (kp1 Z) ?_)))
   refine Qt (Qs (Ql (Q8 (Qs (Ql (Qp Z ?_))))))
   first
    | exact (QgC hI.2 (by omega)).symm
    | exact (Qa8 (i := i) (by omega) (QfX (by omega) (.inl h2))).symm
    | (simp only [Qdb] at *; exact (Qa8 (i := i) (by omega) (QfX (by omega) (.inr ⟨by omega, h4⟩))).symm)
  ·try rw [h2]
   try simp only [qA] at h2
   refine Qi Z (Qa Z (Qi Z (Qcc Z Z (Qi Z (Qa Z ?_)))))
   refine QB (g := 19) Z (fun h3 => ?_) (fun h3 => ?_)
   ·try rw [h3]
    try simp only [qA] at h3
    refine Qi Z (Qa Z (Qi Z (Qa Z (Qi Z (Qb2 Z Z (by first | exact Qr (by omega) (by omega) | rfl) (Qi Z (QS Z Z Z (by omega) (Xk (by omega) (by omega)) Z (Qi Z (Yz Z Z (Qi Z (QO (ds0 := [3, 2, 1, 0]) (cs := [_, _, _, _, _, _, _]) Z Z Z Z Z Z ?_)))))))))))
    refine Qi Z (Qa Z (Qi Z (Qa Z (Qi Z (QS Z Z Z (by omega) (Zj (by omega)) Z (Qi Z (Yz Z Z (Qi Z (QO (ds0 := [3, 2, 1, 0]) (cs := [_, _, _, _, _, _, _]) Z Z Z Z Z Z (Qi Z (Q4 (ds0 := [2, 1, 0]) (Zv (hl.at (i := ((i : Int) - 1).toNat) (by omega)).2.1 (hl.at (i := ((i : Int) - 1).toNat) (by omega)).2.2 (hl.at (i := i) (by omega)).1.1 (hl.at (i := i) (by omega)).1.2) Z Z (.inr Z) Z Z ?_)))))))))))
    refine Qi Z (QjR Z Z (Qi Z (Qo Z Z (Qo Z Z (hK _ _ (Qb (kp3 Z Z Z) ?_))))))
    refine Qy Z (fun h4 => ?_) (fun h4 => ?_)
    ·try rw [h4]
     try simp only [qA] at h4
     refine Qf fun K hK => Qa Z (hK _ _ (Qb (kp1 Z) ?_))
     refine Qt (Qs (Ql (Q8 (Qs (Ql (Qp Z ?_))))))
     first
      | exact (QgC hI.2 (by omega)).symm
      | exact (Qa8 (i := i) (by omega) (QfX (by omega) (.inl h2))).symm
      | (simp only [Qdb] at *; exact (Qa8 (i := i) (by omega) (QfX (by omega) (.inr ⟨by omega, h4⟩))).symm)
    ·try rw [h4]
     try simp only [qA] at h4
     refine Qw (Qg (Qd (kp2 Z Z) (QY fun K hK => Qa Z (Za Z Z (by first | exact Qr (by omega) (by omega) | rfl) (Qa Z (hK _ ?_))))))
     refine Qj (i + 1) ?_ ?_ ?_
     ·exact QV (kp2 rfl rfl)
     ·exact ⟨by omega, QgD hI.2 (Qml (by omega) h2 (by first | exact .inl (by omega) | (simp only [Qdb] at *; exact .inr (Int.not_le.1 h4))))⟩
     ·first | omega | (simp only; omega) | (dsimp only; omega)
   ·try rw [h3]
    try simp only [qA] at h3
    refine Qz Z (Qz Z (Qz Z (Qz Z (Qz Z (Qz Z (Qz Z (Qz Z (Qz Z (Qz Z (Qz Z (Qz Z ?_)))))))))))
    refine Qz Z (Qi Z (Qo Z Z (Qo Z Z (hK _ _ (Qb (kp3 Z Z Z) ?_)))))
    refine Zu Z (Qw (Qg (Qd (kp2 Z Z) (QY fun K hK => Qa Z (Za Z Z (by first | exact Qr (by omega) (by omega) | rfl) (Qa Z (hK _ ?_)))))))
    refine Qj (i + 1) ?_ ?_ ?_
    ·exact QV (kp2 rfl rfl)
    ·exact ⟨by omega, QgD hI.2 (Qml (by omega) h2 (by first | exact .inl (by omega) | (simp only [Qdb] at *; exact .inr (Int.not_le.1 h4))))⟩
    ·first | omega | (simp only; omega) | (dsimp only; omega)
 ·try rw [h1]
  try simp only [qA] at h1
  refine Zi (QI (Qv (QC (Qd (QQ) (Qf fun K hK => Qa Z (hK _ _ (Qb (kp1 Z) ?_)))))))
  refine Qt (Qp Z ?_)
  first
   | exact (QgC hI.2 (by omega)).symm
   | exact (Qa8 (i := i) (by omega) (QfX (by omega) (.inl h2))).symm
   | (simp only [Qdb] at *; exact (Qa8 (i := i) (by omega) (QfX (by omega) (.inr ⟨by omega, h4⟩))).symm)
theorem QaH {l : List (Cu × Cu)} (hl : Sm l) {x y : Cu} (hx : Cu.sm x) (hy : Cu.sm y) : Ok Tryz.prog 121 [ZR l, .agg (dCu x), .agg (dCu y)] (.bool (mIn l x y)) := by
 refine Ok.ofT ZZ Tryz.func121 QoU (Nat.le_of_ble_eq_true Z) ?_
 show TW _ _ tf121.body _ _
 have hn := hl.1
 refine Qf fun K hK => ZH Z Z Z (ZH Z Z Z (Qa Z (hK _ _ (Qb (kp3 Z Z Z) ?_))))
 refine QG ?_ -- 0
 refine Qf fun K hK => Qa Z (hK _ _ (Qb (kp4 Z Z Z Z) ?_))
 refine QF ?_
 refine ZK (ι := Nat) (fun i => ⟨[(0, ZR l), (4, .ref 4 0 0), (5, .ref 5 0 0), (7, .int .i64 i)], [(4, ⟨[dCu x], 7, 102, true⟩), (5, ⟨[dCu y], 7, 102, true⟩)]⟩) (fun i => i <= l.length /\ (l.take i).any (inC x y) = false) (fun i => l.length - i) 0 ?_ ?_ ?_
 ·exact Ze (l := [0, 4, 5, 7]) (lH := [4, 5]) (kp4 rfl rfl rfl rfl) (Qe rfl (Qe rfl Qq)) rfl rfl rfl
 ·exact ⟨Nat.zero_le _, by simp⟩
 intro i hI
 try dsimp only
 refine QG ?_ -- 1
 refine Qf fun K hK => Qa Z (Qa Z (Q5 Z Z (YF Z Z (hK _ _ (Qb (kp5 Z Z Z Z Z) ?_)))))
 refine Qy Z (fun h1 => ?_) (fun h1 => ?_)
 ·try rw [h1]
  try simp only [qA] at h1
  refine Qw (Qd (kp4 Z Z Z Z) ?_)
  refine QG ?_ -- 2
  refine QF (Qf fun K hK => Qa Z (Qa Z (QS Z Z Z (by omega) (Zj (by omega)) Z (Yz Z Z (QO (ds0 := [11, 10, 9, 8, 7, 6, 5, 4, 3, 2, 1, 0]) (cs := [_, _, _, _, _, _, _]) Z Z Z Z Z Z (QO (ds0 := [11, 10, 9, 8, 7, 6, 5, 4, 3, 2, 1, 0]) (cs := [_, _, _, _, _, _, _]) Z Z Z Z Z Z (Q4 (ds0 := [10, 9, 8, 7, 6, 5, 4, 3, 2, 1, 0]) (Zv (hl.at (i := i) (by omega)).1.1 (hl.at (i := i) (by omega)).1.2 hx.1 hx.2) Z Z (.inr Z) Z Z (Qla Z Z (Qa Z ?_)))))))))
  refine QB (g := 22) Z (fun h2 => ?_) (fun h2 => ?_)
  ·try rw [h2]
   try simp only [qA] at h2
   refine Qi Z (QO (ds0 := [2, 1, 0]) (cs := [_, _, _, _, _, _, _]) Z Z Z Z Z Z (Qi Z (Qa Z (Qi Z (Qa Z (Qi Z (QS Z Z Z (by omega) (Zj (by omega)) Z (Qi Z (Yz Z Z (Qi Z (QO (ds0 := [2, 1, 0]) (cs := [_, _, _, _, _, _, _]) Z Z Z Z Z Z ?_)))))))))))
   refine Qi Z (Q4 (ds0 := [1, 0]) (Zv hy.1 hy.2 (hl.at (i := i) (by omega)).2.1 (hl.at (i := i) (by omega)).2.2) Z Z (.inr Z) Z Z (Qi Z (Qla Z Z (Qo Z Z (hK _ _ (Qb (kp5 Z Z Z Z Z) ?_))))))
   refine Qy Z (fun h3 => ?_) (fun h3 => ?_)
   ·try rw [h3]
    try simp only [qA] at h3
    refine Qf fun K hK => Qa Z (hK _ _ (Qb (kp1 Z) ?_))
    refine Qt (Qs (Ql (Q8 (Qs (Ql (Qp Z ?_))))))
    first
     | exact (Ql6 (i := i) (by omega) hI.2).symm
     | exact (Qh6 (i := i) (by omega) (QnS h2 h3)).symm
   ·try rw [h3]
    try simp only [qA] at h3
    refine Qw (Qg (Qd (kp4 Z Z Z Z) (QY fun K hK => Qa Z (Za Z Z (by first | exact Qr (by omega) (by omega) | rfl) (Qa Z (hK _ ?_))))))
    refine Qj (i + 1) ?_ ?_ ?_
    ·exact Ze (l := [0, 4, 5, 7]) (lH := [4, 5]) (kp4 rfl rfl rfl rfl) (Qe rfl (Qe rfl Qq)) rfl rfl rfl
    ·exact ⟨by omega, QfB (by omega) hI.2 (QnR (by first | exact .inl h2 | exact .inr h3))⟩
    ·first | omega | (simp only; omega) | (dsimp only; omega)
  ·try rw [h2]
   try simp only [qA] at h2
   refine Qz Z (Qz Z (Qz Z (Qz Z (Qz Z (Qz Z (Qz Z (Qz Z (Qo Z Z (hK _ _ (Qb (kp5 Z Z Z Z Z) ?_))))))))))
   refine Zu Z (Qw (Qg (Qd (kp4 Z Z Z Z) (QY fun K hK => Qa Z (Za Z Z (by first | exact Qr (by omega) (by omega) | rfl) (Qa Z (hK _ ?_)))))))
   refine Qj (i + 1) ?_ ?_ ?_
   ·exact Ze (l := [0, 4, 5, 7]) (lH := [4, 5]) (kp4 rfl rfl rfl rfl) (Qe rfl (Qe rfl Qq)) rfl rfl rfl
   ·exact ⟨by omega, QfB (by omega) hI.2 (QnR (by first | exact .inl h2 | exact .inr h3))⟩
   ·first | omega | (simp only; omega) | (dsimp only; omega)
 ·try rw [h1]
  try simp only [qA] at h1
  refine Zi (QI (Qv (QC (Qd (QQ) (Qf fun K hK => Qa Z (hK _ _ (Qb (kp1 Z) ?_)))))))
  refine Qt (Qp Z ?_)
  first
   | exact (Ql6 (i := i) (by omega) hI.2).symm
   | exact (Qh6 (i := i) (by omega) (QnS h2 h3)).symm
end Go.Proofs
namespace Go.Proofs
open Go Go.Abs M3 M25
set_option linter.unusedVariables false
set_option linter.unusedSimpArgs false
theorem Xj {s : List (Cu × Cu) × List (Cu × Cu)} (h1s : Sm s.1) (h2s : Sm s.2) : Ok Tryz.prog 108 [QgS s] (.bool (Qft s)) := by
 refine Ok.ofT ZZ Tryz.func108 QoJ (Nat.le_of_ble_eq_true Z) ?_
 show TW _ _ tf108.body _ _
 have hn := h1s.1
 refine Qf fun K hK => ZH Z Z Z (Qa Z (hK _ _ (Qb (kp1 Z) ?_)))
 refine QG ?_ -- 0
 refine Qf fun K hK => Qm Z Z (QE Z Z Z (QD (Z9 h1s) Z Z (.inr Z) (Yn Z (Qa Z ?_))))
 refine QB (g := 8) Z (fun h1 => ?_) (fun h1 => ?_)
 ·try rw [h1]
  try simp only [qA] at h1
  refine Qz Z (Qz Z (Qz Z (Qz Z (Qo Z Z (hK _ _ (Qb (kp2 Z Z) ?_))))))
  refine ZJ Z (Qf fun K hK => Qa Z (hK _ _ (Qb (kp1 Z) ?_)))
  refine Qt (Ql (Qp Z ?_))
  first
   | exact (Qc8 (i := i) h1 h2 (by omega) hI.2).symm
   | exact (QaA (i := i) (by omega) (.inl h4)).symm
   | exact (QaA (i := i) (by omega) (.inr h5)).symm
   | exact (QaB (.inl h1)).symm
   | exact (QaB (.inr h2)).symm
 ·try rw [h1]
  try simp only [qA] at h1
  refine Qi Z (Qm Z Z (Qi Z (QE Z Z Z (Qi Z (QD (Z9 h2s) Z Z (.inr Z) (Qi Z (Yn Z (Qo Z Z (hK _ _ (Qb (kp2 Z Z) ?_))))))))))
  refine Qy Z (fun h2 => ?_) (fun h2 => ?_)
  ·try rw [h2]
   try simp only [qA] at h2
   refine Qf fun K hK => Qa Z (hK _ _ (Qb (kp1 Z) ?_))
   refine Qt (Ql (Qp Z ?_))
   first
    | exact (Qc8 (i := i) h1 h2 (by omega) hI.2).symm
    | exact (QaA (i := i) (by omega) (.inl h4)).symm
    | exact (QaA (i := i) (by omega) (.inr h5)).symm
    | exact (QaB (.inl h1)).symm
    | exact (QaB (.inr h2)).symm
  ·try rw [h2]
   try simp only [qA] at h2
   refine Qw (Qd (kp1 Z) ?_)
   refine QG ?_ -- 1
   refine Qf fun K hK => Qa Z (hK _ _ (Qb (kp2 Z Z) ?_))
   refine QF ?_
   refine ZK (ι := Nat) (fun i => ⟨[(1, .ref 1 0 0), (3, .int .i64 i)], [(1, ⟨[[ZR s.1, ZR s.2]], 2, 78, true⟩)]⟩) (fun i => i <= s.1.length /\ (s.1.take i).all (fun x => Qbg x.1 && Qbg x.2) = true) (fun i => s.1.length - i) 0 ?_ ?_ ?_
   ·exact Ze (l := [1, 3]) (lH := [1]) (kp2 rfl rfl) (Qe rfl Qq) rfl rfl rfl
   ·exact ⟨Nat.zero_le _, by simp⟩
   intro i hI
   try dsimp only
   refine QG ?_ -- 2
   refine Qf fun K hK => Qa Z (Qm Z Z (QE Z Z Z (Q5 Z Z (YF Z Z (hK _ _ (Qb (kp3 Z Z Z) ?_))))))
   refine Qy Z (fun h3 => ?_) (fun h3 => ?_)
   ·try rw [h3]
    try simp only [qA] at h3
    refine Qw (Qd (kp2 Z Z) ?_)
    refine QG ?_ -- 3
    refine QF (Qf fun K hK => Qm Z Z (QE Z Z Z (Qa Z (QS Z Z Z (by omega) (Zj (by omega)) Z (Yz Z Z (QN (cs := [_, _, _, _, _, _, _]) Z Z Z Z (QD (XP) Z Z (.inr Z) (Yn Z (Qa Z ?_)))))))))
    refine QB (g := 29) Z (fun h4 => ?_) (fun h4 => ?_)
    ·try rw [h4]
     try simp only [qA] at h4
     refine Qz Z (Qz Z (Qz Z (Qz Z (Qz Z (Qz Z (Qz Z (Qz Z (Qo Z Z (hK _ _ (Qb (kp3 Z Z Z) ?_))))))))))
     refine ZJ Z (Qf fun K hK => Qa Z (hK _ _ (Qb (kp1 Z) ?_)))
     refine Qt (Qs (Ql (Q8 (Qs (Ql (Qp Z ?_))))))
     first
      | exact (Qc8 (i := i) h1 h2 (by omega) hI.2).symm
      | exact (QaA (i := i) (by omega) (.inl h4)).symm
      | exact (QaA (i := i) (by omega) (.inr h5)).symm
      | exact (QaB (.inl h1)).symm
      | exact (QaB (.inr h2)).symm
    ·try rw [h4]
     try simp only [qA] at h4
     refine Qi Z (Qm Z Z (Qi Z (QE Z Z Z (Qi Z (Qa Z (Qi Z (QS Z Z Z (by omega) (Zj (by omega)) Z (Qi Z (Yz Z Z (Qi Z (QN (cs := [_, _, _, _, _, _, _]) Z Z Z Z ?_)))))))))))
     refine Qi Z (QD (XP) Z Z (.inr Z) (Qi Z (Yn Z (Qo Z Z (hK _ _ (Qb (kp3 Z Z Z) ?_))))))
     refine Qy Z (fun h5 => ?_) (fun h5 => ?_)
     ·try rw [h5]
      try simp only [qA] at h5
      refine Qf fun K hK => Qa Z (hK _ _ (Qb (kp1 Z) ?_))
      refine Qt (Qs (Ql (Q8 (Qs (Ql (Qp Z ?_))))))
      first
       | exact (Qc8 (i := i) h1 h2 (by omega) hI.2).symm
       | exact (QaA (i := i) (by omega) (.inl h4)).symm
       | exact (QaA (i := i) (by omega) (.inr h5)).symm
       | exact (QaB (.inl h1)).symm
       | exact (QaB (.inr h2)).symm
     ·try rw [h5]
      try simp only [qA] at h5
      refine Qw (Qg (Qd (kp2 Z Z) (QY fun K hK => Qa Z (Za Z Z (by first | exact Qr (by omega) (by omega) | rfl) (Qa Z (hK _ ?_))))))
      refine Qj (i + 1) ?_ ?_ ?_
      ·exact Ze (l := [1, 3]) (lH := [1]) (kp2 rfl rfl) (Qe rfl Qq) rfl rfl rfl
      ·exact ⟨by omega, Zg (by omega) hI.2 (by rw [show Qbg s.1[i].1 = true from h4, show Qbg s.1[i].2 = true from h5]; rfl)⟩
      ·first | omega | (simp only; omega) | (dsimp only; omega)
   ·try rw [h3]
    try simp only [qA] at h3
    refine Zi (QI (Qv (QC (Qd (QQ) (Qf fun K hK => Qa Z (hK _ _ (Qb (kp1 Z) ?_)))))))
    refine Qt (Qp Z ?_)
    first
     | exact (Qc8 (i := i) h1 h2 (by omega) hI.2).symm
     | exact (QaA (i := i) (by omega) (.inl h4)).symm
     | exact (QaA (i := i) (by omega) (.inr h5)).symm
     | exact (QaB (.inl h1)).symm
     | exact (QaB (.inr h2)).symm
end Go.Proofs
namespace Go.Proofs
open Go Go.Abs M3 M25
set_option linter.unusedVariables false
set_option linter.unusedSimpArgs false
theorem Qam {l : List Cu} {c : Cu} (hl : l.length <= 3000000) (hs : ∀ x ∈ l, Cu.sm x) (hc : Cu.sm c) : Ok Tryz.prog 126 [Qgd l, .agg (dCu c)] (Qgd (QbG l c)) := by
 refine Ok.ofT ZZ Tryz.func126 QoZ (Nat.le_of_ble_eq_true Z) ?_
 show TW _ _ tf126.body _ _
 refine Qf fun K hK => ZH Z Z Z (Qa Z (hK _ _ (Qb (kp2 Z Z) ?_)))
 refine Qf fun K hK => Qa Z (hK _ _ (Qb (kp3 Z Z Z) ?_))
 refine QG ?_ -- 0
 refine QF ?_
 refine ZK (ι := Nat) (fun k => ⟨[(0, Qgd l), (3, .ref 3 0 0), (5, .int .i64 k)], [(3, ⟨[dCu c], 7, 102, true⟩)]⟩) (fun k => k <= l.length /\ QbG l c = l.take k ++ QbG (l.drop k) c) (fun k => l.length - k) 0 ?_ ?_ ?_
 ·exact Ze (l := [0, 3, 5]) (lH := [3]) (kp3 rfl rfl rfl) (Qe rfl Qq) rfl rfl rfl
 ·exact ⟨Nat.zero_le _, by simp⟩
 intro k hI
 try dsimp only
 refine QG ?_ -- 1
 refine Qf fun K hK => Qa Z (Qa Z (Q5 Z Z (YF Z Z (Qa Z ?_))))
 refine QB (g := 10) Z (fun h1 => ?_) (fun h1 => ?_)
 ·try rw [h1]
  try simp only [qA] at h1
  refine Qi Z (Qa Z (Qi Z (Qa Z (Qi Z (QS Z Z Z (by omega) (Zj (by omega)) Z (Qi Z (QO (ds0 := [2, 1, 0]) (cs := [_, _, _, _, _, _, _]) Z Z Z Z Z Z (Qi Z (QO (ds0 := [2, 1, 0]) (cs := [_, _, _, _, _, _, _]) Z Z Z Z Z Z (Qi Z (Q4 (ds0 := [1, 0]) (Zv (hs _ (List.getElem_mem (by omega))).1 (hs _ (List.getElem_mem (by omega))).2 hc.1 hc.2) Z Z (.inr Z) Z Z ?_)))))))))))
  refine Qi Z (YF Z Z (Qo Z Z (hK _ _ (Qb (kp4 Z Z Z Z) ?_))))
  refine Qy Z (fun h2 => ?_) (fun h2 => ?_)
  ·try rw [h2]
   try simp only [qA] at h2
   refine Qw (Qd (kp3 Z Z Z) (QF (QY fun K hK => Qa Z (Za Z Z (by first | exact Qr (by omega) (by omega) | rfl) (Qa Z (hK _ ?_))))))
   refine Qg ?_
   refine Qj (k + 1) ?_ ?_ ?_
   ·exact Ze (l := [0, 3, 5]) (lH := [3]) (kp3 rfl rfl rfl) (Qe rfl Qq) rfl rfl rfl
   ·exact ⟨by omega, QkB (by omega) h2 hI.2⟩
   ·first | omega | (simp only; omega) | (dsimp only; omega)
  ·try rw [h2]
   try simp only [qA] at h2
   refine Zi (QI (Qv (QC (Qd (kp3 Z Z Z) ?_))))
   refine QG ?_ -- 2
   refine Qf fun K hK => Qa Z (Qa Z (Q5 Z Z (YF Z Z (Qa Z ?_))))
   refine QB (g := 25) Z (fun h3 => ?_) (fun h3 => ?_)
   ·try rw [h3]
    try simp only [qA] at h3
    refine Qi Z (Qa Z (Qi Z (Qa Z (Qi Z (QS Z Z Z (by omega) (Zj (by omega)) Z (Qi Z (QO (ds0 := [2, 1, 0]) (cs := [_, _, _, _, _, _, _]) Z Z Z Z Z Z (Qi Z (QO (ds0 := [2, 1, 0]) (cs := [_, _, _, _, _, _, _]) Z Z Z Z Z Z (Qi Z (Q4 (ds0 := [1, 0]) (Zv (hs _ (List.getElem_mem (by omega))).1 (hs _ (List.getElem_mem (by omega))).2 hc.1 hc.2) Z Z (.inr Z) Z Z ?_)))))))))))
    refine Qi Z (YH Z Z (Qo Z Z (hK _ _ (Qb (kp4 Z Z Z Z) ?_))))
    refine Qy Z (fun h4 => ?_) (fun h4 => ?_)
    ·try rw [h4]
     try simp only [qA] at h4
     refine Qf fun K hK => Qa Z (Qa Z (hK _ _ (Qb (kp1 Z) ?_)))
     refine Qt (Ql (ZL Z ?_))
     rw [QkA (k := k) (by omega) (by assumption) hI.2]; rfl
    ·try rw [h4]
     try simp only [qA] at h4
     refine Qw (Qd (kp3 Z Z Z) (Qf fun K hK => Qa Z (Qa Z (Qdo Z Z Z Z (by omega) (by omega) (by simp; omega) QhN Z (Qh3 (ds0 := [5, 1, 0]) Z Z (fun _ h => ⟨QlU, h⟩) Z (.inl Z) (by simp) (by simp; omega) (by simp; omega) Z Z (QO (ds0 := [6, 5, 1, 0]) (cs := [_, _, _, _, _, _, _]) Z Z Z Z Z Z (QM Z Z (Qem (ds0 := [1, 0]) Z Z (by simp [D.ids, D.sid]) ⟨_, rfl, rfl, rfl, rfl, rfl⟩ Z Z (by simp) Z Z (by simp; omega) (by simp; omega) Z Z (Qa Z (Qa Z ?_))))))))))
     refine Qdo Z Z Z Z (by omega) (by simp; omega) (by simp) QhN Z (Qem (ds0 := [0]) Z Z (by simp [D.ids, D.sid]) ⟨rfl, QlU, rfl⟩ Z Z (by simp) Z Z (by simp; omega) (by simp; omega) Z Z (Qa Z (hK _ _ (Qb (kp1 Z) ?_))))
     refine Qt (ZL Z ?_)
     rw [Qjj (k := k) (by first | exact .inl (by omega) | exact .inr ⟨by omega, by assumption, by assumption⟩) hI.2]; simp [Qae, D.fz, D.fzS, Qdm, lk, D.can, D.canS, Qgd, D.sid, (show ∀ a b : Nat, a + 1 + b = a + (b + 1) from fun a b => by omega), List.take_of_length_le (show (l.map dCu).length <= l.length by simp)] <;> rfl
   ·try rw [h3]
    try simp only [qA] at h3
    exact absurd h1 h3
 ·try rw [h1]
  try simp only [qA] at h1
  refine Qz Z (Qz Z (Qz Z (Qz Z (Qz Z (Qz Z (Qz Z (Qo Z Z (hK _ _ (Qb (kp4 Z Z Z Z) ?_)))))))))
  refine Zu Z (Zi (QI (Qv (QC (Qd (kp3 Z Z Z) ?_)))))
  refine QG ?_ -- 2
  refine Qf fun K hK => Qa Z (Qa Z (Q5 Z Z (YF Z Z (Qa Z ?_))))
  refine QB (g := 25) Z (fun h5 => ?_) (fun h5 => ?_)
  ·try rw [h5]
   try simp only [qA] at h5
   exact absurd h5 h1
  ·try rw [h5]
   try simp only [qA] at h5
   refine Qz Z (Qz Z (Qz Z (Qz Z (Qz Z (Qz Z (Qz Z (Qo Z Z (hK _ _ (Qb (kp4 Z Z Z Z) ?_)))))))))
   refine Zu Z (Qw (Qd (kp3 Z Z Z) (Qf fun K hK => Qa Z (Qa Z (Qdo Z Z Z Z (by omega) (by omega) (by simp; omega) QhN Z (Qh3 (ds0 := [5, 1, 0]) Z Z (fun _ h => ⟨QlU, h⟩) Z (.inl Z) (by simp) (by simp; omega) (by simp; omega) Z Z (QO (ds0 := [6, 5, 1, 0]) (cs := [_, _, _, _, _, _, _]) Z Z Z Z Z Z (QM Z Z (Qem (ds0 := [1, 0]) Z Z (by simp [D.ids, D.sid]) ⟨_, rfl, rfl, rfl, rfl, rfl⟩ Z Z (by simp) Z Z (by simp; omega) (by simp; omega) Z Z (Qa Z ?_))))))))))
   refine Qa Z (Qdo Z Z Z Z (by omega) (by simp; omega) (by simp) QhN Z (Qem (ds0 := [0]) Z Z (by simp [D.ids, D.sid]) ⟨rfl, QlU, rfl⟩ Z Z (by simp) Z Z (by simp; omega) (by simp; omega) Z Z (Qa Z (hK _ _ (Qb (kp1 Z) ?_)))))
   refine Qt (ZL Z ?_)
   rw [Qjj (k := k) (by first | exact .inl (by omega) | exact .inr ⟨by omega, by assumption, by assumption⟩) hI.2]; simp [Qae, D.fz, D.fzS, Qdm, lk, D.can, D.canS, Qgd, D.sid, (show ∀ a b : Nat, a + 1 + b = a + (b + 1) from fun a b => by omega), List.take_of_length_le (show (l.map dCu).length <= l.length by simp)] <;> rfl
theorem X5 {l : List (Cu × Cu)} (hl : Sm l) : Ok Tryz.prog 120 [ZR l] (Qgd (YW l)) := by
 refine Ok.ofT ZZ Tryz.func120 QoT (Nat.le_of_ble_eq_true Z) ?_
 show TW _ _ tf120.body _ _
 have hn := hl.1
 refine Qf fun K hK => Qa Z (hK _ _ (Qb (kp1 Z) ?_))
 refine Qf fun K hK => QD (Y1) Z Z (.inl Z) (QD (Xb) Z Z (.inl Z) (QM Z Z (Qa Z (hK _ _ (Qb (kp2 Z Z) ?_)))))
 refine QG ?_ -- 0
 refine Qf fun K hK => Qa Z (hK _ _ (Qb (kp3 Z Z Z) ?_))
 refine QF ?_
 refine ZK (ι := Nat) (fun i => ⟨[(0, ZR l), (3, Qgd (YW (l.take i))), (4, .int .i64 i)], []⟩) (fun i => i <= l.length) (fun i => l.length - i) 0 ?_ ?_ ?_
 ·exact le_trans (Qkv 7 _ (by decide)) (Ze (l := [0, 3, 4]) (lH := []) (kp3 rfl rfl rfl) Qq rfl rfl rfl)
 ·exact Nat.zero_le _
 intro i hI
 try dsimp only
 refine QG ?_ -- 1
 refine Qf fun K hK => Qa Z (Qa Z (Q5 Z Z (YF Z Z (hK _ _ (Qb (kp4 Z Z Z Z) ?_)))))
 refine Qy Z (fun h1 => ?_) (fun h1 => ?_)
 ·try rw [h1]
  try simp only [qA] at h1
  refine Qw (Qd (kp3 Z Z Z) ?_)
  refine QG ?_ -- 2
  refine QF (QY fun K hK => Qa Z (Qa Z (Qa Z (QS Z Z Z (by omega) (Zj (by omega)) Z (Yz Z Z (QO (ds0 := [7, 1, 0]) (cs := [_, _, _, _, _, _, _]) Z Z Z Z Z Z (Q4 (ds0 := [1, 0]) (Qam (Nat.le_trans (Qd8 hl i).1 (by omega)) (Qd8 hl i).2 (hl.2 _ (List.getElem_mem (by omega))).1) Z Z (.inl Z) Z Z (Qa Z (Qa Z (QS Z Z Z (by omega) (Zj (by omega)) Z ?_))))))))))
  refine Yz Z Z (QO (ds0 := [1, 0]) (cs := [_, _, _, _, _, _, _]) Z Z Z Z Z Z (Q4 (ds0 := [0]) (Qam (Nat.le_trans (Qd9 _ _) (by have := (Qd8 hl i).1; omega)) (Qgw (Qd8 hl i).2 (hl.2 _ (List.getElem_mem (by omega))).1) (hl.2 _ (List.getElem_mem (by omega))).2) Z Z (.inl Z) Z Z (Qa Z (hK _ ?_))))
  refine Qg (Qd (kp3 Z Z Z) (QY fun K hK => Qa Z (Za Z Z (by first | exact Qr (by omega) (by omega) | rfl) (Qa Z (hK _ ?_)))))
  refine Qj (i + 1) ?_ ?_ ?_
  ·exact Ze (l := [0, 3, 4]) (lH := []) (kp3 rfl rfl rfl) Qq (by rw [QlG (by omega)]; rfl) rfl rfl
  ·omega
  ·first | omega | (simp only; omega) | (dsimp only; omega)
 ·try rw [h1]
  try simp only [qA] at h1
  refine Zi (QI (Qv (QC (Qd (kp1 Z) (Qf fun K hK => Qa Z (Qa Z (hK _ _ (Qb (kp1 Z) ?_))))))))
  refine Qt (ZL Z ?_)
  rw [List.take_of_length_le (show l.length <= i by omega)]; rfl
end Go.Proofs
namespace Go.Proofs
open Go Go.Abs M3 M25
set_option linter.unusedVariables false
set_option linter.unusedSimpArgs false
theorem X6 {l : List (Cu × Cu)} {x y : Cu} (hn : l.length <= 3000000) (hl : ∀ s ∈ l, Cu.sm s.1 /\ Cu.sm s.2) (hx : Cu.sm x) (hy : Cu.sm y) : OkH Tryz.prog 122 [.osl 500000 l.length, .agg (dCu x), .agg (dCu y)] [(500000, ⟨l.map QdV, 14, 105, true⟩)] (.osl 500000 (QbF l x y).length) [(500000, ⟨(QbF l x y).map QdV, 14, 105, true⟩)] := by
 refine OkH.mv ZZ Tryz.func122 QoV (Nat.le_of_ble_eq_true Z) Z ?_
 show TW _ _ tf122.body _ _
 refine Qf fun K hK => ZH Z Z Z (ZH Z Z Z (Qa Z (hK _ _ (Qb (kp3 Z Z Z) ?_))))
 refine QG ?_ -- 0
 refine Qf fun K hK => Qa Z (Q5 Z Z (Qb2 Z Z (by first | exact Qr (by omega) (by omega) | rfl) (Qa Z (hK _ _ (Qb (kp4 Z Z Z Z) ?_)))))
 refine Qf fun K hK => Qa Z (QjR Z Z (Qa Z ?_))
 refine QB (g := 13) Z (fun h1 => ?_) (fun h1 => ?_)
 ·try rw [h1]
  try simp only [qA] at h1
  refine Qi Z (Qa Z (Qi Z (Qa Z (Qi Z (Qbo (ds0 := [5, 4, 2, 1, 0]) Z Z Z (by simp) (by omega) (by omega) Z Z Z (Qi Z (Qm Z Z (Qi Z (QO (ds0 := [2, 1, 0]) (cs := [_, _, _, _, _, _, _]) Z (Ye Z (Xk (by omega) (by omega))) Z Z Z Z (Qi Z (QO (ds0 := [2, 1, 0]) (cs := [_, _, _, _, _, _, _]) Z Z Z Z Z Z ?_)))))))))))
  refine Qi Z (Q4 (ds0 := [1, 0]) (Zv (hl _ (List.getElem_mem (by omega))).2.1 (hl _ (List.getElem_mem (by omega))).2.2 hx.1 hx.2) Z Z (.inr Z) Z Z (Qi Z (YH Z Z (Qo Z Z (hK _ _ (Qb (kp5 Z Z Z Z Z) ?_))))))
  refine Qy Z (fun h2 => ?_) (fun h2 => ?_)
  ·try rw [h2]
   try simp only [qA] at h2
   refine Qf fun K hK => Qa Z (Qa Z (QN (cs := [_, _, _, _, _, _, _]) Z Z Z Z (YR Z Z Z (by simp) (by omega) (by omega) Z (Qm Z Z (QP Z Z (Xk (by omega) (by omega)) Z Z Z Z Z (hK _ _ (Qb (kp1 Z) ?_)))))))
   refine Qf fun K hK => Qa Z (Qa Z (hK _ _ (Qb (kp1 Z) ?_)))
   refine Qt (Ql ?_)
   refine Qaa Z ?_ (QiE ?_)
   ·rw [Qhy (i := ((l.length : Int) - 1).toNat) (by omega) h2]; simp [Qlb, D.fz, D.fzS, Qfx, D.can, D.canS]
   ·rw [Qhy (i := ((l.length : Int) - 1).toNat) (by omega) h2]; simp [lk, List.map_set, QdV, dCu, setRow, D.sid]
  ·try rw [h2]
   try simp only [qA] at h2
   refine Qw (Qd (kp3 Z Z Z) (Qf fun K hK => Qa Z (QN (cs := [_, _, _, _, _, _, _]) Z Z Z Z (QN (cs := [_, _, _, _, _, _, _]) Z Z Z Z (Q0 Z Z (QM Z Z (X2 Z Z (fun _ h => Qar Z Z Z h) Z (by simp) Z Z Z (by simp; omega) (by simp; omega) (Qa Z (hK _ _ (Qb (kp1 Z) ?_))))))))))
   refine Qt ?_
   refine Qaa Z ?_ (QiE ?_)
   ·rw [Qc4 (.inr ⟨((l.length : Int) - 1).toNat, by omega, h2⟩)]; simp [Qlb, D.fz, D.fzS, Qfx, D.can, D.canS]
   ·rw [Qc4 (.inr ⟨((l.length : Int) - 1).toNat, by omega, h2⟩)]; simp [lk, QdV, dCu, D.sid]
 ·try rw [h1]
  try simp only [qA] at h1
  refine Qz Z (Qz Z (Qz Z (Qz Z (Qz Z (Qz Z (Qz Z (Qz Z (Qo Z Z (hK _ _ (Qb (kp5 Z Z Z Z Z) ?_))))))))))
  refine Zu Z (Qw (Qd (kp3 Z Z Z) (Qf fun K hK => Qa Z (QN (cs := [_, _, _, _, _, _, _]) Z Z Z Z (QN (cs := [_, _, _, _, _, _, _]) Z Z Z Z (Q0 Z Z (QM Z Z (X2 Z Z (fun _ h => Qar Z Z Z h) Z (by simp) Z Z Z (by simp; omega) (by simp; omega) (Qa Z (hK _ _ (Qb (kp1 Z) ?_)))))))))))
  refine Qt ?_
  have h0 : l = [] := List.eq_nil_of_length_eq_zero (by omega)
  refine Qaa Z ?_ (QiE ?_)
  ·rw [Qc4 (.inl h0)]; simp [Qlb, D.fz, D.fzS, Qfx, D.can, D.canS]
  ·rw [Qc4 (.inl h0)]; simp [lk, QdV, dCu, D.sid]
end Go.Proofs
namespace Go.Proofs
open Go Go.Abs M3 M25
set_option linter.unusedVariables false
set_option linter.unusedSimpArgs false
theorem Qcs {l : List (Cu × Cu)} (hl : Sm l) : Ok Tryz.prog 119 [ZR l] (.tup [ZR (Qis l), .bool (l.all Qc5)]) := by
  refine Ok.ofT ZZ Tryz.func119 QoS (Nat.le_of_ble_eq_true Z) ?_
  show TW _ _ tf119.body _ _
  have hn := hl.1
  have hc1 := QbC l
  refine Qf fun K hK => Qa Z (Qa Z (hK _ _ (Qb (kp1 Z) ?_)))
  refine QG ?_ -- 0
  refine Qf fun K hK => Qa Z (hK _ _ (Qb (kp2 Z Z) ?_))
  refine QF ?_
  refine ZK (ι := Nat) (fun i => ⟨[(0, ZR l), (4, .int .i64 i)], []⟩) (fun i => i <= l.length /\ (l.take i).all Qc5 = true) (fun i => l.length - i) 0 ?_ ?_ ?_
  · exact QV (kp2 rfl rfl)
  · exact ⟨Nat.zero_le _, by simp⟩
  intro i hI
  try dsimp only
  refine QG ?_ -- 1
  refine Qf fun K hK => Qa Z (Qa Z (Q5 Z Z (YF Z Z (hK _ _ (Qb (kp3 Z Z Z) ?_)))))
  refine Qy Z (fun h1 => ?_) (fun h1 => ?_)
  · try rw [h1]
    try simp only [qA] at h1
    refine Qw (Qd (kp2 Z Z) ?_)
    refine QG ?_ -- 2
    refine QF (Qf fun K hK => Qa Z (Qa Z (QS Z Z Z (by omega) (Zj (by omega)) Z (QN (cs := [_, _, _, _, _, _, _, _, _, _, _, _, _, _]) Z Z Z Z (QD (Xv (hl.at (i := i) (by omega)).1.1 (hl.at (i := i) (by omega)).1.2 (hl.at (i := i) (by omega)).2.1 (hl.at (i := i) (by omega)).2.2) Z Z (.inr Z) (Yn Z (hK _ _ (Qb (kp3 Z Z Z) ?_))))))))
    refine Qy Z (fun h2 => ?_) (fun h2 => ?_)
    · try rw [h2]
      try simp only [qA] at h2
      refine Qf fun K hK => Qa Z (Qa Z (hK _ _ (Qb (kp2 Z Z) ?_)))
      refine Qt (Qs (Ql (Q8 (Qs (Ql ?_)))))
      first
        | exact ZT rfl rfl ⟨by rw [Qis, if_neg (by rw [Yd (i := i) (by omega) (by assumption)]; simp)]; rfl, by rw [Yd (i := i) (by omega) (by assumption)]; rfl⟩
        | (have ha : l.all Qc5 = true := Xa (by omega) hI.2
           exact ZT rfl rfl ⟨by rw [Qis, if_pos ha, hI2.done (by omega)]; simp [Qae, D.fz, D.fzS, Qdm, lk, D.can, D.canS, ZR], by rw [ha]; rfl⟩)
    · try rw [h2]
      try simp only [qA] at h2
      refine Qw (Qg (Qd (kp2 Z Z) (QY fun K hK => Qa Z (Za Z Z (by first | exact Qr (by omega) (by omega) | rfl) (Qa Z (hK _ ?_))))))
      refine Qj (i + 1) ?_ ?_ ?_
      · exact QV (kp2 rfl rfl)
      · exact ⟨by omega, Zg (by omega) hI.2 (by assumption)⟩
      · first | omega | (simp only; omega) | (dsimp only; omega)
  · try rw [h1]
    try simp only [qA] at h1
    refine Zi (QI (Qv (QC (Qd (kp1 Z) (Qf fun K hK => Qa Z (hK _ _ (Qb (kp2 Z Z) ?_)))))))
    refine Qf fun K hK => Qa Z (QD (X5 hl) Z Z (.inl Z) (Qa Z (hK _ _ (Qb (kp3 Z Z Z) ?_))))
    refine QG ?_ -- 3
    refine Qf fun K hK => Qa Z (hK _ _ (Qb (kp4 Z Z Z Z) ?_))
    refine QF ?_
    refine ZK (ι := Nat × List (Cu × Cu)) (fun ⟨i, out⟩ => ⟨[(0, ZR l), (5, .osl 5 out.length), (6, Qgd (YW l)), (7, .int .i64 i)], [(5, ⟨out.map QdV, 14, 105, true⟩)]⟩) (fun ⟨i, out⟩ => i <= (YW l).length /\ FillI (mIn l) (YW l) i out) (fun ⟨i, out⟩ => (YW l).length - i) (0, []) ?_ ?_ ?_
    · exact le_trans (Y2 5 5 14 105 rfl rfl) (Ze (l := [0, 5, 6, 7]) (lH := [5]) (kp4 rfl rfl rfl rfl) (Qe rfl Qq) rfl rfl rfl)
    · exact ⟨Nat.zero_le _, FillI.zero⟩
    intro ⟨i, out⟩ hI
    obtain ⟨hI1, hI2⟩ := hI
    have hI3 := hI2.1
    try dsimp only
    refine QG ?_ -- 4
    refine Qf fun K hK => Qa Z (Za Z Z (by first | exact Qr (by omega) (by omega) | rfl) (Qa Z (Q5 Z Z (YF Z Z (hK _ _ (Qb (kp5 Z Z Z Z Z) ?_))))))
    refine Qy Z (fun h3 => ?_) (fun h3 => ?_)
    · try rw [h3]
      try simp only [qA] at h3
      refine Qw (Qd (kp4 Z Z Z Z) ?_)
      refine QG ?_ -- 5
      refine QF (Qf fun K hK => Qa Z (Qa Z (Qa Z (QS Z Z Z (by omega) (Zj (by omega)) Z (QO (ds0 := [0]) (cs := [_, _, _, _, _, _, _]) Z Z Z Z Z Z (Qa Z (Qa Z (Za Z Z (by first | exact Qr (by omega) (by omega) | rfl) (QS Z Z Z (by omega) (Qjc (by omega)) Z (QO (ds0 := [0]) (cs := [_, _, _, _, _, _, _]) Z Z Z Z Z Z ?_))))))))))
      refine Q4 (ds0 := []) (QaH hl (Yw hl _ (List.getElem_mem (by omega))) (Yw hl _ (List.getElem_mem (by omega)))) Z Z (.inr Z) Z Z (hK _ _ (Qb (kp5 Z Z Z Z Z) ?_))
      refine Qy Z (fun h4 => ?_) (fun h4 => ?_)
      · try rw [h4]
        try simp only [qA] at h4
        refine QY fun K hK => Qa rfl (Qa rfl (Qa rfl (QS rfl rfl rfl (by omega) (Zj (by omega)) rfl (QO (ds0 := [1, 0]) (cs := [_, _, _, _, _, _, _]) rfl rfl rfl rfl rfl rfl (Qa rfl (Qa rfl (Za rfl rfl (by first | exact Qr (by omega) (by omega) | rfl) (QS rfl rfl rfl (by omega) (Qjc (by omega)) rfl (QO (ds0 := [1, 0]) (cs := [_, _, _, _, _, _, _]) rfl rfl rfl rfl rfl rfl (QiP (ds0 := [0]) (Ql9 (k := 5) rfl rfl rfl (by decide) rfl (by decide) (by simp [D.ids, D.sid, dCu]) ⟨.osl 5 out.length, by simp, by simp [D.ids, D.sid]⟩ rfl rfl (X6 (by omega) hI2.2.1 (Yw hl _ (List.getElem_mem (by omega))) (Yw hl _ (List.getElem_mem (by omega))))) (fun _ h => by cases h) rfl rfl ?_))))))))))
        refine Qa Z (hK _ ?_)
        refine Qg (Qd (kp4 Z Z Z Z) (QY fun K hK => Qa Z (Za Z Z (by first | exact Qr (by omega) (by omega) | rfl) (Qa Z (hK _ ?_)))))
        refine Qj (i + 1, QbF out (YW l)[i] (YW l)[i + 1]) ?_ ?_ ?_
        · exact le_trans (Qkt (l := [0, 6, 7]) (t := 50) (u := 5) 5 (kp3 rfl rfl rfl) rfl rfl rfl rfl) (Ze (l := [0, 5, 6, 7]) (lH := [5]) (kp4 rfl rfl rfl rfl) (Qe rfl Qq) rfl rfl rfl)
        · exact ⟨by omega, hI2.take (Yw hl) (by omega) (by assumption)⟩
        · show (YW l).length - (i + 1) < (YW l).length - i; omega
      · try rw [h4]
        try simp only [qA] at h4
        refine Qw (Qg (Qd (kp4 Z Z Z Z) (QY fun K hK => Qa Z (Za Z Z (by first | exact Qr (by omega) (by omega) | rfl) (Qa Z (hK _ ?_))))))
        refine Qj (i + 1, out) ?_ ?_ ?_
        · exact Ze (l := [0, 5, 6, 7]) (lH := [5]) (kp4 rfl rfl rfl rfl) (Qe rfl Qq) rfl rfl rfl
        · exact ⟨by omega, hI2.skip (by omega) (by assumption)⟩
        · show (YW l).length - (i + 1) < (YW l).length - i; omega
    · try rw [h3]
      try simp only [qA] at h3
      refine Zi (QI (Qv (QC (Qd (kp1 Z) (Qf fun K hK => Qa Z (Qa Z (Qa Z (hK _ _ (Qb (kp2 Z Z) ?_)))))))))
      refine Qt ?_
      first
        | exact ZT rfl rfl ⟨by rw [Qis, if_neg (by rw [Yd (i := i) (by omega) (by assumption)]; simp)]; rfl, by rw [Yd (i := i) (by omega) (by assumption)]; rfl⟩
        | (have ha : l.all Qc5 = true := Xa (by omega) hI.2
           exact ZT rfl rfl ⟨by rw [Qis, if_pos ha, hI2.done (by omega)]; simp [Qae, D.fz, D.fzS, Qdm, lk, D.can, D.canS, ZR], by rw [ha]; rfl⟩)
end Go.Proofs
namespace Go.Proofs
open Go Go.Abs M3 M25
set_option linter.unusedVariables false
set_option linter.unusedSimpArgs false
theorem QaG {a b : List (Cu × Cu)} (ha : Sm a) (hb : Sm b) (hab : a.length + b.length <= 1000000) : Ok Tryz.prog 109 [ZR a, ZR b] (ZR (Qmh a b)) := by
 refine Ok.ofT ZZ Tryz.func109 QoK (Nat.le_of_ble_eq_true Z) ?_
 show TW _ _ tf109.body _ _
 refine Qf fun K hK => Qa Z (hK _ _ (Qb (kp2 Z Z) ?_))
 refine QG ?_ -- 0
 refine Qf fun K hK => Qa Z (QD (Z9 ha) Z Z (.inr Z) (Yn Z (Qa Z ?_)))
 refine QB (g := 10) Z (fun h1 => ?_) (fun h1 => ?_)
 ·try rw [h1]
  try simp only [qB] at h1
  refine Qz Z (Qz Z (Qz Z (Qo Z Z (hK _ _ (Qb (kp3 Z Z Z) ?_)))))
  refine ZJ Z (Qf fun K hK => Qa Z (hK _ _ (Qb (kp1 Z) ?_)))
  refine Qt (Ql (ZL Z ?_))
  rw [Qmh, if_neg (by simp [h1])]; rfl
 ·try rw [h1]
  try simp only [qB] at h1
  refine Qi Z (Qa Z (Qi Z (QD (Z9 hb) Z Z (.inr Z) (Qi Z (Yn Z (Qo Z Z (hK _ _ (Qb (kp3 Z Z Z) ?_))))))))
  refine Qy Z (fun h2 => ?_) (fun h2 => ?_)
  ·try rw [h2]
   try simp only [qB] at h2
   refine Qf fun K hK => Qa Z (hK _ _ (Qb (kp1 Z) ?_))
   refine Qt (Ql (ZL Z ?_))
   rw [Qmh, if_neg (by simp [h1, h2])]; rfl
  ·try rw [h2]
   try simp only [qB] at h2
   refine Qw (Qd (kp2 Z Z) (Qf fun K hK => Qa Z (Ql3 Z Z (fun _ h => Qjt Qmn h) Z (.inl Z) (by simp) (by simp; omega) (by simp; omega) (Qa Z (X2 Z Z (fun _ h => Qjt Qmn h) Z (by simp) Z Z Z (by simp; omega) (by simp; omega) ?_)))))
   apply Qen [17] (by simp)
   ·simp [St.freezeL, St.freeze, rem, D.fz, D.fzS, Box.fz, lk, D.scrub]; exact ⟨rfl, rfl⟩
   ·exact Qcs (ha.app hb hab)
   ·rfl
   ·simp [Qae, D.fz, D.fzS, Qdm, D.can, D.canS, ZR]
   ·exact .inl rfl
   refine Qa Z (Zh Z Z (Zh Z Z (Qa Z (Qa Z (hK _ _ (Qb (kp1 Z) ?_))))))
   refine Qf fun K hK => Qa Z (Qa Z (hK _ _ (Qb (kp1 Z) ?_)))
   refine Qt (ZL Z ?_)
   rw [Qmh, if_pos ⟨h1, h2⟩]; rfl
theorem Qal {a : List (Cu × Cu)} (ha : Sm a) : Ok Tryz.prog 111 [ZR a] (ZR (Qit a)) := by
 refine Ok.ofT ZZ Tryz.func111 QoM (Nat.le_of_ble_eq_true Z) ?_
 show TW _ _ tf111.body _ _
 have hn := ha.1
 have hc1 := QbC a
 refine Qf fun K hK => Qa Z (hK _ _ (Qb (kp1 Z) ?_))
 refine QG ?_ -- 0
 refine Qf fun K hK => Qa Z (QD (Z9 ha) Z Z (.inr Z) (Yn Z (hK _ _ (Qb (kp2 Z Z) ?_))))
 refine Qy Z (fun h1 => ?_) (fun h1 => ?_)
 ·try rw [h1]
  try simp only [qA] at h1
  refine Qf fun K hK => Qa Z (hK _ _ (Qb (kp1 Z) ?_))
  refine Qt (Ql (ZL Z ?_))
  rw [Qit, if_neg (by simp [h1])]; rfl
 ·try rw [h1]
  try simp only [qA] at h1
  refine Qw (Qd (kp1 Z) (Qf fun K hK => Qa Z (hK _ _ (Qb (kp2 Z Z) ?_))))
  refine Qf fun K hK => Qa Z (QD (X5 ha) Z Z (.inl Z) (Qa Z (hK _ _ (Qb (kp3 Z Z Z) ?_))))
  refine QG ?_ -- 1
  refine Qf fun K hK => Qa Z (hK _ _ (Qb (kp4 Z Z Z Z) ?_))
  refine QF ?_
  refine ZK (ι := Nat × List (Cu × Cu)) (fun ⟨i, out⟩ => ⟨[(0, ZR a), (3, .osl 3 out.length), (4, Qgd (YW a)), (5, .int .i64 i)], [(3, ⟨out.map QdV, 14, 105, true⟩)]⟩) (fun ⟨i, out⟩ => i <= (YW a).length /\ FillI (fun x y => !mIn a x y) (YW a) i out) (fun ⟨i, out⟩ => (YW a).length - i) (0, []) ?_ ?_ ?_
  ·exact le_trans (Y2 3 3 14 105 rfl rfl) (Ze (l := [0, 3, 4, 5]) (lH := [3]) (kp4 rfl rfl rfl rfl) (Qe rfl Qq) rfl rfl rfl)
  ·exact ⟨Nat.zero_le _, FillI.zero⟩
  intro ⟨i, out⟩ hI
  obtain ⟨hI1, hI2⟩ := hI
  have hI3 := hI2.1
  try dsimp only
  refine QG ?_ -- 2
  refine Qf fun K hK => Qa Z (Za Z Z (by first | exact Qr (by omega) (by omega) | rfl) (Qa Z (Q5 Z Z (YF Z Z (hK _ _ (Qb (kp5 Z Z Z Z Z) ?_))))))
  refine Qy Z (fun h2 => ?_) (fun h2 => ?_)
  ·try rw [h2]
   try simp only [qA] at h2
   refine Qw (Qd (kp4 Z Z Z Z) ?_)
   refine QG ?_ -- 3
   refine QF (Qf fun K hK => Qa Z (Qa Z (Qa Z (QS Z Z Z (by omega) (Zj (by omega)) Z (QO (ds0 := [1, 0]) (cs := [_, _, _, _, _, _, _]) Z Z Z Z Z Z (Qa Z (Qa Z (Za Z Z (by first | exact Qr (by omega) (by omega) | rfl) (QS Z Z Z (by omega) (Qjc (by omega)) Z (QO (ds0 := [1, 0]) (cs := [_, _, _, _, _, _, _]) Z Z Z Z Z Z ?_))))))))))
   refine Q4 (ds0 := [0]) (QaH ha (Yw ha _ (List.getElem_mem (by omega))) (Yw ha _ (List.getElem_mem (by omega)))) Z Z (.inr Z) Z Z (Yn Z (hK _ _ (Qb (kp5 Z Z Z Z Z) ?_)))
   refine Qy Z (fun h3 => ?_) (fun h3 => ?_)
   ·try rw [h3]
    try simp only [qA] at h3
    refine QY fun K hK => Qa rfl (Qa rfl (Qa rfl (QS rfl rfl rfl (by omega) (Zj (by omega)) rfl (QO (ds0 := [1, 0]) (cs := [_, _, _, _, _, _, _]) rfl rfl rfl rfl rfl rfl (Qa rfl (Qa rfl (Za rfl rfl (by first | exact Qr (by omega) (by omega) | rfl) (QS rfl rfl rfl (by omega) (Qjc (by omega)) rfl (QO (ds0 := [1, 0]) (cs := [_, _, _, _, _, _, _]) rfl rfl rfl rfl rfl rfl (QiP (ds0 := [0]) (Ql9 (k := 3) rfl rfl rfl (by decide) rfl (by decide) (by simp [D.ids, D.sid, dCu]) ⟨.osl 3 out.length, by simp, by simp [D.ids, D.sid]⟩ rfl rfl (X6 (by omega) hI2.2.1 (Yw ha _ (List.getElem_mem (by omega))) (Yw ha _ (List.getElem_mem (by omega))))) (fun _ h => by cases h) rfl rfl ?_))))))))))
    refine Qa Z (hK _ ?_)
    refine Qg (Qd (kp4 Z Z Z Z) (QY fun K hK => Qa Z (Za Z Z (by first | exact Qr (by omega) (by omega) | rfl) (Qa Z (hK _ ?_)))))
    refine Qj (i + 1, QbF out (YW a)[i] (YW a)[i + 1]) ?_ ?_ ?_
    ·exact le_trans (Qkt (l := [0, 4, 5]) (t := 40) (u := 3) 3 (kp3 rfl rfl rfl) rfl rfl rfl rfl) (Ze (l := [0, 3, 4, 5]) (lH := [3]) (kp4 rfl rfl rfl rfl) (Qe rfl Qq) rfl rfl rfl)
    ·exact ⟨by omega, hI2.take (Yw ha) (by omega) (by simp; assumption)⟩
    ·show (YW a).length - (i + 1) < (YW a).length - i; omega
   ·try rw [h3]
    try simp only [qA] at h3
    refine Qw (Qg (Qd (kp4 Z Z Z Z) (QY fun K hK => Qa Z (Za Z Z (by first | exact Qr (by omega) (by omega) | rfl) (Qa Z (hK _ ?_))))))
    refine Qj (i + 1, out) ?_ ?_ ?_
    ·exact Ze (l := [0, 3, 4, 5]) (lH := [3]) (kp4 rfl rfl rfl rfl) (Qe rfl Qq) rfl rfl rfl
    ·exact ⟨by omega, hI2.skip (by omega) (by simp; assumption)⟩
    ·show (YW a).length - (i + 1) < (YW a).length - i; omega
  ·try rw [h2]
   try simp only [qA] at h2
   refine Zi (QI (Qv (QC (Qd (kp1 Z) (Qf fun K hK => Qa Z (Qa Z (hK _ _ (Qb (kp1 Z) ?_))))))))
   refine Qt (ZL Z ?_)
   rw [Qit, if_pos h1, hI2.done (by omega)]; simp [Qae, D.fz, D.fzS, Qdm, lk, D.can, D.canS, ZR]
end Go.Proofs
namespace Go.Proofs
open Go Go.Abs M3 M25
set_option linter.unusedVariables false
set_option linter.unusedSimpArgs false
theorem Qdq {a b : QhZ} (h1a : Sm a.1) (h2a : Sm a.2) (h1b : Sm b.1) (h2b : Sm b.2) (hl1 : a.1.length + b.1.length <= 1000000) (hl2 : a.2.length + b.2.length <= 1000000) : Ok Tryz.prog 89 [QgS a, QgS b] (QgS (Qmi a b)) := by
 refine Ok.ofT ZZ Tryz.func89 Qqh (Nat.le_of_ble_eq_true Z) ?_
 show TW _ _ tf89.body _ _
 refine Qf fun K hK => ZH Z Z Z (ZH Z Z Z (ZB Z (hK _ _ (Qb (kp3 Z Z Z) ?_))))
 refine QG ?_ -- 0
 refine Qf fun K hK => QN (cs := [_, _]) Z Z Z Z (QD (Xj h1a h2a) Z Z (.inr Z) (Yn Z (Qa Z ?_)))
 refine QB (g := 8) Z (fun h1 => ?_) (fun h1 => ?_)
 ·try rw [h1]
  try simp only [qB] at h1
  refine Qz Z (Qz Z (Qz Z (Qo Z Z (hK _ _ (Qb (kp4 Z Z Z Z) ?_)))))
  refine ZJ Z (Qf fun K hK => QD (Z4) Z Z (.inl Z) (QP Z Z Z Z Z Z Z Z (hK _ _ (Qb (kp1 Z) ?_))))
  refine Qt (Ql (Post.eq (Zz (ds := [.sl _, .sl _]) (cs := [_, _]) Z Z Z Z Z) ?_))
  rw [Qmi, if_neg (by simp [h1])]; rfl
 ·try rw [h1]
  try simp only [qB] at h1
  refine Qi Z (QN (cs := [_, _]) Z Z Z Z (Qi Z (QD (Xj h1b h2b) Z Z (.inr Z) (Qi Z (Yn Z (Qo Z Z (hK _ _ (Qb (kp4 Z Z Z Z) ?_))))))))
  refine Qy Z (fun h2 => ?_) (fun h2 => ?_)
  ·try rw [h2]
   try simp only [qB] at h2
   refine Qf fun K hK => QD (Z4) Z Z (.inl Z) (QP Z Z Z Z Z Z Z Z (hK _ _ (Qb (kp1 Z) ?_)))
   refine Qt (Ql (Post.eq (Zz (ds := [.sl _, .sl _]) (cs := [_, _]) Z Z Z Z Z) ?_))
   rw [Qmi, if_neg (by simp [h1, h2])]; rfl
  ·try rw [h2]
   try simp only [qB] at h2
   refine Qw (Qd (kp3 Z Z Z) (Qf fun K hK => Qm Z Z (ZC (ds0 := [7, 1, 0]) Z Z Z Z Z (Qm Z Z (ZC (ds0 := [7, 1, 0]) Z Z Z Z Z (Q4 (ds0 := [1, 0]) (QaG h1a h1b hl1) Z Z (.inl Z) Z Z (Qm Z Z (ZC (ds0 := [2, 1, 0]) Z Z Z Z Z (Qm Z Z (ZC (ds0 := [2, 1, 0]) Z Z Z Z Z ?_))))))))))
   refine Q4 (ds0 := [1, 0]) (QaG h2a h2b hl2) Z Z (.inl Z) Z Z (Q0 Z Z (Xg (ds0 := []) Z Z Z Z Z Z Z Z Z Z (hK _ _ (Qb (kp1 Z) ?_))))
   refine Qt (Post.eq (Zz (ds := [.sl _, .sl _]) (cs := [_, _]) Z Z Z Z Z) ?_)
   rw [Qmi, if_pos ⟨h1, h2⟩]; rfl
theorem QcN {a : QhZ} (h1a : Sm a.1) (h2a : Sm a.2) : Ok Tryz.prog 91 [QgS a] (QgS (Qgv a)) := by
 refine Ok.ofT ZZ Tryz.func91 Qqj (Nat.le_of_ble_eq_true Z) ?_
 show TW _ _ tf91.body _ _
 refine Qf fun K hK => ZH Z Z Z (ZB Z (hK _ _ (Qb (kp2 Z Z) ?_)))
 refine QG ?_ -- 0
 refine Qf fun K hK => QN (cs := [_, _]) Z Z Z Z (QD (Xj h1a h2a) Z Z (.inr Z) (Yn Z (hK _ _ (Qb (kp3 Z Z Z) ?_))))
 refine Qy Z (fun h1 => ?_) (fun h1 => ?_)
 ·try rw [h1]
  try simp only [qB] at h1
  refine Qf fun K hK => QD (Z4) Z Z (.inl Z) (QP Z Z Z Z Z Z Z Z (hK _ _ (Qb (kp1 Z) ?_)))
  refine Qt (Ql (Post.eq (Zz (ds := [.sl _, .sl _]) (cs := [_, _]) Z Z Z Z Z) ?_))
  rw [Qgv, if_neg (by simp [h1])]; rfl
 ·try rw [h1]
  try simp only [qB] at h1
  refine Qw (Qd (kp2 Z Z) (Qf fun K hK => Qm Z Z (ZC (ds0 := [5, 1, 0]) Z Z Z Z Z (Q4 (ds0 := [1, 0]) (Qal h1a) Z Z (.inl Z) Z Z (Qm Z Z (ZC (ds0 := [2, 1, 0]) Z Z Z Z Z (Q4 (ds0 := [1, 0]) (Qal h2a) Z Z (.inl Z) Z Z (Q0 Z Z (Xg (ds0 := []) Z Z Z Z Z Z Z Z Z Z (hK _ _ (Qb (kp1 Z) ?_)))))))))))
  refine Qt (Post.eq (Zz (ds := [.sl _, .sl _]) (cs := [_, _]) Z Z Z Z Z) ?_)
  rw [Qgv, if_pos h1]; rfl
end Go.Proofs
namespace Go.Proofs
open Go Go.Abs M3 M25
set_option linter.unusedVariables false
set_option linter.unusedSimpArgs false
theorem YZ {v n : Int} (hn : n <= 9223372036854775807) (hv : I64 v) : Ok Tryz.prog 10 [.int .i64 v, .int .i64 n] (.int .i64 (mPl v n)) := by
 refine Ok.ofT ZZ Tryz.func10 Qpe (Nat.le_of_ble_eq_true Z) ?_
 show TW _ _ tf10.body _ _
 refine Qf fun K hK => Qa Z (hK _ _ (Qb (kp2 Z Z) ?_))
 refine QG ?_ -- 0
 refine Qf fun K hK => Qa Z (YF Z Z (hK _ _ (Qb (kp3 Z Z Z) ?_)))
 refine Qy Z (fun h1 => ?_) (fun h1 => ?_)
 ·try rw [h1]
  try simp only [qB] at h1
  refine Qf fun K hK => Qa Z (hK _ _ (Qb (kp1 Z) ?_))
  refine Qt (Ql (Qu Z ?_))
  rw [mPl, if_pos h1]
 ·try rw [h1]
  try simp only [qB] at h1
  refine Qw (Qd (kp2 Z Z) (Qf fun K hK => Qa Z (Qa Z (Qmz Z Z (by omega) (Qa Z (hK _ _ (Qb (kp2 Z Z) ?_)))))))
  refine QG ?_ -- 1
  refine Qf fun K hK => Qa Z (YF Z Z (hK _ _ (Qb (kp3 Z Z Z) ?_)))
  refine Qy Z (fun h2 => ?_) (fun h2 => ?_)
  ·try rw [h2]
   try simp only [qB] at h2
   refine Qf fun K hK => Qa Z (Qa Z (Za Z Z (Qr (by have := Int.lt_tmod_of_pos v (show 0 < n by omega); omega) (by have := Int.tmod_lt_of_pos v (show 0 < n by omega); omega)) (Qa Z (hK _ _ (Qb (kp1 Z) ?_)))))
   refine Qt (Ql (Qu Z ?_))
   rw [mPl, if_neg h1, Qe1, if_pos h2]
  ·try rw [h2]
   try simp only [qB] at h2
   refine Qw (Qd (kp1 Z) (Qf fun K hK => Qa Z (Qa Z (hK _ _ (Qb (kp1 Z) ?_)))))
   refine Qt (Qu Z ?_)
   rw [mPl, if_neg h1, Qe1, if_neg h2]
theorem Qdp {l : List Int} {i : Int} : Ok Tryz.prog 26 [Zm l, .int .i64 i] (.int .i64 (Qld l i)) := by
 refine Ok.ofT ZZ Tryz.func26 Qpn (Nat.le_of_ble_eq_true Z) ?_
 show TW _ _ tf26.body _ _
 refine Qf fun K hK => Qa Z (hK _ _ (Qb (kp2 Z Z) ?_))
 refine QG ?_ -- 0
 refine Qf fun K hK => Qa Z (YF Z Z (Qa Z ?_))
 refine QB (g := 7) Z (fun h1 => ?_) (fun h1 => ?_)
 ·try rw [h1]
  try simp only [qA] at h1
  refine Qz Z (Qz Z (Qz Z (Qz Z (Qo Z Z (hK _ _ (Qb (kp3 Z Z Z) ?_))))))
  refine ZJ Z (Qf fun K hK => Qa Z (Qmz Z Z (by omega) (Qa Z (hK _ _ (Qb (kp1 Z) ?_)))))
  refine Qt (Ql (Qu Z ?_))
  rw [Qld, if_pos (by omega)]
 ·try rw [h1]
  try simp only [qA] at h1
  refine Qi Z (Qa Z (Qi Z (Qa Z (Qi Z (Q5 Z Z (Qi Z (QjR Z Z (Qo Z Z (hK _ _ (Qb (kp3 Z Z Z) ?_))))))))))
  refine Qy Z (fun h2 => ?_) (fun h2 => ?_)
  ·try rw [h2]
   try simp only [qA] at h2
   refine Qf fun K hK => Qa Z (Qmz Z Z (by omega) (Qa Z (hK _ _ (Qb (kp1 Z) ?_))))
   refine Qt (Ql (Qu Z ?_))
   rw [Qld, if_pos (by omega)]
  ·try rw [h2]
   try simp only [qA] at h2
   refine Qw (Qd (kp2 Z Z) (Qf fun K hK => Qa Z (Qa Z (QS Z Z Z (by omega) (Xk (by omega) (by omega)) Z (QE Z Z Z (Qa Z (hK _ _ (Qb (kp1 Z) ?_))))))))
   refine Qt (Qu Z ?_)
   exact (Qky (by omega) (by omega)).symm
theorem XE {k : Nat} {L : List Int} {I n : Int} (hk : 1000000 <= k) (hL : ∀ x ∈ L, I64 x) (hn : n <= 9223372036854775807) (et : Nat) : OkH Tryz.prog 34 [.ref k 0 0, .int .i64 n] [(k, gB L I et)] (.int .i64 (nx L I n)) ((k, gB L (nxI I) et) :: [(k, gB L I et)]) := by
 refine OkH.lent hk ZZ Tryz.func34 Qpt (Nat.le_of_ble_eq_true Z) Z ?_
 show TW _ _ tf34.body _ _
 refine Qf fun K hK => Qa Z (hK _ _ (Qb (kp2 Z Z) ?_))
 refine Qf fun K hK => Qa Z (Z7 Z Z (Qm Z Qd7 (QE Z (Ye QdA Z) Z (Za Z Z Z (Z7 Z Z (Qm Z Qd7 (QP Z QdA Z Z Z Z Z Z (hK _ _ (Qb (kp2 Z Z) ?_)))))))))
 refine Qf fun K hK => Qa Z (Z7 Z Z (Qm Z Qd7 (ZC (ds0 := [3, 1, 0]) Z (Ye QdA Z) Z Z Z (Qa Z (Z7 Z Z (Qm Z Qd7 (ZC (ds0 := [4, 3, 1, 0]) Z (Ye QdA Z) Z Z Z (Qb2 Z Z Z (Q4 (ds0 := [1, 0]) (Qdp) Z Z (.inr Z) Z Z (Qa Z ?_))))))))))
 refine Q4 (ds0 := [0]) (YZ hn (QlF hL (Qk9 _))) Z Z (.inr Z) Z Z (Qa Z (hK _ _ (Qb (kp1 Z) ?_)))
 refine Qt ?_
 exact Qaa rfl rfl (Qne QdA)
end Go.Proofs
namespace Go.Proofs
open Go Go.Abs M3 M25
set_option linter.unusedVariables false
set_option linter.unusedSimpArgs false
end Go.Proofs
namespace Go.Proofs
open Go Go.Abs M3 M25
set_option linter.unusedVariables false
set_option linter.unusedSimpArgs false
theorem Yo  : Ok Tryz.prog 29 [] (.sl (versions.map dVr)) := by
 refine Ok.ofT ZZ Tryz.func29 Qpo (Nat.le_of_ble_eq_true Z) ?_
 show TW _ _ tf29.body _ _
 refine Qf fun K hK => Qa Z (hK _ _ (Qb (QQ) ?_))
 refine Qf fun K hK => Q0 Z Z (Q0 Z Z (Q0 Z Z (Q0 Z Z (QM Z Z (Qa Z (hK _ _ (Qb (kp1 Z) ?_)))))))
 refine Qt (ZL Z ?_)
 rfl
end Go.Proofs
namespace M25
open Go Go.Abs M3
structure WantT where
 u : Int
 s : QhZ
structure CandT where
 v : Vr
 sh : Int
 ns : List (List WantT)
 bs : List WantT
structure YG where
 n : List UInt8
 f : List UInt8
 cs : List CandT
abbrev ZA := List YG
def Qfk (x : WantT) : List D := [.int .i64 x.u, ZR x.s.1, ZR x.s.2]
def Q7 (l : List WantT) : D := .sl (l.map Qfk)
def QR (l : List (List WantT)) : D := .sl (l.map fun r => [Q7 r])
def Qov (c : CandT) : List D := [.int .i64 c.v.a, .int .i64 c.v.b, .int .i64 c.v.c, .str c.v.p, .str c.v.q, .int .i64 c.sh, QR c.ns, Q7 c.bs]
def QiX (l : List CandT) : D := .sl (l.map Qov)
def Yg (u : YG) : List D := [.str u.n, .str u.f, QiX u.cs]
def Qcf (w : ZA) : D := .agg [.sl (w.map Yg)]
structure Qfh where
 u : Int
 m : Int
 deriving DecidableEq
structure Qbh where
 u : Int
 m : Int
 l : Int
 c : Int
 deriving DecidableEq
structure RowT where
 k : Int
 u : Int
 a : Int
 b : Int
 t : List Qfh
abbrev Qpa (a b : Int) : Int := Qdz .andNot .i64 a b
def uAt (w : ZA) (u : Int) : Option YG := if u < 0 then none else w[u.toNat]?
def QnW (w : ZA) (u : Int) : Int := match uAt w u with
 | none => 0
 | some x => 2 ^ (min x.cs.length 16 + 1) - 1
def QcC (v : Vr) : Prop := v.p.length <= 1000000 /\ v.q.length <= 1000000
structure WSm (w : ZA) : Prop where
 len : w.length <= 48
 cs : ∀ u ∈ w, u.cs.length <= 16
 vs : ∀ u ∈ w, ∀ c ∈ u.cs, QcC c.v
 ns : ∀ u ∈ w, ∀ c ∈ u.cs, c.ns.length <= 1000 /\ c.bs.length <= 1000
 nl : ∀ u ∈ w, ∀ c ∈ u.cs, ∀ r ∈ c.ns, r.length <= 1000
 nw : ∀ u ∈ w, ∀ c ∈ u.cs, ∀ r ∈ c.ns, ∀ x ∈ r, Sm x.s.1 /\ Sm x.s.2
 bw : ∀ u ∈ w, ∀ c ∈ u.cs, ∀ x ∈ c.bs, Sm x.s.1 /\ Sm x.s.2
def inW (w : ZA) (u : Int) : Bool := decide (0 <= u) && decide (u < w.length)
/-! ### Trails -/
def Qfr (w : ZA) (l : List Qbh) (u : Int) : Int := l.foldl (fun a s => if s.u = u /\ inW w u = true then s.m else a) (QnW w u)
def QnX (l : List Qbh) : Int := match l.getLast? with
 | none => 0
 | some s => s.l
def QlH (l : List Qbh) (u : Int) : Bool := l.any fun s => decide (s.u = u) && decide (s.c = -1)
def Qoz (w : ZA) (l : List Qbh) (inc : List Qfh) : Bool := inc.all fun t => decide (QhD (Qfr w l t.u) t.m = 2)
def Qgz (have_ : Int -> Int) : List Qfh -> Int -> Int
 | [], at_ => at_
 | t :: r, at_ => if QhD (have_ t.u) t.m = 0 then -1 else if QhD (have_ t.u) t.m = 1 then (if 0 <= at_ then -1 else Qgz have_ r t.u) else Qgz have_ r at_
def QnY (w : ZA) (l : List Qbh) (inc : List Qfh) : Int := Qgz (Qfr w l) inc (-1)
def Qjq (w : ZA) (l : List Qbh) : Nat -> List (List Qfh) -> Int × Int
 | _, [] => (-1, -1)
 | i, x :: r => if Qoz w l x = true then (i, -1) else if 0 <= QnY w l x then (i, QnY w l x) else Qjq w l (i + 1) r
def Qoy (w : ZA) (db : List (List Qfh)) (l : List Qbh) : Int × Int := Qjq w l 0 db
end M25
namespace M25
open Go Go.Abs M3
section
variable {fr : List (Nat × D)} {H : List (Nat × Box)} {t u : Nat}
theorem Qlk {k n : Nat} {b : Box} {d : D} (hb : lk H k = some b) (hp : b.pr = true) (hn : n = b.rows.length) (hd : .sl b.rows = d) : Qae ⟨fr, H⟩ (.osl k n) = d := by
 unfold Qae; rw [Qox (S := Qdm) rfl hb hp hn]; exact hd
theorem Qa6 {e : YE} {k n : Nat} {b : Box} {d : D} (h : lk fr t = some (.osl k n)) (hb : lk H k = some b) (hp : b.pr = true) (hn : n = b.rows.length) (hd : .sl b.rows = d) (he : e = .ret \/ e = .normal := by first | exact .inl rfl | exact .inr rfl) : Post [.tmp t] d e ⟨fr, H⟩ :=
 ZL h (Qlk hb hp hn hd) he
end
theorem QhX {α : Type} {a b : List α} {i : Nat} (ha : i < a.length) (hb : i < b.length) (h : a.take i = b.take i) (he : a[i] = b[i]) : a.take (i + 1) = b.take (i + 1) := by
 rw [List.take_succ_eq_append_getElem ha, List.take_succ_eq_append_getElem hb, h, he]
theorem QkY {α : Type} [DecidableEq α] {a b : List α} {i : Nat} (ha : i < a.length) (hb : i < b.length) (he : ¬ a[i] = b[i]) : decide (a = b) = false := decide_eq_false fun e => he (by subst e; rfl)
theorem Qjw {e : Int} (h1 : 0 <= e) (h2 : e <= 18446744073709551615) : IntKind.u64.wrap e = e := by
 unfold IntKind.wrap
 simp only [IntKind.bits, IntKind.signed, Bool.false_and, Bool.false_eq_true, if_false]
 omega
end M25
namespace Go.Proofs
open Go Go.Abs M3 M25
set_option linter.unusedVariables false
set_option linter.unusedSimpArgs false
end Go.Proofs
namespace M25
open Go Go.Abs M3
end M25
namespace M25
open Go Go.Abs M3
/-! ### Bits of numbers -/
def tb (x : Int) (i : Nat) : Bool := (BitVec.ofInt 64 x).getLsbD i
def Lo (x : Int) : Prop := 0 <= x /\ x < 131072
end M25
namespace M25
open Go Go.Abs M3
/-! ### Trails: the loops' laws -/
def QnA (w : ZA) (l : List Qbh) : Prop := ∀ s ∈ l, Lo s.m
end M25
namespace M25
open Go Go.Abs M3
end M25
namespace Go.Proofs
open Go Go.Abs M3 M25
set_option linter.unusedVariables false
set_option linter.unusedSimpArgs false
end Go.Proofs
namespace M25
open Go Go.Abs M3
/-! ### prop: what is left of each unit, scans -/
structure Qnz (w : ZA) (db : List (List Qfh)) (l : List Qbh) (a : Nat) (k : Nat) : Prop where
  ha : a < db.length
  hk : k < db[a].length
  eq : Qoy w db l = ((a : Int), db[a][k].u)
  one : QhD (Qfr w l db[a][k].u) db[a][k].m = 1
  two : ∀ j, ∀ hj : j < db[a].length, j ≠ k -> QhD (Qfr w l db[a][j].u) db[a][j].m = 2
def Qpb (w : ZA) (l : List Qbh) (t : Qfh) (c : Int) : Qbh := ⟨t.u, Qpa (Qfr w l t.u) t.m, QnX l, c⟩
end M25
namespace M25
open Go Go.Abs M3
/-! ### Sets that are made: moderate sizes -/
theorem Qlx (l : List (Cu × Cu)) (x y : Cu) : (QbF l x y).length <= l.length + 1 := Qhz l x y
theorem Qgh (f : Cu -> Cu -> Bool) : ∀ (c : List Cu) (out : List (Cu × Cu)), (∀ x ∈ c, Cu.sm x) -> (∀ s ∈ out, Cu.sm s.1 /\ Cu.sm s.2) -> (QbD f c out).length <= out.length + c.length /\ ∀ s ∈ QbD f c out, Cu.sm s.1 /\ Cu.sm s.2
 | [], out, _, h => ⟨by simp [QbD], by simpa [QbD] using h⟩
 | [x], out, _, h => ⟨by simp [QbD], by simpa [QbD] using h⟩
 | x :: y :: r, out, hc, h => by
  rw [QbD]
  have hxy := Qlx out x y
  split
  ·obtain ⟨h1, h2⟩ := Qgh f (y :: r) (QbF out x y) (fun z hz => hc z (by simp at hz ⊢; exact .inr hz)) (Qjh h (hc x (by simp)) (hc y (by simp)))
   exact ⟨by simp only [List.length_cons] at h1 ⊢; omega, h2⟩
  ·obtain ⟨h1, h2⟩ := Qgh f (y :: r) out (fun z hz => hc z (by simp at hz ⊢; exact .inr hz)) h
   exact ⟨by simp only [List.length_cons] at h1 ⊢; omega, h2⟩
def SmN (n : Nat) (l : List (Cu × Cu)) : Prop := l.length <= n /\ ∀ s ∈ l, Cu.sm s.1 /\ Cu.sm s.2
theorem SmN.sm {n : Nat} {l : List (Cu × Cu)} (h : SmN n l) (hn : n <= 1000000) : Sm l := ⟨Nat.le_trans h.1 hn, h.2⟩
theorem SmN.up {n m : Nat} {l : List (Cu × Cu)} (h : SmN n l) (hn : n <= m) : SmN m l := ⟨Nat.le_trans h.1 hn, h.2⟩
theorem SmN.nil (n : Nat) : SmN n [] := ⟨Nat.zero_le _, by simp⟩
theorem Qmm {a b : List (Cu × Cu)} {n m : Nat} (ha : SmN n a) (hb : SmN m b) (h : n + m <= 1000000) : SmN (2 + 2 * (n + m)) (Qmh a b) := by
 unfold Qmh
 split
 ·have hab : Sm (a ++ b) := (ha.sm (by omega)).app (hb.sm (by omega)) (by have := ha.1; have := hb.1; omega)
  unfold Qis
  split
  ·obtain ⟨h1, h2⟩ := Qgh (mIn (a ++ b)) (YW (a ++ b)) [] (Yw hab) (by simp)
   have := QbC (a ++ b)
   have := ha.1
   have := hb.1
   exact ⟨by simp only [List.length_nil, List.length_append] at *; omega, h2⟩
  ·exact SmN.nil _
 ·exact SmN.nil _
theorem QkE {a : List (Cu × Cu)} {n : Nat} (ha : SmN n a) (h : n <= 1000000) : SmN (2 + 2 * n) (Qit a) := by
 unfold Qit
 split
 ·obtain ⟨h1, h2⟩ := Qgh (fun x y => !mIn a x y) (YW a) [] (Yw (ha.sm h)) (by simp)
  have := QbC a
  have := ha.1
  exact ⟨by simp only [List.length_nil] at *; omega, h2⟩
 ·exact SmN.nil _
def Qjz (n : Nat) (s : QhZ) : Prop := SmN n s.1 /\ SmN n s.2
theorem Qn1 {a b : QhZ} {n m : Nat} (ha : Qjz n a) (hb : Qjz m b) (h : n + m <= 1000000) : Qjz (2 + 2 * (n + m)) (Qmi a b) := by
 unfold Qmi
 split
 ·exact ⟨Qmm ha.1 hb.1 h, Qmm ha.2 hb.2 h⟩
 ·exact ⟨SmN.nil _, SmN.nil _⟩
theorem QkF {a : QhZ} {n : Nat} (ha : Qjz n a) (h : n <= 1000000) : Qjz (2 + 2 * n) (Qgv a) := by
 unfold Qgv
 split
 ·exact ⟨QkE ha.1 h, QkE ha.2 h⟩
 ·exact ⟨SmN.nil _, SmN.nil _⟩
theorem Qb1 (e a b c : Int) (f : Bool) : Cu.sm ⟨e, a, b, c, [], [], f⟩ := ⟨Nat.zero_le _, Nat.zero_le _⟩
theorem QbU {a b c : Int} {p q : List UInt8} (hp : p.length <= 1000000) : Qjz 1 (Xe a b c p q) := by
 unfold Xe
 split
 ·exact ⟨SmN.nil _, SmN.nil _⟩
 ·split
  ·refine ⟨SmN.nil _, ⟨Nat.le_refl _, fun s hs => ?_⟩⟩
   simp only [List.mem_singleton] at hs; subst hs
   exact ⟨⟨hp, Nat.zero_le _⟩, ⟨hp, Nat.zero_le _⟩⟩
  ·refine ⟨⟨Nat.le_refl _, fun s hs => ?_⟩, SmN.nil _⟩
   simp only [List.mem_singleton] at hs; subst hs
   constructor
   ·unfold QeZ; split
    ·exact Qb1 ..
    ·exact Qb1 ..
   ·unfold Qc3; split
    ·exact Qb1 ..
    ·exact Qb1 ..
def Qj1 : QhZ := ([(Qcg, Qfp)], [(Qcg, Qfp)])
theorem Ql5 : Qjz 1 Qj1 := by
 have h : SmN 1 [(Qcg, Qfp)] := ⟨Nat.le_refl _, fun s hs => by simp only [List.mem_singleton] at hs; subst hs; exact ⟨Qb1 .., Qb1 ..⟩⟩
 exact ⟨h, h⟩
def bnd (i : Nat) : Nat := 4 * 2 ^ i
theorem Ql8 {i : Nat} (h : i <= 16) : bnd i <= 262144 := by
 have : 2 ^ i <= 2 ^ 16 := Nat.pow_le_pow_right (by omega) h
 have e : (2 : Nat) ^ 16 = 65536 := by decide
 unfold bnd; omega
theorem Qn6 {s : QhZ} {i : Nat} (h : Qjz (bnd i - 4) s) {a b c : Int} {p q : List UInt8} (hp : p.length <= 1000000) (hi : i <= 16) : Qjz (bnd (i + 1) - 4) (Qmi s (Xe a b c p q)) := by
 have h1 := Ql8 hi
 have h4 : 4 <= bnd i := by unfold bnd; have := Nat.one_le_two_pow (n := i); omega
 have := Qn1 h (QbU (a := a) (b := b) (c := c) (q := q) hp) (by omega)
 have e : bnd (i + 1) = 2 * bnd i := by unfold bnd; rw [Nat.pow_succ]; omega
 exact ⟨this.1.up (by omega), this.2.up (by omega)⟩
theorem QlW {s : QhZ} {i : Nat} (h : Qjz (bnd i - 4) s) : Qjz (bnd (i + 1) - 4) s := by
 have e : bnd (i + 1) = 2 * bnd i := by unfold bnd; rw [Nat.pow_succ]; omega
 exact ⟨h.1.up (by omega), h.2.up (by omega)⟩
def SetOk (s : QhZ) : Prop := Qjz 600000 s
theorem SetOk.sm {s : QhZ} (h : SetOk s) : Sm s.1 /\ Sm s.2 := ⟨h.1.sm (by omega), h.2.sm (by omega)⟩
structure CR where
 v : Vr
 x : D
 y : D
 z : D
def dCR (r : CR) : List D := [.int .i64 r.v.a, .int .i64 r.v.b, .int .i64 r.v.c, .str r.v.p, .str r.v.q, r.x, r.y, r.z]
def CR.ren (r : CR) : CR := ⟨r.v, r.x.renS upN, r.y.renS upN, r.z.renS upN⟩
theorem Qj7 (l : List CR) : (l.map dCR).map (fun r => r.map (D.renS upN)) = (l.map CR.ren).map dCR := by
 rw [List.map_map, List.map_map]; rfl
structure UR where
 n : List UInt8
 f : List UInt8
 k : Nat
 cs : List CR
def dUR (u : UR) : List D := [.str u.n, .str u.f, .osl u.k u.cs.length]
def UR.ren (u : UR) : UR := ⟨u.n, u.f, upN u.k, u.cs.map CR.ren⟩
theorem QmT (l : List UR) : (l.map dUR).map (fun r => r.map (D.renS upN)) = (l.map UR.ren).map dUR := by
 rw [List.map_map, List.map_map]
 refine List.map_congr_left fun u _ => ?_
 simp [dUR, UR.ren, D.renS]
structure Fam (H : List (Nat × Box)) (kg ku eu ec : Nat) (us : List UR) : Prop where
 ne : ku ≠ kg
 u : ∃ pr, lk H ku = some ⟨us.map dUR, 3, eu, pr⟩
 c : ∀ y ∈ us, y.k ≠ kg /\ ∃ pr, lk H y.k = some ⟨y.cs.map dCR, 8, ec, pr⟩
 v : ∀ y ∈ us, y.cs.length <= 16 /\ ∀ z ∈ y.cs, QcC z.v
theorem Fam.up {H : List (Nat × Box)} {kg ku eu ec : Nat} {us : List UR} (h : Fam H kg ku eu ec us) : Fam (upH H) (upN kg) (upN ku) eu ec (us.map UR.ren) := by
 obtain ⟨h1, ⟨pu, h2⟩, h3, h4⟩ := h
 refine ⟨fun e => h1 (QiJ e), ⟨pu, ?_⟩, fun y hy => ?_, fun y hy => ?_⟩
 ·rw [Qap, h2, Option.map_some, Box.ren, QmT]
 ·obtain ⟨u, hu, rfl⟩ := List.mem_map.1 hy
  obtain ⟨q1, pr, q2⟩ := h3 u hu
  refine ⟨fun e => q1 (QiJ e), pr, ?_⟩
  show lk (upH H) (upN u.k) = _
  rw [Qap, q2, Option.map_some, Box.ren, Qj7]; rfl
 ·obtain ⟨u, hu, rfl⟩ := List.mem_map.1 hy
  obtain ⟨q1, q2⟩ := h4 u hu
  refine ⟨by simpa [UR.ren] using q1, fun z hz => ?_⟩
  obtain ⟨z0, hz0, rfl⟩ := List.mem_map.1 hz
  exact q2 z0 hz0
theorem Fam.cons {H : List (Nat × Box)} {kg ku eu ec : Nat} {us : List UR} (h : Fam H kg ku eu ec us) {b : Box} : Fam ((kg, b) :: H) kg ku eu ec us := by
 obtain ⟨h1, ⟨pu, h2⟩, h3, h4⟩ := h
 exact ⟨h1, ⟨pu, Qk (Ne.symm h1) h2⟩, fun y hy => let ⟨q1, pr, q2⟩ := h3 y hy; ⟨q1, pr, Qk (Ne.symm q1) q2⟩, h4⟩
def WantIn (n : Nat) (x : WantT) : Prop := 1 <= x.u /\ x.u < n /\ SetOk x.s
def Qg2 (n : Nat) (r : List WantT) : Prop := r.length <= 2 /\ ∀ x ∈ r, WantIn n x
def Qel (n : Nat) (m : Int) (ns : List (List WantT)) : Prop := (ns.length : Int) <= m /\ ∀ r ∈ ns, Qg2 n r
theorem Qm8 {n : Nat} {x : WantT} (h : WantIn n x) : Qg2 n [x] := ⟨by simp, by intro y hy; simp only [List.mem_singleton] at hy; subst hy; exact h⟩
theorem Qm9 {n : Nat} {x y : WantT} (h : WantIn n x) (h' : WantIn n y) : Qg2 n [x, y] := ⟨by simp, by
 intro z hz
 simp only [List.mem_cons, List.not_mem_nil, or_false] at hz
 rcases hz with rfl | rfl
 ·exact h
 ·exact h'⟩
theorem QkU {n : Nat} {ns : List (List WantT)} {r : List WantT} (h : ∀ r ∈ ns, Qg2 n r) (hr : Qg2 n r) : ∀ x ∈ ns ++ [r], Qg2 n x := fun x hx => by
 rcases List.mem_append.1 hx with hx | hx
 ·exact h x hx
 ·simp only [List.mem_singleton] at hx; subst hx; exact hr
end M25
namespace M25
open Go Go.Abs M3
/-! ### The boxes of a world under way -/
def fbx (ec : Nat) (us : List UR) : List (Nat × Box) := us.map fun u => (u.k, ⟨u.cs.map dCR, 8, ec, true⟩)
def Z5 (us : List UR) : Prop := ∀ j, ∀ h : j < us.length, us[j].k = 500001 + j
theorem Qhv {us : List UR} {u : UR} (h : Z5 us) (hu : u.k = 500001 + us.length) : Z5 (us ++ [u]) := fun j hj => by
 rw [List.length_append, List.length_singleton] at hj
 by_cases e : j < us.length
 ·rw [List.getElem_append_left e]; exact h j e
 ·have : j = us.length := by omega
  subst this
  rw [List.getElem_append_right (Nat.le_refl _)]; simpa using hu
theorem QeK (ec : Nat) (us : List UR) : Qlh (fbx ec us) := fun p hp => by
 obtain ⟨u, _, rfl⟩ := List.mem_map.1 hp; rfl
theorem QfN {ec : Nat} : ∀ {us : List UR} {k : Nat} {b : Box}, lk (fbx ec us) k = some b -> ∃ u ∈ us, k = u.k /\ b = ⟨u.cs.map dCR, 8, ec, true⟩
 | [], _, _, h => by cases h
 | u :: us, k, b, h => by
  simp only [fbx, List.map_cons] at h
  rw [Qn] at h
  split at h
  ·rename_i e; cases h; exact ⟨u, by simp, e.symm, rfl⟩
  ·obtain ⟨v, hv, q⟩ := QfN (us := us) h
   exact ⟨v, by simp [hv], q⟩
theorem Qa1 {us : List UR} (h : Z5 us) {u : UR} (hu : u ∈ us) : 500001 <= u.k /\ u.k < 500001 + us.length := by
 obtain ⟨j, hj, rfl⟩ := List.getElem_of_mem hu
 have := h j hj
 omega
theorem Qgf {ec : Nat} {us : List UR} (h : Z5 us) : Qo3 500001 (fbx ec us) := fun k b hk => by
 obtain ⟨u, hu, rfl, _⟩ := QfN hk
 exact (Qa1 h hu).1
theorem YS {ec : Nat} {us : List UR} (h : Z5 us) {k : Nat} (hk : k < 500001 \/ 500001 + us.length <= k) : lk (fbx ec us) k = none := by
 cases hh : lk (fbx ec us) k with
 | none => rfl
 | some b =>
  obtain ⟨u, hu, rfl, _⟩ := QfN hh
  have := Qa1 h hu
  omega
theorem Qke {ec : Nat} : ∀ {us : List UR} {n : Nat}, (∀ j, ∀ h : j < us.length, us[j].k = n + j) -> ∀ j, ∀ h : j < us.length, lk (fbx ec us) (n + j) = some ⟨us[j].cs.map dCR, 8, ec, true⟩
 | [], _, _, j, hj => by simp at hj
 | u :: us, n, hk, 0, _ => by
  have := hk 0 (by simp)
  simp only [List.getElem_cons_zero, Nat.add_zero] at this
  simp only [fbx, List.map_cons, Nat.add_zero]
  rw [Qn, if_pos this]; rfl
 | u :: us, n, hk, j + 1, hj => by
  have h0 := hk 0 (by simp)
  simp only [List.getElem_cons_zero, Nat.add_zero] at h0
  simp only [fbx, List.map_cons]
  rw [Qn, if_neg (by omega)]
  have := Qke (ec := ec) (us := us) (n := n + 1) (fun i hi => by
   have := hk (i + 1) (by simpa using hi)
   simp only [List.getElem_cons_succ] at this
   omega) j (by simpa using hj)
  rw [show n + 1 + j = n + (j + 1) by omega] at this
  simp only [List.getElem_cons_succ]
  exact this
theorem Qkd {ec : Nat} {us : List UR} (h : Z5 us) {j : Nat} (hj : j < us.length) : lk (fbx ec us) (500001 + j) = some ⟨us[j].cs.map dCR, 8, ec, true⟩ := Qke h j hj
theorem Qi3 (ec : Nat) (us : List UR) (u : UR) : fbx ec (us ++ [u]) = fbx ec us ++ [(u.k, ⟨u.cs.map dCR, 8, ec, true⟩)] := by simp [fbx]
theorem Qlq {ec : Nat} {us : List UR} (h : Z5 us) {kg : Nat} {x y : Box} {u : UR} (hu : u.k = 500001 + us.length) (hkg : u.k ≠ kg) (k : Nat) :
  lk ((u.k, ⟨u.cs.map dCR, 8, ec, true⟩) :: (500000, x) :: (kg, y) :: fbx ec us) k = lk ((500000, x) :: (kg, y) :: fbx ec (us ++ [u])) k := by
 rw [Qi3]
 by_cases e : u.k = k
 ·subst e
  rw [Qx, Qn, if_neg (by omega), Qn, if_neg (Ne.symm hkg), YV (YS h (.inr (by omega))), Qx]
 ·rw [Qn, if_neg e, Qn, Qn, Qn, Qn]
  split
  ·rfl
  ·split
   ·rfl
   ·rw [ZW]
    cases h2 : lk (fbx ec us) k with
    | some v => rfl
    | none => rw [Qn, if_neg e]; rfl
def zr (v : Vr) (sh : Int) : CR := ⟨v, .int .i64 sh, .fsl [], .fsl []⟩
def Qnx (u : UR) : Prop := u.cs.length <= 4 /\ ∀ z ∈ u.cs, ∃ v sh, z = zr v sh /\ QcC v
theorem Qmd {u : UR} : (dUR u).flatMap D.sid = [u.k] := by simp [dUR, D.sid]
theorem Qbc {us : List UR} {e et : Nat} {k : Nat} (h : k ∈ (Box.ids ⟨us.map dUR, e, et, false⟩)) : ∃ u ∈ us, k = u.k := by
 simp only [Box.ids, Bool.false_eq_true, if_false, List.mem_flatMap, List.mem_map] at h
 obtain ⟨r, ⟨u, hu, rfl⟩, hk⟩ := h
 have : k ∈ (dUR u).flatMap D.sid := List.mem_flatMap.2 hk
 rw [Qmd] at this
 exact ⟨u, hu, by simpa using this⟩
theorem Qnk {us : List UR} (h : Z5 us) : ∀ r ∈ us.map dUR, ∀ d ∈ r, 500000 ∉ d.sid := fun r hr d hd hk => by
 obtain ⟨u, hu, rfl⟩ := List.mem_map.1 hr
 have : 500000 ∈ (dUR u).flatMap D.sid := List.mem_flatMap.2 ⟨d, hd, hk⟩
 rw [Qmd] at this
 have h2 := Qa1 h hu
 simp only [List.mem_singleton] at this
 omega
theorem Qf4 {B F : List (Nat × Box)} {j : Nat} (h : (lk F j).isSome = true) : (lk (B ++ F) j).isSome = true := by
 rw [ZW]; split
 ·rfl
 ·exact h
theorem QcU {ec : Nat} {us : List UR} (h : Z5 us) {u : UR} (hu : u ∈ us) : (lk (fbx ec us) u.k).isSome = true := by
 obtain ⟨j, hj, rfl⟩ := List.getElem_of_mem hu
 rw [h j hj, Qkd h hj]; rfl
theorem Qgg {ec : Nat} {us : List UR} {u : UR} (h : Z5 us) (hu : u.k = 500001 + us.length) : lk (fbx ec (us ++ [u])) (500001 + us.length) = some ⟨u.cs.map dCR, 8, ec, true⟩ := by
 rw [Qi3, YV (YS h (.inr (Nat.le_refl _))), <- hu, Qx]
section
variable {l : List Nat} {fr fr1 fr' : List (Nat × D)} {B : List (Nat × Box)} {kg eg eu ec : Nat} {L : List Int} {J : Int} {us : List UR}
theorem Qo8 (hf : Zd l fr = fr1) (ef : fr1 = fr') (hK : Z5 us) (hu : lk B 500000 = some ⟨us.map dUR, 3, eu, false⟩) (hg : lk B kg = some (gB L J eg)) (hB : ∀ p ∈ B, 500001 <= p.1 -> p.1 = kg) (hkg : kg ≠ 500000)
  (hfr : ∀ p ∈ fr', ∀ k ∈ p.2.ids, k = 500000 \/ k = kg \/ ∃ u ∈ us, k = u.k) : St.le ⟨fr, B ++ fbx ec us⟩ ⟨fr', [(500000, ⟨us.map dUR, 3, eu, false⟩), (kg, gB L J eg)] ++ fbx ec us⟩ := by
 have s0 : ∀ k, (k = 500000 \/ k = kg \/ ∃ u ∈ us, k = u.k) -> (lk ([(500000, (⟨us.map dUR, 3, eu, false⟩ : Box)), (kg, gB L J eg)] ++ fbx ec us) k).isSome = true := fun k hk => by
  rcases hk with rfl | rfl | ⟨u, hu, rfl⟩
  ·exact QW
  ·exact QT QW
  ·exact Qf4 (QcU hK hu)
 refine Qip (N := 500001) hf ef (fun p hp => ?_) rfl (fun p hp j hj => s0 j ?_) (fun p hp h => ?_) (Qgf hK) (QeK ec us) (fun p hp k hk => s0 k (hfr p hp k hk))
 ·simp only [List.mem_cons, List.not_mem_nil, or_false] at hp
  rcases hp with rfl | rfl
  ·exact hu
  ·exact hg
 ·simp only [List.mem_cons, List.not_mem_nil, or_false] at hp
  rcases hp with rfl | rfl
  ·exact .inr (.inr (Qbc hj))
  ·simp [Box.ids, gB] at hj
 ·rw [hB p hp h]; exact QT QW
theorem Qnv {cs : List CR} (hf : Zd l fr = fr1) (ef : fr1 = fr') (hK : Z5 us) (hc : lk B (500001 + us.length) = some ⟨cs.map dCR, 8, ec, true⟩) (hu : lk B 500000 = some ⟨us.map dUR, 3, eu, false⟩) (hg : lk B kg = some (gB L J eg)) (hB : ∀ p ∈ B, 500001 <= p.1 -> p.1 = kg \/ p.1 = 500001 + us.length)
  (hfr : ∀ p ∈ fr', ∀ k ∈ p.2.ids, k = 500000 \/ k = kg \/ k = 500001 + us.length \/ ∃ u ∈ us, k = u.k) : St.le ⟨fr, B ++ fbx ec us⟩ ⟨fr', [(500001 + us.length, ⟨cs.map dCR, 8, ec, true⟩), (500000, ⟨us.map dUR, 3, eu, false⟩), (kg, gB L J eg)] ++ fbx ec us⟩ := by
 have s0 : ∀ k, (k = 500000 \/ k = kg \/ k = 500001 + us.length \/ ∃ u ∈ us, k = u.k) -> (lk ([(500001 + us.length, (⟨cs.map dCR, 8, ec, true⟩ : Box)), (500000, (⟨us.map dUR, 3, eu, false⟩ : Box)), (kg, gB L J eg)] ++ fbx ec us) k).isSome = true := fun k hk => by
  rcases hk with rfl | rfl | rfl | ⟨u, hu, rfl⟩
  ·exact QT QW
  ·exact QT (QT QW)
  ·exact QW
  ·exact Qf4 (QcU hK hu)
 refine Qip (N := 500001) hf ef (fun p hp => ?_) rfl (fun p hp j hj => s0 j ?_) (fun p hp h => ?_) (Qgf hK) (QeK ec us) (fun p hp k hk => s0 k (hfr p hp k hk))
 ·simp only [List.mem_cons, List.not_mem_nil, or_false] at hp
  rcases hp with rfl | rfl | rfl
  ·exact hc
  ·exact hu
  ·exact hg
 ·simp only [List.mem_cons, List.not_mem_nil, or_false] at hp
  rcases hp with rfl | rfl | rfl
  ·simp [Box.ids] at hj
  ·exact .inr (.inr (.inr (Qbc hj)))
  ·simp [Box.ids, gB] at hj
 ·rcases hB p hp h with e | e
  ·rw [e]; exact QT (QT QW)
  ·rw [e]; exact QW
theorem Qob {u : UR} (hf : Zd l fr = fr1) (ef : fr1 = fr') (hK : Z5 us) (huk : u.k = 500001 + us.length) (hc : lk B (500001 + us.length) = some ⟨u.cs.map dCR, 8, ec, true⟩) (hu : lk B 500000 = some ⟨(us ++ [u]).map dUR, 3, eu, false⟩) (hg : lk B kg = some (gB L J eg)) (hB : ∀ p ∈ B, 500001 <= p.1 -> p.1 = kg \/ p.1 = 500001 + us.length) (hkg : 1000000 <= kg) (hlen : us.length <= 100)
  (hfr : ∀ p ∈ fr', ∀ k ∈ p.2.ids, k = 500000 \/ k = kg \/ ∃ v ∈ us ++ [u], k = v.k) : St.le ⟨fr, B ++ fbx ec us⟩ ⟨fr', [(500000, ⟨(us ++ [u]).map dUR, 3, eu, false⟩), (kg, gB L J eg)] ++ fbx ec (us ++ [u])⟩ := by
 have hK1 := Qhv hK huk
 have mv := fun k => Qlq (ec := ec) hK (kg := kg) (x := ⟨(us ++ [u]).map dUR, 3, eu, false⟩) (y := gB L J eg) huk (by omega) k
 have s0 : ∀ k, (k = 500000 \/ k = kg \/ ∃ v ∈ us ++ [u], k = v.k) -> (lk ([(u.k, (⟨u.cs.map dCR, 8, ec, true⟩ : Box)), (500000, (⟨(us ++ [u]).map dUR, 3, eu, false⟩ : Box)), (kg, gB L J eg)] ++ fbx ec us) k).isSome = true := fun k hk => by
  show (lk ((u.k, _) :: (500000, _) :: (kg, _) :: fbx ec us) k).isSome = true
  rw [mv]
  rcases hk with rfl | rfl | ⟨v, hv, rfl⟩
  ·exact QW
  ·exact QT QW
  ·exact QT (QT (QcU hK1 hv))
 refine le_trans (Qip (N := 500001) (A' := [(u.k, ⟨u.cs.map dCR, 8, ec, true⟩), (500000, ⟨(us ++ [u]).map dUR, 3, eu, false⟩), (kg, gB L J eg)]) hf ef (fun p hp => ?_) rfl (fun p hp j hj => s0 j ?_) (fun p hp h => ?_) (Qgf hK) (QeK ec us) (fun p hp k hk => s0 k (hfr p hp k hk))) (Qin ⟨fun _ => rfl, mv⟩)
 ·simp only [List.mem_cons, List.not_mem_nil, or_false] at hp
  rcases hp with rfl | rfl | rfl
  ·rw [huk]; exact hc
  ·exact hu
  ·exact hg
 ·simp only [List.mem_cons, List.not_mem_nil, or_false] at hp
  rcases hp with rfl | rfl | rfl
  ·simp [Box.ids] at hj
  ·exact .inr (.inr (Qbc hj))
  ·simp [Box.ids, gB] at hj
 ·rcases hB p hp h with e | e
  ·rw [e]; exact QT (QT QW)
  ·rw [e, <- huk]; exact QW
end
def u0 (v : Vr) : UR := ⟨[], [], 500001, [zr v (-1)]⟩
def v0 : Vr := ⟨0, 0, 0, [], []⟩
theorem QlZ {kg a b : Nat} (h : 1000000 <= kg) (ha : a < 1000000) (hb : b < 1000000) : Qbl a b kg = kg := by
 unfold Qbl; rw [if_neg (by omega), if_neg (by omega)]
theorem Qkw {l : List Nat} {fr fr1 fr' : List (Nat × D)} {kg eg eu ec : Nat} {L : List Int} {I : Int} (hkg : 1000000 <= kg) (hf : Zd l fr = fr1) (ef : fr1.map (fun p => (p.1, (p.2.ren (Qbl 18 500000)).ren (Qbl 16 500001))) = fr') :
  St.le ⟨fr, [(18, ⟨[[.str [], .str [], .osl 16 1]], 3, eu, false⟩), (16, ⟨[dCR (zr v0 (-1))], 8, ec, true⟩), (kg, gB L I eg)]⟩ ⟨fr', [(500000, ⟨[u0 v0].map dUR, 3, eu, false⟩), (kg, gB L I eg)] ++ fbx ec [u0 v0]⟩ := by
 subst hf ef
 have k1 := QlZ (a := 18) (b := 500000) hkg (by decide) (by decide)
 have k2 := QlZ (a := 16) (b := 500001) hkg (by decide) (by decide)
 refine le_trans (QbA l fr _) (le_trans (Qio 18 500000 (by decide) (by decide) _) (le_trans (Qio 16 500001 (by decide) (by decide) _) ?_))
 have hH : ∀ k, lk ([(500000, (⟨[u0 v0].map dUR, 3, eu, false⟩ : Box)), (kg, gB L I eg)] ++ fbx ec [u0 v0]) k = lk (QgT (Qbl 16 500001) (QgT (Qbl 18 500000) [(18, ⟨[[.str [], .str [], .osl 16 1]], 3, eu, false⟩), (16, ⟨[dCR (zr v0 (-1))], 8, ec, true⟩), (kg, gB L I eg)])) k := fun k => by
  have e : QgT (Qbl 16 500001) (QgT (Qbl 18 500000) [(18, (⟨[[.str [], .str [], .osl 16 1]], 3, eu, false⟩ : Box)), (16, ⟨[dCR (zr v0 (-1))], 8, ec, true⟩), (kg, gB L I eg)]) = [(500000, ⟨[u0 v0].map dUR, 3, eu, false⟩), (500001, ⟨[dCR (zr v0 (-1))], 8, ec, true⟩), (kg, gB L I eg)] := by
   simp only [QgT, List.map_cons, List.map_nil, k1, k2]; rfl
  rw [e]
  show lk ((500000, _) :: (kg, _) :: (500001, _) :: []) k = _
  rw [Qn, Qn, Qn, Qn, Qn, Qn]
  by_cases h1 : 500000 = k
  ·rw [if_pos h1, if_pos h1]
  ·rw [if_neg h1, if_neg h1]
   by_cases h2 : kg = k
   ·rw [if_pos h2, if_neg (by omega), if_pos h2]
   ·rw [if_neg h2, if_neg h2]; rfl
 refine Qa2 (by simp only [St.ren, List.map_map]; rfl) fun k => (hH k).symm
def names5 : List (List UInt8) := [[97, 110, 116], [98, 101, 101], [99, 111, 119], [100, 111, 103], [101, 108, 107]]
theorem Q9 : names5.length = 5 := rfl
theorem QbP : versions.length = 4 := rfl
theorem Qk4 {i : Nat} (h : i < versions.length) : QcC versions[i] := by
 have := QiK _ (List.getElem_mem h)
 exact ⟨Nat.le_trans this.1 (by omega), Nat.le_trans this.2 (by omega)⟩
structure UnitsIn (us : List UR) : Prop where
 keys : Z5 us
 fresh : ∀ u ∈ us, Qnx u
 first : ∃ z rest, us = ⟨[], [], 500001, [z]⟩ :: rest
theorem UnitsIn.zero : UnitsIn [u0 v0] := by
 refine ⟨fun j hj => ?_, fun u hu => ?_, ⟨zr v0 (-1), [], rfl⟩⟩
 ·have : j = 0 := by simp at hj; exact hj
  subst this; rfl
 ·simp only [List.mem_singleton] at hu; subst hu
  refine ⟨by simp [u0], fun z hz => ?_⟩
  simp only [u0, List.mem_singleton] at hz; subst hz
  exact ⟨v0, -1, rfl, ⟨Nat.zero_le _, Nat.zero_le _⟩⟩
theorem UnitsIn.snoc {us : List UR} (h : UnitsIn us) {n f : List UInt8} {cs : List CR} (hc : cs.length <= 4) (hz : ∀ z ∈ cs, ∃ v sh, z = zr v sh /\ QcC v) : UnitsIn (us ++ [⟨n, f, 500001 + us.length, cs⟩]) := by
 obtain ⟨h1, h2, z, rest, h3⟩ := h
 refine ⟨Qhv h1 rfl, fun u hu => ?_, z, rest ++ [⟨n, f, 500001 + us.length, cs⟩], by rw [h3]; rfl⟩
 rcases List.mem_append.1 hu with hu | hu
 ·exact h2 u hu
 ·simp only [List.mem_singleton] at hu; subst hu; exact ⟨hc, hz⟩
def CsIn (n : Nat) (cs : List CR) : Prop := cs.length <= n /\ ∀ z ∈ cs, ∃ v sh, z = zr v sh /\ QcC v
theorem CsIn.nil (n : Nat) : CsIn n [] := ⟨Nat.zero_le _, by simp⟩
theorem CsIn.keep {n : Nat} {cs : List CR} (h : CsIn n cs) : CsIn (n + 1) cs := ⟨Nat.le_succ_of_le h.1, h.2⟩
theorem CsIn.snoc {n : Nat} {cs : List CR} (h : CsIn n cs) {v : Vr} (hv : QcC v) {sh : Int} : CsIn (n + 1) (cs ++ [zr v sh]) := by
 refine ⟨by simp; exact h.1, fun z hz => ?_⟩
 rcases List.mem_append.1 hz with hz | hz
 ·exact h.2 z hz
 ·simp only [List.mem_singleton] at hz; subst hz; exact ⟨v, sh, rfl, hv⟩
theorem CsIn.at {n : Nat} {cs : List CR} (h : CsIn n cs) {i : Nat} (hi : i < cs.length) : QcC cs[i].v := by
 obtain ⟨v, sh, e, hv⟩ := h.2 _ (List.getElem_mem hi)
 rw [e]; exact hv
theorem Qjf {α : Type} {k : Nat} {v v' : α} {l : List (Nat × α)} (h : v = v') : lk ((k, v) :: l) k = some v' := by rw [Qx, h]
theorem QhR {us : List UR} {e et : Nat} (h : Z5 us) : Box.scrub (500001 + us.length) ⟨us.map dUR, e, et, false⟩ = ⟨us.map dUR, e, et, false⟩ := QhQ fun hk => by
 obtain ⟨u, hu, e⟩ := Qbc hk
 have := Qa1 h hu
 omega
theorem Qju {us : List UR} (h : Z5 us) {n f : List UInt8} {k m : Nat} (hk : k ≠ 500000) : ∀ r ∈ us.map dUR ++ [[D.str n, D.str f, D.osl k m]], ∀ d ∈ r, 500000 ∉ d.sid := fun r hr d hd => by
 rcases List.mem_append.1 hr with hr | hr
 ·exact Qnk h r hr d hd
 ·simp only [List.mem_singleton] at hr; subst hr
  simp only [List.mem_cons, List.not_mem_nil, or_false] at hd
  rcases hd with rfl | rfl | rfl <;> simp [D.sid]
  exact Ne.symm hk
theorem Qnj {us : List UR} {u : UR} : (us ++ [u]).map dUR = us.map dUR ++ [dUR u] := by simp
theorem QmS {cs : List CR} {z : CR} : (cs ++ [z]).map dCR = cs.map dCR ++ [dCR z] := by simp
theorem QaO {us : List UR} (h : Z5 us) {kg eu ec : Nat} {g1 g2 g3 : Box} (hkg : 1000000 <= kg) (h1 : g1.pr = true) (h2 : g2.pr = true) (hlen : us.length <= 100) :
  (∀ k, 1000000 <= k -> (lk [(kg, g1)] k).isSome = true -> (lk (((500000, (⟨us.map dUR, 3, eu, false⟩ : Box)) :: fbx ec us) ++ [(kg, g2), (kg, g1)]) k).isSome = true) /\
  (∀ k b, lk (((500000, (⟨us.map dUR, 3, eu, false⟩ : Box)) :: fbx ec us) ++ [(kg, g2), (kg, g1)]) k = some b -> 500000 <= k /\ ∀ j ∈ b.ids, (lk (((500000, (⟨us.map dUR, 3, eu, false⟩ : Box)) :: fbx ec us) ++ [(kg, g2), (kg, g1)]) j).isSome = true) /\
  (∀ k b, lk (((500000, (⟨us.map dUR, 3, eu, false⟩ : Box)) :: fbx ec us) ++ [(kg, g2), (kg, g1)]) k = some b -> lk ((kg, g2) :: (500000, ⟨us.map dUR, 3, eu, false⟩) :: (kg, g3) :: fbx ec us) k = some b) := by
 have cs : ∀ k b, lk (((500000, (⟨us.map dUR, 3, eu, false⟩ : Box)) :: fbx ec us) ++ [(kg, g2), (kg, g1)]) k = some b -> (k = 500000 /\ b = ⟨us.map dUR, 3, eu, false⟩) \/ (∃ u ∈ us, k = u.k /\ b = ⟨u.cs.map dCR, 8, ec, true⟩) \/ (k = kg /\ b = g2) := fun k b hk => by
  rw [List.cons_append, Qn] at hk
  split at hk
  ·rename_i e; cases hk; exact .inl ⟨e.symm, rfl⟩
  ·rw [ZW] at hk
   cases hh : lk (fbx ec us) k with
   | some v =>
    rw [hh] at hk; cases hk
    exact .inr (.inl (QfN hh))
   | none =>
    rw [hh] at hk
    simp only at hk
    rw [Qn] at hk
    split at hk
    ·rename_i e; cases hk; exact .inr (.inr ⟨e.symm, rfl⟩)
    ·rename_i e
     rw [Qn, if_neg e] at hk; cases hk
 refine ⟨fun k _ hk => ?_, fun k b hk => ?_, fun k b hk => ?_⟩
 ·obtain ⟨b, hb⟩ := Option.isSome_iff_exists.1 hk
  obtain ⟨rfl, _⟩ := XS hb
  exact Qf4 QW
 ·rcases cs k b hk with ⟨rfl, rfl⟩ | ⟨u, hu, rfl, rfl⟩ | ⟨rfl, rfl⟩
  ·refine ⟨Nat.le_refl _, fun j hj => ?_⟩
   obtain ⟨u, hu, rfl⟩ := Qbc hj
   rw [List.cons_append]
   refine QT ?_
   obtain ⟨b, hb⟩ := Option.isSome_iff_exists.1 (QcU (ec := ec) h hu)
   rw [Yq hb]; rfl
  ·have := Qa1 h hu
   exact ⟨by omega, fun j hj => by simp [Box.ids] at hj⟩
  ·exact ⟨by omega, fun j hj => by rw [XZ h2] at hj; cases hj⟩
 ·rcases cs k b hk with ⟨rfl, rfl⟩ | ⟨u, hu, rfl, rfl⟩ | ⟨rfl, rfl⟩
  ·exact Qk (by omega) Qx
  ·have hm := Qa1 h hu
   obtain ⟨j, hj, rfl⟩ := List.getElem_of_mem hu
   refine Qk (by omega) (Qk (by omega) (Qk (by omega) ?_))
   rw [h j hj]; exact Qkd h hj
  ·exact Qx
end M25
namespace M25
open Go Go.Abs M3
/-! ### A world under way: one candidate after the other is filled -/
def PureC (z : CR) : Prop := z.x.sid = [] /\ z.y.sid = [] /\ z.z.sid = []
theorem PureC.all {z : CR} (h : PureC z) : ∀ d ∈ dCR z, d.sid = [] := fun d hd => by
 simp only [dCR, List.mem_cons, List.not_mem_nil, or_false] at hd
 rcases hd with rfl | rfl | rfl | rfl | rfl | rfl | rfl | rfl
 ·rfl
 ·rfl
 ·rfl
 ·rfl
 ·rfl
 ·exact h.1
 ·exact h.2.1
 ·exact h.2.2
def QdJ (u : UR) (k : Nat) (z : CR) : UR := { u with cs := u.cs.set k z }
def Qb0 (us : List UR) (i k : Nat) (z : CR) : List UR := us.modify i fun u => QdJ u k z
theorem Zt (us : List UR) (i k : Nat) (z : CR) : (Qb0 us i k z).length = us.length := List.length_modify ..
theorem Qjs (us : List UR) (i k : Nat) (z : CR) : (Qb0 us i k z).map dUR = us.map dUR := by
 refine List.ext_getElem (by simp [Qb0]) fun j h1 h2 => ?_
 simp only [List.getElem_map, Qb0, List.getElem_modify]
 split <;> simp [dUR, QdJ]
theorem QaC {us : List UR} {i k : Nat} {z : CR} {j : Nat} (h : j < us.length) : (Qb0 us i k z)[j]'(by rw [Zt]; exact h) = if i = j then QdJ us[j] k z else us[j] := by
 simp only [Qb0, List.getElem_modify]
theorem Qdi {us : List UR} {i k : Nat} {z : CR} (h : Z5 us) : Z5 (Qb0 us i k z) := fun j hj => by
 rw [Zt] at hj
 rw [QaC hj]
 split
 ·exact h j hj
 ·exact h j hj
def wA (us : List UR) (eu ec eg : Nat) (L : List Int) (J : Int) (b4 : Box) : List (Nat × Box) := [(500000, ⟨us.map dUR, 3, eu, false⟩), (12, gB L J eg), (4, b4)] ++ fbx ec us
theorem Qbd {us : List UR} {eu ec eg : Nat} {L : List Int} {J : Int} {b4 : Box} (h : Z5 us) {k : Nat} {b : Box} (hk : lk (wA us eu ec eg L J b4) k = some b) : (k = 500000 /\ b = ⟨us.map dUR, 3, eu, false⟩) \/ (k = 12 /\ b = gB L J eg) \/ (k = 4 /\ b = b4) \/ ∃ j, ∃ hj : j < us.length, k = 500001 + j /\ b = ⟨us[j].cs.map dCR, 8, ec, true⟩ := by
 unfold wA at hk
 rcases QeW hk with hk | ⟨_, hk⟩
 ·simp only [List.mem_cons, List.not_mem_nil, or_false, Prod.mk.injEq] at hk
  rcases hk with h | h | h
  ·exact .inl h
  ·exact .inr (.inl h)
  ·exact .inr (.inr (.inl h))
 ·obtain ⟨u, hu, e1, e2⟩ := QfN hk
  obtain ⟨j, hj, rfl⟩ := List.getElem_of_mem hu
  exact .inr (.inr (.inr ⟨j, hj, e1.trans (h j hj), e2⟩))
section
variable {us : List UR} {eu ec eg : Nat} {L : List Int} {J : Int} {b4 : Box}
theorem Qeh : lk (wA us eu ec eg L J b4) 500000 = some ⟨us.map dUR, 3, eu, false⟩ := rfl
theorem QdU : lk (wA us eu ec eg L J b4) 12 = some (gB L J eg) := rfl
theorem Qfg : lk (wA us eu ec eg L J b4) 4 = some b4 := rfl
theorem QcB (h : Z5 us) {j : Nat} (hj : j < us.length) : lk (wA us eu ec eg L J b4) (500001 + j) = some ⟨us[j].cs.map dCR, 8, ec, true⟩ := by
 show lk ((500000, _) :: (12, _) :: (4, _) :: fbx ec us) _ = _
 rw [Qn, if_neg (by omega), Qn, if_neg (by omega), Qn, if_neg (by omega)]
 exact Qkd h hj
theorem Z0 (h : Z5 us) {k : Nat} (h1 : k ≠ 500000) (h2 : k ≠ 12) (h3 : k ≠ 4) (h4 : k < 500001 \/ 500001 + us.length <= k) : lk (wA us eu ec eg L J b4) k = none := by
 show lk ((500000, _) :: (12, _) :: (4, _) :: fbx ec us) _ = _
 rw [Qn, if_neg (Ne.symm h1), Qn, if_neg (Ne.symm h2), Qn, if_neg (Ne.symm h3)]
 exact YS h h4
theorem QiL (h : Z5 us) {k : Nat} (hk : k = 500000 \/ k = 12 \/ k = 4 \/ ∃ u ∈ us, k = u.k) : (lk (wA us eu ec eg L J b4) k).isSome = true := by
 rcases hk with rfl | rfl | rfl | ⟨u, hu, rfl⟩
 ·rfl
 ·rfl
 ·rfl
 ·obtain ⟨j, hj, rfl⟩ := List.getElem_of_mem hu
  rw [h j hj, QcB h hj]; rfl
theorem Qad (h : Z5 us) (h4 : b4.pr = true) : Closed (wA us eu ec eg L J b4) := fun k b hk j hj => by
 rcases Qbd h hk with ⟨rfl, rfl⟩ | ⟨rfl, rfl⟩ | ⟨rfl, rfl⟩ | ⟨i, hi, rfl, rfl⟩
 ·exact QiL h (.inr (.inr (.inr (Qbc hj))))
 ·simp [Box.ids, gB] at hj
 ·rw [XZ h4] at hj; cases hj
 ·simp [Box.ids] at hj
theorem QdC {α : Type} : ∀ {l : List α} {k : Nat} {a x : α}, x ∈ l.set k a -> x = a \/ x ∈ l
 | [], k, a, x, h => by simp at h
 | b :: l, 0, a, x, h => by
  simp only [List.set_cons_zero, List.mem_cons] at h ⊢
  rcases h with h | h
  ·exact .inl h
  ·exact .inr (.inr h)
 | b :: l, k + 1, a, x, h => by
  simp only [List.set_cons_succ, List.mem_cons] at h ⊢
  rcases h with h | h
  ·exact .inr (.inl h)
  ·rcases QdC h with h | h
   ·exact .inl h
   ·exact .inr (.inr h)
theorem QeS {l : List Nat} {fr fr1 fr' : List (Nat × D)} {H : List (Nat × Box)} {i k : Nat} {row : List D} {p : Bool} (kk : Nat) (z' : CR) (hf : Zd l fr = fr1) (ef : fr1 = fr') (hK : Z5 us) (hi : i < us.length) (hk : k < us[i].cs.length)
  (hKi : lk H (500001 + i) = some ⟨(us[i].cs.map dCR).set k row, 8, ec, p⟩) (hp : p = true -> row.map (D.fzS H (· == kk)) = row) (hrow : (row.map (D.fzS H (· == kk))).map D.canS = dCR z') (hoth : ∀ z ∈ us[i].cs, PureC z) (hz : PureC z')
  (hF : ∀ j, ∀ hj : j < us.length, j ≠ i -> lk H (500001 + j) = some ⟨us[j].cs.map dCR, 8, ec, true⟩) (hu : lk H 500000 = some ⟨us.map dUR, 3, eu, false⟩) (hg : lk H 12 = some (gB L J eg)) (h4 : lk H 4 = some b4) (hb4 : b4.pr = true) (hkk : kk < 500000 /\ kk ≠ 12 /\ kk ≠ 4) (hsm : ∀ j, 1000000 <= j -> lk H j = none) (hlen : us.length <= 100)
  (hfr : ∀ p ∈ fr', ∀ j ∈ p.2.ids, j = 500000 \/ j = 12 \/ j = 4 \/ ∃ u ∈ us, j = u.k) : St.le ⟨fr, H⟩ ⟨fr', wA (Qb0 us i k z') eu ec eg L J b4⟩ := by
 subst hf ef
 have nokk : ∀ j, (j = 500000 \/ j = 12 \/ j = 4 \/ ∃ u ∈ us, j = u.k) -> j ≠ kk := fun j hj e => by
  subst e
  rcases hj with rfl | rfl | rfl | ⟨u, hu, rfl⟩
  ·omega
  ·exact hkk.2.1 rfl
  ·exact hkk.2.2 rfl
  ·have := (Qa1 hK hu).1; omega
 have eqkk : ∀ j, j ≠ kk -> (j == kk) = false := fun j hj => by simp [hj]
 have some1 : ∀ b j, (j = 500000 \/ j = 12 \/ j = 4 \/ ∃ u ∈ us, j = u.k) -> (lk ((500001 + i, b) :: wA us eu ec eg L J b4) j).isSome = true := fun b j hj => QT (QiL hK hj)
 have rowsz : ∀ r ∈ us[i].cs.map dCR, r.map (D.fzS H (· == kk)) = r := fun r hr => by
  obtain ⟨z, hzm, rfl⟩ := List.mem_map.1 hr
  exact Y3 fun d hd => Qdx fun j hj => by rw [(hoth z hzm).all d hd] at hj; cases hj
 have mapz : ((us[i].cs.map dCR).set k row).map (fun r => r.map (D.fzS H (· == kk))) = (us[i].cs.map dCR).set k (row.map (D.fzS H (· == kk))) := by
  refine List.ext_getElem (by simp) fun j h1 h2 => ?_
  simp only [List.getElem_map, List.getElem_set]
  split
  ·rfl
  ·exact rowsz _ (List.mem_map_of_mem (List.getElem_mem _))
 refine le_trans (QbA l fr H) (le_trans (Qmf kk (H' := (500001 + i, ⟨(us[i].cs.map dCR).set k (row.map (D.fzS H (· == kk))), 8, ec, p⟩) :: wA us eu ec eg L J b4) (by omega) (fr' := Zd l fr) (fun t d h => ⟨d, h, Qho fun j hj => eqkk j (nokk j (hfr (t, d) (Yh h) j hj))⟩) (fun j b h => ?_) (fun t d h j hj => some1 _ j (hfr (t, d) (Yh h) j hj)) (fun j b h j2 hj2 => ?_) fun j hj hs => ?_) ?_)
 ·rw [Qn] at h
  split at h
  ·rename_i e; cases h; subst e
   refine ⟨by omega, _, hKi, ?_⟩
   cases p with
   | true => rw [hp rfl]; rfl
   | false => show Box.mk _ _ _ _ = _; rw [mapz]
  ·rename_i e
   rcases Qbd hK h with ⟨rfl, rfl⟩ | ⟨rfl, rfl⟩ | ⟨rfl, rfl⟩ | ⟨i2, hi2, rfl, rfl⟩
   ·refine ⟨by omega, _, hu, XD (.inr fun j hj => eqkk j (nokk j (.inr (.inr (.inr (Qbc hj))))))⟩
   ·exact ⟨Ne.symm hkk.2.1, _, hg, rfl⟩
   ·exact ⟨Ne.symm hkk.2.2, _, h4, XD (.inl hb4)⟩
   ·exact ⟨by omega, _, hF i2 hi2 (fun e2 => e (by omega)), rfl⟩
 ·rw [Qn] at h
  split at h
  ·cases h
   cases hpp : p with
   | true => rw [XZ hpp] at hj2; cases hj2
   | false =>
   simp only [Box.ids, hpp, Bool.false_eq_true, if_false, List.mem_flatMap] at hj2
   obtain ⟨r, hr, d, hd, hj3⟩ := hj2
   rcases QdC hr with rfl | hr
   ·have : (d.canS).sid = [] := hz.all _ (by rw [<- hrow]; exact List.mem_map_of_mem hd)
    rw [QbR] at this
    rw [this] at hj3; cases hj3
   ·obtain ⟨z, hzm, rfl⟩ := List.mem_map.1 hr
    rw [(hoth z hzm).all d hd] at hj3; cases hj3
  ·exact QT (Qad hK hb4 j b h j2 hj2)
 ·rw [hsm j hj] at hs; cases hs
 ·refine le_trans (QlB k Qx) (le_trans (Qim Qx (fun e => ?_) (fun r hr d hd => ?_)) (Qa2 rfl fun j => ?_))
  ·have := congrArg List.length e
   simp only [List.length_modify, List.length_set, List.length_map, List.length_nil] at this
   omega
  ·rcases QaJ hr with h | ⟨y, hy, rfl⟩
   ·rcases QdC h with rfl | h
    ·have : (d.canS).sid = [] := hz.all _ (by rw [<- hrow]; exact List.mem_map_of_mem hd)
     rwa [QbR] at this
    ·obtain ⟨z, hzm, rfl⟩ := List.mem_map.1 h
     exact (hoth z hzm).all d hd
   ·obtain ⟨d0, hd0, rfl⟩ := List.mem_map.1 hd
    rw [QbR]
    rcases QdC hy with rfl | h
    ·have : (d0.canS).sid = [] := hz.all _ (by rw [<- hrow]; exact List.mem_map_of_mem hd0)
     rwa [QbR] at this
    ·obtain ⟨z, hzm, rfl⟩ := List.mem_map.1 h
     exact (hoth z hzm).all d0 hd0
  ·have erows : ((us[i].cs.map dCR).set k (row.map (D.fzS H (· == kk)))).modify k (fun r => r.map D.canS) = ((us[i].cs.set k z').map dCR) := by
    refine List.ext_getElem (by simp) fun m h1 h2 => ?_
    simp only [List.getElem_modify, List.getElem_set, List.getElem_map]
    by_cases e : k = m
    ·subst e
     simp only [if_true]
     exact hrow
    ·simp only [if_neg e]
   have hK' := Qdi (i := i) (k := k) (z := z') hK
   by_cases e : 500001 + i = j
   ·subst e
    rw [Qx, QcB hK' (by rw [Zt]; exact hi)]
    simp only [QaC hi, if_true, erows]; rfl
   ·rw [Qn, if_neg e, Qn, if_neg e, Qn, if_neg e]
    cases h : lk (wA us eu ec eg L J b4) j with
    | none =>
     cases h' : lk (wA (Qb0 us i k z') eu ec eg L J b4) j with
     | none => rfl
     | some b =>
      have : (lk (wA us eu ec eg L J b4) j).isSome = true := by
       rcases Qbd hK' h' with ⟨rfl, _⟩ | ⟨rfl, _⟩ | ⟨rfl, _⟩ | ⟨m, hm, rfl, _⟩
       ·rfl
       ·rfl
       ·rfl
       ·rw [Zt] at hm; rw [QcB hK hm]; rfl
      rw [h] at this; cases this
    | some b =>
     rcases Qbd hK h with ⟨rfl, rfl⟩ | ⟨rfl, rfl⟩ | ⟨rfl, rfl⟩ | ⟨m, hm, rfl, rfl⟩
     ·rw [Qeh, Qjs]
     ·rfl
     ·rfl
     ·rw [QcB hK' (by rw [Zt]; exact hm)]
      simp only [QaC hm, if_neg (show ¬ i = m by omega)]
end
theorem Qc1 : ∀ {H : List (Nat × Box)} {j : Nat}, j ∈ H.map Prod.fst -> (lk H j).isSome = true
 | [], _, h => by cases h
 | (k, b) :: H, j, h => by
  by_cases e : k = j
  ·subst e; exact QW
  ·refine QT (Qc1 ?_)
   simp only [List.map_cons, List.mem_cons] at h
   exact h.resolve_left (Ne.symm e)
theorem Ql1 {us : List UR} (h : Z5 us) {i : Nat} (hi : i < us.length) : (us.map dUR)[((i : Nat) : Int).toNat]? = some [.str us[i].n, .str us[i].f, .osl (500001 + i) us[i].cs.length] := by
 rw [Int.toNat_natCast, List.getElem?_map, List.getElem?_eq_getElem hi, Option.map_some, dUR, h i hi]
theorem Qou {cs : List CR} {k : Nat} (hk : k < cs.length) : (cs.map dCR)[((k : Nat) : Int).toNat]? = some (dCR cs[k]) := by
 rw [Int.toNat_natCast, List.getElem?_map, List.getElem?_eq_getElem hk]; rfl
theorem QiH {us : List UR} {eu ec eg : Nat} {L : List Int} {J : Int} {b4 g1 : Box} (h : Z5 us) (k : Nat) : lk (((500000, (⟨us.map dUR, 3, eu, false⟩ : Box)) :: fbx ec us) ++ ([(12, gB L J eg)] ++ [(12, g1), (4, b4)])) k = lk (wA us eu ec eg L J b4) k := by
 show lk ((500000, _) :: (fbx ec us ++ [(12, gB L J eg), (12, g1), (4, b4)])) k = lk ((500000, _) :: (12, _) :: (4, _) :: fbx ec us) k
 rw [Qn, Qn]
 split
 ·rfl
 ·rw [ZW]
  cases hh : lk (fbx ec us) k with
  | some v =>
   have := Qgf h k v hh
   simp only
   rw [Qn, if_neg (by omega), Qn, if_neg (by omega), hh]
  | none =>
   simp only [Qn, hh]
   by_cases e : 12 = k
   ·rw [if_pos e, if_pos e]
   ·rw [if_neg e, if_neg e, if_neg e]; rfl
theorem Qjv {us : List UR} {eu ec eg : Nat} {L : List Int} {J : Int} {b4 : Box} (h : Z5 us) (hv : ∀ y ∈ us, y.cs.length <= 16 /\ ∀ z ∈ y.cs, QcC z.v) : Fam (wA us eu ec eg L J b4) 12 500000 eu ec us := by
 refine ⟨by decide, ⟨false, rfl⟩, fun y hy => ?_, hv⟩
 obtain ⟨j, hj, rfl⟩ := List.getElem_of_mem hy
 refine ⟨by rw [h j hj]; omega, true, by rw [h j hj]; exact QcB h hj⟩
/-! ### Filled candidates -/
def QmC (n : Nat) (x : WantT) : Prop := 0 <= x.u /\ x.u < n /\ SetOk x.s
theorem WantIn.w {n : Nat} {x : WantT} (h : WantIn n x) : QmC n x := ⟨by have := h.1; omega, h.2.1, h.2.2⟩
structure Qah (n : Nat) (c : CandT) : Prop where
 v : QcC c.v
 nl : c.ns.length <= 10
 nr : ∀ r ∈ c.ns, r.length <= 2 /\ ∀ x ∈ r, QmC n x
 bl : c.bs.length <= 1
 bw : ∀ x ∈ c.bs, QmC n x
def QgR (c : CandT) : CR := ⟨c.v, .int .i64 c.sh, QR c.ns, Q7 c.bs⟩
def DoneC (n : Nat) (z : CR) : Prop := ∃ c, z = QgR c /\ Qah n c
def FreshC (z : CR) : Prop := ∃ v sh, z = zr v sh /\ QcC v
theorem DoneC.pure {n : Nat} {z : CR} (h : DoneC n z) : PureC z := by obtain ⟨c, rfl, _⟩ := h; exact ⟨rfl, rfl, rfl⟩
theorem FreshC.pure {z : CR} (h : FreshC z) : PureC z := by obtain ⟨v, sh, rfl, _⟩ := h; exact ⟨rfl, rfl, rfl⟩
theorem DoneC.vr {n : Nat} {z : CR} (h : DoneC n z) : QcC z.v := by obtain ⟨c, rfl, q⟩ := h; exact q.v
theorem FreshC.vr {z : CR} (h : FreshC z) : QcC z.v := by obtain ⟨v, sh, rfl, q⟩ := h; exact q
structure Prog (n : Nat) (us : List UR) (i k : Nat) : Prop where
 keys : Z5 us
 len : us.length = n /\ 2 <= n /\ n <= 11
 cl : ∀ u ∈ us, u.cs.length <= 4
 done : ∀ j, ∀ hj : j < us.length, ∀ m, ∀ hm : m < us[j].cs.length, (j < i \/ (j = i /\ m < k)) -> DoneC n us[j].cs[m]
 fresh : ∀ j, ∀ hj : j < us.length, ∀ m, ∀ hm : m < us[j].cs.length, ¬ (j < i \/ (j = i /\ m < k)) -> FreshC us[j].cs[m]
theorem Prog.pure {n : Nat} {us : List UR} {i k : Nat} (h : Prog n us i k) {j : Nat} (hj : j < us.length) : ∀ z ∈ us[j].cs, PureC z /\ QcC z.v := fun z hz => by
 obtain ⟨m, hm, rfl⟩ := List.getElem_of_mem hz
 by_cases hd : j < i \/ (j = i /\ m < k)
 ·exact ⟨(h.done j hj m hm hd).pure, (h.done j hj m hm hd).vr⟩
 ·exact ⟨(h.fresh j hj m hm hd).pure, (h.fresh j hj m hm hd).vr⟩
theorem Prog.fam {n : Nat} {us : List UR} {i k : Nat} (h : Prog n us i k) : ∀ y ∈ us, y.cs.length <= 16 /\ ∀ z ∈ y.cs, QcC z.v := fun y hy => by
 obtain ⟨j, hj, rfl⟩ := List.getElem_of_mem hy
 exact ⟨Nat.le_trans (h.cl _ hy) (by omega), fun z hz => (h.pure hj z hz).2⟩
theorem Prog.put {n : Nat} {us : List UR} {i k : Nat} (h : Prog n us i k) (hi : i < us.length) (hk : k < us[i].cs.length) {z : CR} (hz : DoneC n z) : Prog n (Qb0 us i k z) i (k + 1) := by
 have at' := fun (j : Nat) (hj : j < us.length) => QaC (i := i) (k := k) (z := z) hj
 refine ⟨Qdi h.keys, by rw [Zt]; exact h.len, fun u hu => ?_, fun j hj m hm hd => ?_, fun j hj m hm hd => ?_⟩
 ·obtain ⟨j, hj, rfl⟩ := List.getElem_of_mem hu
  rw [Zt] at hj
  rw [at' j hj]
  split
  ·simp only [QdJ, List.length_set]; exact h.cl _ (List.getElem_mem _)
  ·exact h.cl _ (List.getElem_mem _)
 ·rw [Zt] at hj
  have e := at' j hj
  by_cases hij : i = j
  ·subst hij
   rw [if_pos rfl] at e
   have hm' : m < (QdJ us[i] k z).cs.length := by rw [<- e]; exact hm
   have e2 : (Qb0 us i k z)[i].cs[m] = (QdJ us[i] k z).cs[m]'hm' := by congr 1; rw [e]
   rw [e2]
   simp only [QdJ, List.getElem_set]
   split
   ·exact hz
   ·simp only [QdJ, List.length_set] at hm'
    exact h.done i hi m hm' (by omega)
  ·rw [if_neg hij] at e
   have hm' : m < us[j].cs.length := by rw [<- e]; exact hm
   have e2 : (Qb0 us i k z)[j].cs[m] = us[j].cs[m]'hm' := by congr 1; rw [e]
   rw [e2]; exact h.done j hj m hm' (by omega)
 ·rw [Zt] at hj
  have e := at' j hj
  by_cases hij : i = j
  ·subst hij
   rw [if_pos rfl] at e
   have hm' : m < (QdJ us[i] k z).cs.length := by rw [<- e]; exact hm
   have e2 : (Qb0 us i k z)[i].cs[m] = (QdJ us[i] k z).cs[m]'hm' := by congr 1; rw [e]
   rw [e2]
   simp only [QdJ, List.length_set] at hm'
   simp only [QdJ, List.getElem_set]
   rw [if_neg (by omega)]
   exact h.fresh i hi m hm' (by omega)
  ·rw [if_neg hij] at e
   have hm' : m < us[j].cs.length := by rw [<- e]; exact hm
   have e2 : (Qb0 us i k z)[j].cs[m] = us[j].cs[m]'hm' := by congr 1; rw [e]
   rw [e2]; exact h.fresh j hj m hm' (by omega)
theorem Prog.next {n : Nat} {us : List UR} {i k : Nat} (h : Prog n us i k) (hi : i < us.length) (hk : us[i].cs.length <= k) : Prog n us (i + 1) 0 := by
 refine ⟨h.keys, h.len, h.cl, fun j hj m hm hd => h.done j hj m hm ?_, fun j hj m hm hd => h.fresh j hj m hm (by omega)⟩
 by_cases e : j = i
 ·subst e; exact .inr ⟨rfl, by omega⟩
 ·exact .inl (by omega)
theorem Prog.again {n : Nat} {us : List UR} {i k : Nat} (h : Prog n us i (k + 1)) (hi : i < us.length) (hk : k < us[i].cs.length) {z : CR} (hz : DoneC n z) : Prog n (Qb0 us i k z) i (k + 1) := by
 have at' := fun (j : Nat) (hj : j < us.length) => QaC (i := i) (k := k) (z := z) hj
 refine ⟨Qdi h.keys, by rw [Zt]; exact h.len, fun u hu => ?_, fun j hj m hm hd => ?_, fun j hj m hm hd => ?_⟩
 ·obtain ⟨j, hj, rfl⟩ := List.getElem_of_mem hu
  rw [Zt] at hj
  rw [at' j hj]
  split
  ·simp only [QdJ, List.length_set]; exact h.cl _ (List.getElem_mem _)
  ·exact h.cl _ (List.getElem_mem _)
 ·rw [Zt] at hj
  have e := at' j hj
  by_cases hij : i = j
  ·subst hij
   rw [if_pos rfl] at e
   have hm' : m < (QdJ us[i] k z).cs.length := by rw [<- e]; exact hm
   have e2 : (Qb0 us i k z)[i].cs[m] = (QdJ us[i] k z).cs[m]'hm' := by congr 1; rw [e]
   rw [e2]
   simp only [QdJ, List.getElem_set]
   split
   ·exact hz
   ·simp only [QdJ, List.length_set] at hm'
    exact h.done i hi m hm' (by omega)
  ·rw [if_neg hij] at e
   have hm' : m < us[j].cs.length := by rw [<- e]; exact hm
   have e2 : (Qb0 us i k z)[j].cs[m] = us[j].cs[m]'hm' := by congr 1; rw [e]
   rw [e2]; exact h.done j hj m hm' (by omega)
 ·rw [Zt] at hj
  have e := at' j hj
  by_cases hij : i = j
  ·subst hij
   rw [if_pos rfl] at e
   have hm' : m < (QdJ us[i] k z).cs.length := by rw [<- e]; exact hm
   have e2 : (Qb0 us i k z)[i].cs[m] = (QdJ us[i] k z).cs[m]'hm' := by congr 1; rw [e]
   rw [e2]
   simp only [QdJ, List.length_set] at hm'
   simp only [QdJ, List.getElem_set]
   rw [if_neg (by omega)]
   exact h.fresh i hi m hm' (by omega)
  ·rw [if_neg hij] at e
   have hm' : m < us[j].cs.length := by rw [<- e]; exact hm
   have e2 : (Qb0 us i k z)[j].cs[m] = us[j].cs[m]'hm' := by congr 1; rw [e]
   rw [e2]; exact h.fresh j hj m hm' (by omega)
theorem Qku {l : List Nat} {fr fr1 fr' : List (Nat × D)} {us : List UR} {eu ec eg e1 e3 : Nat} {L : List Int} {J : Int} {b4 bK : Box} {i : Nat} {x : WantT} (hf : Zd l fr = fr1) (ef : fr1 = fr') (hK : Z5 us) (hi : i < us.length) (hb4 : b4.pr = true) (hbK : ∀ j ∈ bK.ids, j = 64)
  (hfr : ∀ p ∈ fr', ∀ j ∈ p.2.ids, j = 500000 \/ j = 12 \/ j = 4 \/ ∃ u ∈ us, j = u.k) :
  St.le ⟨fr, (500001 + i, bK) :: (64, ⟨[[.osl 63 1]], 1, e1, false⟩) :: (63, ⟨[Qfk x], 3, e3, true⟩) :: wA us eu ec eg L J b4⟩ ⟨fr', (500001 + i, bK) :: (64, ⟨[[Q7 [x]]], 1, e1, true⟩) :: wA us eu ec eg L J b4⟩ := by
 subst hf ef
 have no63 : ∀ j, (j = 500000 \/ j = 12 \/ j = 4 \/ ∃ u ∈ us, j = u.k) -> j ≠ 63 := fun j hj e => by
  subst e
  rcases hj with h | h | h | ⟨u, hu, h⟩
  ·cases h
  ·cases h
  ·cases h
  ·have := (Qa1 hK hu).1; omega
 have eq63 : ∀ j, j ≠ 63 -> (j == 63) = false := fun j hj => by simp [hj]
 have up : ∀ b b' j, (lk (wA us eu ec eg L J b4) j).isSome = true -> (lk ((500001 + i, b) :: (64, b') :: wA us eu ec eg L J b4) j).isSome = true := fun b b' j hj => QT (QT hj)
 refine le_trans (QbA l fr _) (le_trans (Qmf 63 (H' := (500001 + i, bK) :: (64, ⟨[[Q7 [x]]], 1, e1, false⟩) :: wA us eu ec eg L J b4) (by decide) (fr' := Zd l fr) (fun t d h => ⟨d, h, Qho fun j hj => eq63 j (no63 j (hfr (t, d) (Yh h) j hj))⟩) (fun j b h => ?_) (fun t d h j hj => up _ _ j (QiL hK (hfr (t, d) (Yh h) j hj))) (fun j b h j2 hj2 => ?_) fun j hj hs => ?_) ?_)
 ·rw [Qn] at h
  split at h
  ·rename_i e; cases h; subst e
   refine ⟨by omega, _, Qx, XD (.inr fun j hj => ?_)⟩
   rw [hbK j hj]; rfl
  ·rename_i e
   rw [Qn] at h
   split at h
   ·rename_i e2; cases h; subst e2
    refine ⟨by decide, _, Qk e Qx, ?_⟩
    have h63 : lk ((500001 + i, bK) :: (64, (⟨[[.osl 63 1]], 1, e1, false⟩ : Box)) :: (63, ⟨[Qfk x], 3, e3, true⟩) :: wA us eu ec eg L J b4) 63 = some ⟨[Qfk x], 3, e3, true⟩ := Qk (by omega) (Qk (by decide) Qx)
    simp only [Box.fz, Bool.false_eq_true, if_false, List.map_cons, List.map_nil, D.fzS, beq_self_eq_true, if_true, h63, List.length_singleton, and_self, Q7]
   ·rename_i e2
    have h2 : lk ((500001 + i, bK) :: (64, (⟨[[.osl 63 1]], 1, e1, false⟩ : Box)) :: (63, ⟨[Qfk x], 3, e3, true⟩) :: wA us eu ec eg L J b4) j = some b := by
     have hj : j ≠ 63 := by
      rcases Qbd hK h with ⟨rfl, _⟩ | ⟨rfl, _⟩ | ⟨rfl, _⟩ | ⟨m, _, rfl, _⟩ <;> omega
     exact Qk e (Qk e2 (Qk (Ne.symm hj) h))
    rcases Qbd hK h with ⟨rfl, rfl⟩ | ⟨rfl, rfl⟩ | ⟨rfl, rfl⟩ | ⟨m, hm, rfl, rfl⟩
    ·exact ⟨by decide, _, h2, XD (.inr fun j hj => eq63 j (no63 j (.inr (.inr (.inr (Qbc hj))))))⟩
    ·exact ⟨by decide, _, h2, rfl⟩
    ·exact ⟨by decide, _, h2, XD (.inl hb4)⟩
    ·exact ⟨by omega, _, h2, rfl⟩
 ·rw [Qn] at h
  split at h
  ·cases h
   rw [hbK j2 hj2]; exact QT QW
  ·rw [Qn] at h
   split at h
   ·cases h; simp [Box.ids, D.sid, Q7] at hj2
   ·exact up _ _ j2 (Qad hK hb4 j b h j2 hj2)
 ·by_cases e : 500001 + i = j
  ·subst e; exact QW
  ·rw [Qn, if_neg e, Qn, if_neg (by omega), Qn, if_neg (by omega)] at hs
   exact up _ _ j hs
 ·have h64 : lk ((500001 + i, bK) :: (64, (⟨[[Q7 [x]]], 1, e1, false⟩ : Box)) :: wA us eu ec eg L J b4) 64 = some ⟨[[Q7 [x]]], 1, e1, false⟩ := Qk (by omega) Qx
  refine le_trans (Qim h64 (by simp) (by intro r hr d hd; simp only [List.mem_singleton] at hr; subst hr; simp only [List.mem_singleton] at hd; subst hd; rfl)) (Qa2 rfl fun j => ?_)
  by_cases e : 64 = j
  ·subst e; rw [Qx, Qn, if_neg (by omega), Qx]
  ·by_cases eK : 500001 + i = j
   ·subst eK; rw [Qn, if_neg e, Qx, Qx]
   ·rw [Qn, if_neg e, Qn, if_neg eK, Qn, if_neg e, Qn, if_neg eK, Qn, if_neg e]
theorem Qj9 {n : Nat} : ∀ {cs : List CR}, (∀ z ∈ cs, DoneC n z) -> ∃ l : List CandT, cs = l.map QgR /\ ∀ c ∈ l, Qah n c
 | [], _ => ⟨[], rfl, by simp⟩
 | z :: cs, h => by
  obtain ⟨l, h1, h2⟩ := Qj9 (cs := cs) fun y hy => h y (by simp [hy])
  obtain ⟨c, rfl, hc⟩ := h z (by simp)
  exact ⟨c :: l, by rw [h1]; rfl, fun y hy => by
   rcases List.mem_cons.1 hy with rfl | hy
   ·exact hc
   ·exact h2 y hy⟩
def QnJ (n : Nat) (u : UR) (x : YG) : Prop := x.n = u.n /\ x.f = u.f /\ u.cs = x.cs.map QgR /\ ∀ c ∈ x.cs, Qah n c
theorem Qka {n : Nat} : ∀ {us : List UR}, (∀ u ∈ us, ∀ z ∈ u.cs, DoneC n z) -> ∃ w : ZA, w.length = us.length /\ ∀ j, ∀ h : j < us.length, ∀ h' : j < w.length, QnJ n us[j] w[j]
 | [], _ => ⟨[], rfl, fun j h => by simp at h⟩
 | u :: us, h => by
  obtain ⟨w, h1, h2⟩ := Qka (us := us) fun y hy => h y (by simp [hy])
  obtain ⟨l, q1, q2⟩ := Qj9 (h u (by simp))
  refine ⟨⟨u.n, u.f, l⟩ :: w, by simp [h1], fun j hj hj' => ?_⟩
  cases j with
  | zero => exact ⟨rfl, rfl, q1, q2⟩
  | succ j => simp only [List.getElem_cons_succ]; exact h2 j (by simpa using hj) (by simpa using hj')
structure Qlj (w : ZA) : Prop where
 sm : WSm w
 len : 2 <= w.length /\ w.length <= 11
 cs : ∀ u ∈ w, u.cs.length <= 4
 cand : ∀ u ∈ w, ∀ c ∈ u.cs, Qah w.length c
theorem Qm1 {w : ZA} (h2 : 2 <= w.length) (h11 : w.length <= 11) (hc : ∀ u ∈ w, u.cs.length <= 4) (hd : ∀ u ∈ w, ∀ c ∈ u.cs, Qah w.length c) : Qlj w := by
 refine ⟨⟨by omega, fun u hu => Nat.le_trans (hc u hu) (by omega), fun u hu c hcm => (hd u hu c hcm).v, fun u hu c hcm => ⟨Nat.le_trans (hd u hu c hcm).nl (by omega), Nat.le_trans (hd u hu c hcm).bl (by omega)⟩, fun u hu c hcm r hr => Nat.le_trans ((hd u hu c hcm).nr r hr).1 (by omega), fun u hu c hcm r hr x hx => (((hd u hu c hcm).nr r hr).2 x hx).2.2.sm, fun u hu c hcm x hx => ((hd u hu c hcm).bw x hx).2.2.sm⟩, ⟨h2, h11⟩, hc, hd⟩
theorem QlC {n : Nat} {us : List UR} {eu ec eg : Nat} {L : List Int} {J : Int} {b4 : Box} {k : Nat} (h : Prog n us us.length k) (hb4 : b4.pr = true) :
  ∃ w : ZA, w.length = us.length /\ Qlj w /\ ∀ {l : List Nat} {fr fr1 fr' : List (Nat × D)}, Zd l fr = fr1 -> fr1 = fr' -> (∀ p ∈ fr', ∀ j ∈ p.2.ids, j = 500000 \/ j = 4) -> St.le ⟨fr, wA us eu ec eg L J b4⟩ ⟨fr', [(500000, ⟨w.map Yg, 3, eu, true⟩), (4, b4)]⟩ := by
 obtain ⟨w, hw1, hw2⟩ := Qka (n := n) (us := us) fun u hu z hz => by
  obtain ⟨j, hj, rfl⟩ := List.getElem_of_mem hu
  obtain ⟨m, hm, rfl⟩ := List.getElem_of_mem hz
  exact h.done j hj m hm (.inl hj)
 have hcs : ∀ u ∈ w, u.cs.length <= 4 /\ ∀ c ∈ u.cs, Qah n c := fun u hu => by
  obtain ⟨j, hj, rfl⟩ := List.getElem_of_mem hu
  obtain ⟨_, _, q3, q4⟩ := hw2 j (by omega) hj
  have := h.cl us[j] (List.getElem_mem _)
  rw [q3, List.length_map] at this
  exact ⟨this, q4⟩
 have hlen := h.len
 refine ⟨w, hw1, Qm1 (by omega) (by omega) (fun u hu => (hcs u hu).1) (fun u hu c hc => by have := (hcs u hu).2 c hc; rwa [show w.length = n by omega]), ?_⟩
 intro l fr fr1 fr' hf ef hfr
 subst hf ef
 have hK := h.keys
 let S : Nat -> Bool := fun k => decide (500001 <= k) && decide (k < 1000000)
 have hS1 : ∀ k, k < 500001 -> S k = false := fun k hk => by
  show (decide (500001 <= k) && decide (k < 1000000)) = false
  rw [decide_eq_false (by omega)]; rfl
 have hS2 : ∀ k, 500001 <= k -> k < 1000000 -> S k = true := fun k h1 h2 => by
  show (decide (500001 <= k) && decide (k < 1000000)) = true
  rw [decide_eq_true h1, decide_eq_true h2]; rfl
 have hrow : ∀ j, ∀ h1 : j < us.length, ∀ h2 : j < w.length, (dUR us[j]).map (D.fzS (wA us eu ec eg L J b4) S) = Yg w[j] := fun j h1 h2 => by
  obtain ⟨q1, q2, q3, q4⟩ := hw2 j h1 h2
  have hk := hK j h1
  have hc := QcB (eu := eu) (ec := ec) (eg := eg) (L := L) (J := J) (b4 := b4) hK h1
  generalize us[j] = u at q1 q2 q3 hk hc
  generalize w[j] = x at q1 q2 q3 q4
  obtain ⟨un, uf, uk, ucs⟩ := u
  simp only at q1 q2 q3 hk hc
  subst hk q3
  simp only [dUR, Yg, List.map_cons, List.map_nil, D.fzS]
  rw [hS2 _ (by omega) (by omega), hc]
  simp only [if_true, true_and, List.length_map, q1, q2, QiX, List.map_map]
  rfl
 have hrows : (us.map dUR).map (fun r => r.map (D.fzS (wA us eu ec eg L J b4) S)) = w.map Yg := by
  refine List.ext_getElem (by simp [hw1]) fun j h1 h2 => ?_
  simp only [List.getElem_map]
  exact hrow j (by simpa using h1) (by simpa using h2)
 refine le_trans (QbA l fr _) (le_trans (QmW S (fun k hk => by
  simp only [S, Bool.and_eq_true, decide_eq_true_eq] at hk; exact hk.2) (fr' := Zd l fr) (H' := [(500000, ⟨w.map Yg, 3, eu, false⟩), (4, b4)]) (fun t d hd => ⟨d, hd, Qho fun j hj => ?_⟩) (fun j b hj => ?_) (fun t d hd j hj => ?_) (fun j b hb i hi => ?_) fun j hj hs => ?_) (le_trans (Qim (k := 500000) (b := ⟨w.map Yg, 3, eu, false⟩) rfl (fun e => ?_) (fun r hr d hd => ?_)) (Qa2 rfl fun j => ?_)))
 ·rcases hfr (t, d) (Yh hd) j hj with rfl | rfl
  ·exact hS1 _ (by decide)
  ·exact hS1 _ (by decide)
 ·rw [Qn] at hj
  split at hj
  ·rename_i e; cases hj; subst e
   refine ⟨hS1 _ (by decide), _, Qeh, ?_⟩
   simp only [Box.fz, Bool.false_eq_true, if_false, hrows]
  ·rw [Qn] at hj
   split at hj
   ·rename_i e; cases hj; subst e
    exact ⟨hS1 _ (by decide), _, Qfg, XD (.inl hb4)⟩
   ·cases hj
 ·rcases hfr (t, d) (Yh hd) j hj with rfl | rfl
  ·rfl
  ·rfl
 ·rw [Qn] at hb
  split at hb
  ·cases hb
   simp only [Box.ids, Bool.false_eq_true, if_false, List.mem_flatMap, List.mem_map] at hi
   obtain ⟨r, ⟨u, _, rfl⟩, d, hd, hi⟩ := hi
   simp only [Yg, List.mem_cons, List.not_mem_nil, or_false] at hd
   rcases hd with rfl | rfl | rfl <;> simp [D.sid, QiX] at hi
  ·rw [Qn] at hb
   split at hb
   ·cases hb; rw [XZ hb4] at hi; cases hi
   ·cases hb
 ·obtain ⟨b, hb⟩ := Option.isSome_iff_exists.1 hs
  rcases Qbd hK hb with ⟨rfl, _⟩ | ⟨rfl, _⟩ | ⟨rfl, _⟩ | ⟨m, hm, rfl, _⟩ <;> omega
 ·have := congrArg List.length e
  simp only [List.length_map, List.length_nil] at this
  omega
 ·obtain ⟨u, _, rfl⟩ := List.mem_map.1 hr
  simp only [Yg, List.mem_cons, List.not_mem_nil, or_false] at hd
  rcases hd with rfl | rfl | rfl <;> rfl
 ·by_cases e : 500000 = j
  ·subst e; rfl
  ·rw [Qn, if_neg e, Qn, if_neg e]; rw [Qn (k := 500000), if_neg e]
def Qif (us : List UR) (i : Nat) : Nat := match us[i]? with
 | some u => u.cs.length
 | none => 0
theorem Qax {us : List UR} {i : Nat} (h : i < us.length) : Qif us i = us[i].cs.length := by rw [Qif, List.getElem?_eq_getElem h]
theorem Qan (us : List UR) (i k : Nat) (z : CR) : Qif (Qb0 us i k z) i = Qif us i := by
 by_cases h : i < us.length
 ·rw [Qax h, Qax (by rw [Zt]; exact h), QaC h, if_pos rfl]
  simp [QdJ]
 ·have e : (Qb0 us i k z).length = us.length := Zt ..
  rw [Qif, Qif, List.getElem?_eq_none (show us.length <= i by omega), List.getElem?_eq_none (show (Qb0 us i k z).length <= i by omega)]
theorem QhS {us : List UR} {i k : Nat} {z : CR} (hi : i < us.length) (hk : k < us[i].cs.length) {us2 : List UR} (e : us2 = Qb0 us i k z) (hi2 : i < us2.length) (hk2 : k < us2[i].cs.length) : us2[i].cs[k] = z := by
 subst e
 have e1 := QaC (i := i) (k := k) (z := z) hi
 rw [if_pos rfl] at e1
 have e2 : (Qb0 us i k z)[i].cs[k] = (QdJ us[i] k z).cs[k]'(by simpa [QdJ] using hk) := by congr 1; rw [e1]
 rw [e2]; simp [QdJ]
theorem QmR {cs : List CR} {k : Nat} {z : CR} (hk : k < cs.length) (hz : cs[k] = z) : (cs.map dCR)[((k : Nat) : Int).toNat]? = some (dCR z) := by rw [Qou hk, hz]
theorem Qmr {cs : List CR} {k : Nat} {row : List D} (hk : k < cs.length) : ((cs.map dCR).set ((k : Nat) : Int).toNat row)[((k : Nat) : Int).toNat]? = some row := by
 rw [Int.toNat_natCast, List.getElem?_set_self (by simpa using hk)]
theorem Qhw {K k e t : Nat} {L : List (List D)} {r1 r2 : List D} {p : Bool} {H : List (Nat × Box)} : lk ((K, (⟨(L.set k r1).set k r2, e, t, p⟩ : Box)) :: H) K = some ⟨L.set k r2, e, t, p⟩ := by rw [Qx, List.set_set]
theorem Qd4 {H : List (Nat × Box)} {kk m e t : Nat} {ys : List (List D)} {v : Vr} {sh : Int} (h : lk H kk = some ⟨ys, e, t, true⟩) (hm : m = ys.length) : ([D.int .i64 v.a, .int .i64 v.b, .int .i64 v.c, .str v.p, .str v.q, .int .i64 sh, .osl kk m, .fsl []].map (D.fzS H (· == kk))).map D.canS = [.int .i64 v.a, .int .i64 v.b, .int .i64 v.c, .str v.p, .str v.q, .int .i64 sh, .sl ys, .sl []] := by
 simp only [List.map_cons, List.map_nil, D.fzS, beq_self_eq_true, if_true, h, hm, and_self, D.canS]
theorem Qki {H : List (Nat × Box)} {kk m e t : Nat} {ys : List (List D)} {v : Vr} {sh : Int} {ns : List (List WantT)} (h : lk H kk = some ⟨ys, e, t, true⟩) (hm : m = ys.length) : ([D.int .i64 v.a, .int .i64 v.b, .int .i64 v.c, .str v.p, .str v.q, .int .i64 sh, QR ns, .osl kk m].map (D.fzS H (· == kk))).map D.canS = [.int .i64 v.a, .int .i64 v.b, .int .i64 v.c, .str v.p, .str v.q, .int .i64 sh, QR ns, .sl ys] := by
 simp only [QR, List.map_cons, List.map_nil, D.fzS, beq_self_eq_true, if_true, h, hm, and_self, D.canS]
theorem Qoc {us : List UR} {eu ec eg : Nat} {L : List Int} {J J2 : Int} {b4 : Box} (k : Nat) : lk ((12, gB L J2 eg) :: wA us eu ec eg L J b4) k = lk (wA us eu ec eg L J2 b4) k := by
 show lk ((12, _) :: (500000, _) :: (12, _) :: (4, _) :: fbx ec us) k = lk ((500000, _) :: (12, _) :: (4, _) :: fbx ec us) k
 by_cases e : 12 = k
 ·subst e; rfl
 ·rw [Qn, if_neg e, Qn, Qn (k := 500000)]
  split
  ·rfl
  ·rw [Qn, if_neg e, Qn (k := 12), if_neg e]
theorem Qiz {cs : List CR} {k e t : Nat} {row : List D} (h : ∀ z ∈ cs, PureC z) (hr : ∀ d ∈ row, ∀ j ∈ d.sid, j = 64) : ∀ j ∈ Box.ids ⟨(cs.map dCR).set k row, e, t, false⟩, j = 64 := fun j hj => by
 simp only [Box.ids, Bool.false_eq_true, if_false, List.mem_flatMap] at hj
 obtain ⟨r, hrm, d, hd, hj⟩ := hj
 rcases QdC hrm with rfl | hrm
 ·exact hr d hd j hj
 ·obtain ⟨z, hz, rfl⟩ := List.mem_map.1 hrm
  rw [(h z hz).all d hd] at hj; cases hj
theorem Qpc {us : List UR} {eu ec eg : Nat} {L : List Int} {J : Int} {b4 b64 : Box} {n i k : Nat} (h : Prog n us i k) (hi : i < us.length) (hk : k < us[i].cs.length) {zx : CR} (hv : QcC zx.v) (hrow : zx.x.sid = [] /\ zx.y.sid = [64] /\ zx.z.sid = []) (hb4 : b4.pr = true) (h64 : b64.pr = true) :
  Fam ((500001 + i, ⟨(us[i].cs.map dCR).set k (dCR zx), 8, ec, false⟩) :: (64, b64) :: wA us eu ec eg L J b4) 12 500000 eu ec (Qb0 us i k zx) /\ Closed ((500001 + i, ⟨(us[i].cs.map dCR).set k (dCR zx), 8, ec, false⟩) :: (64, b64) :: wA us eu ec eg L J b4) := by
 refine ⟨⟨by decide, ⟨false, ?_⟩, fun y hy => ?_, fun y hy => ?_⟩, ?_⟩
 ·rw [Qn, if_neg (by omega), Qn, if_neg (by decide), Qeh, Qjs]
 ·obtain ⟨j, hj, rfl⟩ := List.getElem_of_mem hy
  have hK' := Qdi (i := i) (k := k) (z := zx) h.keys
  have hj' := hj
  rw [Zt] at hj'
  refine ⟨by rw [hK' j hj]; omega, ?_⟩
  rw [hK' j hj]
  by_cases e : i = j
  ·subst e
   refine ⟨false, ?_⟩
   rw [Qx, QaC hj', if_pos rfl, QdJ, List.map_set]
  ·refine ⟨true, ?_⟩
   rw [Qn, if_neg (by omega), Qn, if_neg (by omega), QcB h.keys hj', QaC hj', if_neg e]
 ·obtain ⟨j, hj, rfl⟩ := List.getElem_of_mem hy
  have hj' := hj
  rw [Zt] at hj'
  rw [QaC hj']
  have hfam := h.fam us[j] (List.getElem_mem _)
  split
  ·refine ⟨by simpa [QdJ] using hfam.1, fun z hz => ?_⟩
   rcases QdC hz with rfl | hz
   ·exact hv
   ·exact hfam.2 z hz
  ·exact hfam
 ·refine ((Qad h.keys hb4).pr h64).cons fun j hj => ?_
  have := Qiz (e := 8) (t := ec) (k := k) (row := dCR zx) (fun z hz => (h.pure hi z hz).1) (fun d hd j hj => by
   simp only [dCR, List.mem_cons, List.not_mem_nil, or_false] at hd
   rcases hd with rfl | rfl | rfl | rfl | rfl | rfl | rfl | rfl
   ·cases hj
   ·cases hj
   ·cases hj
   ·cases hj
   ·cases hj
   ·rw [hrow.1] at hj; cases hj
   ·rw [hrow.2.1] at hj; simpa using hj
   ·rw [hrow.2.2] at hj; cases hj) j hj
  subst this; exact QW
theorem Prog.start {us : List UR} (h : UnitsIn us) (h2 : 2 <= us.length) (h11 : us.length <= 11) : Prog us.length us 0 0 := by
 refine ⟨h.keys, ⟨rfl, h2, h11⟩, fun u hu => (h.fresh u hu).1, fun j hj m hm hd => by omega, fun j hj m hm _ => ?_⟩
 obtain ⟨v, sh, e, hv⟩ := (h.fresh _ (List.getElem_mem hj)).2 _ (List.getElem_mem hm)
 exact ⟨v, sh, e, hv⟩
theorem Qdu {n : Nat} {m : Int} {v : Vr} {sh : Int} {ns : List (List WantT)} (hv : QcC v) (h : Qel n m ns) (hm : m <= 3) : Qah n ⟨v, sh, ns, []⟩ :=
 ⟨hv, by show ns.length <= 10; have := h.1; omega, fun r hr => ⟨(h.2 r hr).1, fun x hx => ((h.2 r hr).2 x hx).w⟩, Nat.zero_le _, fun x hx => by cases hx⟩
theorem Qhd {n i : Nat} {m : Int} {v : Vr} {sh : Int} {ns : List (List WantT)} (hv : QcC v) (h : Qel n m ns) (hm : m <= 3) (h1 : 1 <= i) (hi : i < n) : Qah n ⟨v, sh, [⟨(i : Int) - 1, Xe v.a v.b v.c v.p v.q⟩] :: ns, []⟩ := by
 refine ⟨hv, by show (_ :: ns).length <= 10; have := h.1; simp only [List.length_cons]; omega, fun r hr => ?_, Nat.zero_le _, fun x hx => by cases hx⟩
 rcases List.mem_cons.1 hr with rfl | hr
 ·refine ⟨by simp, fun x hx => ?_⟩
  simp only [List.mem_singleton] at hx; subst hx
  have := QbU (a := v.a) (b := v.b) (c := v.c) (q := v.q) hv.1
  exact ⟨by show 0 <= (i : Int) - 1; omega, by show (i : Int) - 1 < n; omega, this.1.up (by omega), this.2.up (by omega)⟩
 ·exact ⟨(h.2 r hr).1, fun x hx => ((h.2 r hr).2 x hx).w⟩
theorem Qhc {n : Nat} {v : Vr} {sh : Int} {ns : List (List WantT)} (h : Qah n ⟨v, sh, ns, []⟩) {x : WantT} (hx : WantIn n x) : Qah n ⟨v, sh, ns, [x]⟩ := ⟨h.v, h.nl, h.nr, by simp, by intro y hy; simp only [List.mem_singleton] at hy; subst hy; exact hx.w⟩
theorem QhT {us : List UR} {i k : Nat} {z : CR} (hi : i < us.length) (hk : k < us[i].cs.length) {us2 : List UR} (e : Qb0 us i k z = us2) (hi2 : i < us2.length) : k < us2[i].cs.length := by
 rw [<- Qax hi2, <- e, Qan, Qax hi]; exact hk
theorem Qmo {l : List (List WantT)} : ∀ r ∈ l.map (fun r => [Q7 r]), r.length = 1 := fun r hr => by obtain ⟨x, _, rfl⟩ := List.mem_map.1 hr; rfl
end M25
namespace M25
open Go Go.Abs M3
/-! ### Trails that may be -/
end M25
namespace M25
open Go Go.Abs M3
/-! ### What every program says -/
/-! ### A world's facts, and more -/
end M25
namespace M25
open Go Go.Abs M3
/-! ### Powers of two -/
/-! ### Steps that may be: the program's -/
/-! ### Deciding -/
end M25
namespace M25
open Go Go.Abs M3
/-! ### Back, Sure, When -/
/-! ### What valid trails are -/
/-! ### Levels -/
end M25
namespace M25
open Go Go.Abs M3
def Qji {α : Type} (p : α -> Bool) (l : List α) : Int := match l.findIdx? p with
 | some i => i
 | none => -1
theorem XR {α : Type} {p : α -> Bool} {l : List α} {i : Nat} (h : i < l.length) (ha : (l.take i).any p = false) (hp : p l[i] = true) : Qji p l = i := by
 have e : l.findIdx? p = some i := by
  rw [List.findIdx?_eq_some_iff_getElem]
  refine ⟨h, hp, fun j hj => ?_⟩
  have := List.any_eq_false.1 ha l[j] (by
   rw [List.mem_take_iff_getElem]
   exact ⟨j, by omega, rfl⟩)
  simpa using this
 rw [Qji, e]
theorem Qja {α : Type} {p : α -> Bool} {l : List α} {i : Nat} (h : l.length <= i) (ha : (l.take i).any p = false) : Qji p l = -1 := by
 have e : l.findIdx? p = none := by
  rw [List.findIdx?_eq_none_iff]
  rw [List.take_of_length_le h] at ha
  intro x hx
  simpa using List.any_eq_false.1 ha x hx
 rw [Qji, e]
theorem Qkq {α : Type} (p : α -> Bool) (l : List α) : decide (Qji p l >= 0) = l.any p := by
 cases e : l.findIdx? p with
 | none =>
  rw [Qji, e]
  rw [List.findIdx?_eq_none_iff] at e
  have : l.any p = false := List.any_eq_false.2 fun x hx => by simpa using e x hx
  rw [this]; rfl
 | some i =>
  rw [Qji, e]
  rw [List.findIdx?_eq_some_iff_getElem] at e
  obtain ⟨h, hp, _⟩ := e
  rw [Qh6 h hp]
  simp
/-! ### The first row of lefts -/
end M25
namespace M25
open Go Go.Abs M3
/-! ### When, QgU by QgU -/
/-! ### The Qfx world -/
end M25
namespace M25
open Go Go.Abs M3
/-! ### What a run is: steps, one open after the other -/
inductive Qli (w : ZA) (db : List (List Qfh)) : List Qbh -> List Qbh -> Prop
 | nil (l : List Qbh) : Qli w db l l
 | cons {l x : List Qbh} (a k : Nat) (ho : Qnz w db l a k) (h : Qli w db (l ++ [Qpb w l ((db[a]'ho.ha)[k]'ho.hk) a]) x) : Qli w db l x
section
variable {w : ZA} {db : List (List Qfh)}
def Below (w : ZA) (b l : List Qbh) : Prop := ∀ u i, tb (Qfr w b u) i = true -> tb (Qfr w l u) i = true
/-! ### Sound: a choice stays -/
end
end M25
namespace M25
open Go Go.Abs M3
end M25
namespace M25
open Go Go.Abs M3
/-! ### More of runs -/
end M25
namespace M25
open Go Go.Abs M3
/-! ### The facts in another order -/
end M25
namespace M25
open Go Go.Abs M3
/-! ### How long a run is -/
structure Good (w : ZA) (l : List Qbh) : Prop where
 p : QnA w l
 nz : ∀ u, inW w u = true -> Qfr w l u ≠ 0
 le : ∀ u i, tb (Qfr w l u) i = true -> tb (QnW w u) i = true
end M25
namespace M25
open Go Go.Abs M3
/-! ### Masks are of values that there are -/
/-! ### Each QgU of a run -/
end M25
namespace M25
open Go Go.Abs M3
end M25
namespace M25
open Go Go.Abs M3
/-! ### Derive again -/
/-! ### Sure, and what holds -/
end M25
namespace M25
open Go Go.Abs M3
/-! ### The choice that a trail has decided -/
end M25
namespace Go.Proofs
open Go Go.Abs M3 M25
set_option linter.unusedVariables false
set_option linter.unusedSimpArgs false
theorem QaS {a b : List Int} (ha : a.length <= 10000000) : Ok Tryz.prog 21 [Zm a, Zm b] (.bool (decide (a = b))) := by
 refine Ok.ofT ZZ Tryz.func21 Qpm (Nat.le_of_ble_eq_true Z) ?_
 show TW _ _ tf21.body _ _
 refine Qf fun K hK => Qa Z (hK _ _ (Qb (kp2 Z Z) ?_))
 refine QG ?_ -- 0
 refine Qf fun K hK => Qa Z ?_
 first | refine Q5 rfl Zc ?_ | refine Q5 rfl rfl ?_
 refine Qa Z ?_
 first | refine Q5 rfl Zc ?_ | refine Q5 rfl rfl ?_
 refine Xt Z Z (hK _ _ (Qb (kp3 Z Z Z) ?_))
 refine Qy Z (fun h1 => ?_) (fun h1 => ?_)
 ·try rw [h1]
  try simp only [qA] at h1
  refine Qf fun K hK => Qa Z (hK _ _ (Qb (kp1 Z) ?_))
  refine Qt (Ql (Qp Z ?_))
  rw [decide_eq_false fun e => h1 (by rw [e])]
 ·try rw [h1]
  try simp only [qA] at h1
  refine Qw (Qd (kp2 Z Z) ?_)
  refine QG ?_ -- 1
  refine Qf fun K hK => Qa Z (hK _ _ (Qb (kp3 Z Z Z) ?_))
  refine QF ?_
  refine ZK (ι := Nat) (fun i => ⟨[(0, Zm a), (1, Zm b), (5, .int .i64 i)], []⟩) (fun i => i <= a.length /\ a.take i = b.take i) (fun i => a.length - i) 0 ?_ ?_ ?_
  ·exact QV (kp3 rfl rfl rfl)
  ·exact ⟨Nat.zero_le _, by simp⟩
  intro i hI
  try dsimp only
  refine QG ?_ -- 2
  refine Qf fun K hK => Qa Z (Qa Z ?_)
  first | refine Q5 rfl Zc ?_ | refine Q5 rfl rfl ?_
  refine YF Z Z (hK _ _ (Qb (kp4 Z Z Z Z) ?_))
  refine Qy Z (fun h2 => ?_) (fun h2 => ?_)
  ·try rw [h2]
   try simp only [qA] at h2
   refine Qw (Qd (kp3 Z Z Z) ?_)
   refine QG ?_ -- 3
   refine QF (Qf fun K hK => Qa Z (Qa Z (QS Z Z Z (by omega) (Zj (by omega)) Z (ZC (ds0 := [0]) Z Z Z Z Z (Qa Z (Qa Z (QS Z Z Z (by omega) (Zj (by omega)) Z (ZC (ds0 := [0]) Z Z Z Z Z ?_))))))))
   first | refine Xt rfl rfl ?_ | refine Qg0 rfl rfl ?_
   refine hK _ _ (Qb (kp4 Z Z Z Z) ?_)
   refine Qy Z (fun h3 => ?_) (fun h3 => ?_)
   ·try rw [h3]
    try simp only [qA] at h3
    refine Qf fun K hK => Qa Z (hK _ _ (Qb (kp1 Z) ?_))
    refine Qt (Qs (Ql (Q8 (Qs (Ql (Qp Z ?_))))))
    rw [QkY (i := i) (by omega) (by omega) h3]
   ·try rw [h3]
    try simp only [qA] at h3
    refine Qw (Qg (Qd (kp3 Z Z Z) (QY fun K hK => Qa Z (Za Z Z (by first | exact Qr (by omega) (by omega) | exact QH (by omega) (by omega) | exact QL (by omega) (by omega) | rfl) (Qa Z (hK _ ?_))))))
    refine Qj (i + 1) ?_ ?_ ?_
    ·exact QV (kp3 rfl rfl rfl)
    ·exact ⟨by omega, QhX (by omega) (by omega) hI.2 h3⟩
    ·first | omega | (simp only; omega) | (dsimp only; omega)
  ·try rw [h2]
   try simp only [qA] at h2
   refine Zi (QI (Qv (QC (Qd (QQ) (Qf fun K hK => Qa Z (hK _ _ (Qb (kp1 Z) ?_)))))))
   refine Qt (Qp Z ?_)
   rw [List.take_of_length_le (by omega), List.take_of_length_le (by omega)] at hI; exact (decide_eq_true hI.2).symm
end Go.Proofs
namespace Go.Proofs
open Go Go.Abs M3 M25
set_option linter.unusedVariables false
set_option linter.unusedSimpArgs false
theorem Xp {s : St} {args : List Opd} {kg : Nat} {L : List Int} {I n : Int} {et : Nat} (ha : Zx s args = some [.ref kg 0 0, .int .i64 n]) (hg : lk s.H kg = some (gB L I et)) (hL : ∀ x ∈ L, I64 x) (hn : n <= 9223372036854775807) : Qbk Tryz.prog 34 args s [(kg, gB L I et)] [] [(kg, gB L (nxI I) et)] (.int .i64 (nx L I n)) := by
 refine QiS (b' := gB L (nxI I) et) (ds' := [.ref (upN kg) 0 0, .int .i64 n]) ha (fun j x h => ?_) (fun k b hk j hj => ?_) (fun x hx j hj => ?_) ?_ Z Z Z Z ?_
 ·obtain ⟨rfl, rfl⟩ := XS h; exact hg
 ·obtain ⟨rfl, rfl⟩ := XS hk; simp [Box.ids, gB] at hj
 ·simp only [List.mem_cons, List.not_mem_nil, or_false] at hx
  rcases hx with rfl | rfl
  ·simp [D.ids, D.sid] at hj; subst hj; rw [Qx]; rfl
  ·simp [D.ids, D.sid] at hj
 ·rw [Qx]; rfl
 ·exact XE (by unfold upN; omega) hL hn et
theorem QcI {H : List (Nat × Box)} {kg kc : Nat} {L : List Int} {I : Int} {eg ec : Nat} {pr : Bool} {zs : List CR} (hkg : 1000000 <= kg) (hg : lk H kg = some (gB L I eg)) (hc : lk H kc = some ⟨zs.map dCR, 8, ec, pr⟩) (hne : kg ≠ kc) (hB : Big H) (hC : Closed H) (hL : ∀ x ∈ L, I64 x) (hz : ∀ z ∈ zs, QcC z.v) (hn : zs.length <= 16) : ∃ d H2, (∃ s I2, SetOk s /\ d = QgS s /\ H2 = (kg, gB L I2 eg) :: H) /\ OkH Tryz.prog 66 [.ref kg 0 0, .osl kc zs.length] H d H2 := by
 have hkc := hB _ _ hc
 refine OkH.ofX (R := fun d H2 => ∃ s I2, SetOk s /\ d = QgS s /\ H2 = (kg, gB L I2 eg) :: H) ZZ Tryz.func66 QpW (Nat.le_of_ble_eq_true Z) ?_
 show TX _ _ tf66.body _ _
 refine Q3 fun K hK => ?_
 refine ZB (by repeat (first | exact hB.none (by decide) | refine Zs (by first | decide | omega) ?_)) ?_
 refine hK _ _ (QK (kp3 Z Z Z) ?_)
 refine Q3 fun K hK => Qa Z (Z6 (Xp (I := I) Z (Qk (by omega) hg) hL (by omega)) (Qa Z (hK _ _ (QK (kp4 Z Z Z Z) ?_))))
 refine Q3 fun K hK => QD (Z4) Z Z (.inl Z) ?_
 refine ZB (by repeat (first | exact hB.none (by decide) | refine Zs (by first | decide | omega) ?_)) ?_
 refine QP Z Z Z Z Z Z Z Z (hK _ _ (QK (kp5 Z Z Z Z Z) ?_))
 refine XC ?_ -- 0
 refine Q3 fun K hK => Qa Z (hK _ _ (QK (kp6 Z Z Z Z Z Z) ?_))
 refine Yx ?_
 refine QdO (ι := Nat × QhZ) (fun ⟨i, s⟩ => ⟨[(0, .ref kg 0 0), (1, .osl kc zs.length), (4, .ref 4 0 0), (5, .int .i64 (nx L I 8)), (6, .ref 6 0 0), (7, .int .i64 i)], [(4, ⟨[[.fsl [], .fsl []]], 2, 78, true⟩), (6, ⟨[[ZR s.1, ZR s.2]], 2, 78, true⟩), (kg, gB L (nxI I) eg)] ++ H⟩) (fun ⟨i, s⟩ => i <= zs.length /\ Qjz (bnd i - 4) s) (fun ⟨i, s⟩ => zs.length - i) (0, ([], [])) ?_ ?_ ?_
 ·exact QeT (l := [0, 1, 4, 5, 6, 7]) (B := [_, _, _, _]) (kp6 rfl rfl rfl rfl rfl rfl) rfl (by intro p hp; simp only [List.mem_cons, List.not_mem_nil, or_false] at hp; rcases hp with rfl | rfl | rfl <;> exact ⟨by repeat (first | exact Qx | refine Qk (by first | decide | omega) ?_), rfl⟩) rfl (by intro p hp h; simp only [List.mem_cons, List.not_mem_nil, or_false] at hp; rcases hp with rfl | rfl | rfl | rfl <;> first | (simp only at h; omega) | (repeat (first | exact QW | refine QT ?_))) hB hC (by intro p hp k hk; simp only [List.mem_cons, List.not_mem_nil, or_false] at hp; rcases hp with rfl | rfl | rfl | rfl | rfl | rfl <;> first | (simp [D.ids, D.sid, Q7, QR, Zm] at hk; done) | (simp [D.ids, D.sid, Q7, QR, Zm] at hk; subst hk; repeat (first | exact QW | exact Zq hg | exact Zq hc | refine QT ?_)))
 ·exact ⟨Nat.zero_le _, SmN.nil _, SmN.nil _⟩
 intro ⟨i, s⟩ hI
 try dsimp only at hI
 have hb16 := Ql8 (i := i) (by omega)
 try dsimp only
 refine XC ?_ -- 1
 refine Q3 fun K hK => Qa Z (Qa Z ?_)
 first | refine Q5 rfl Zc ?_ | refine Q5 rfl rfl ?_
 refine YF Z Z (hK _ _ (QK (kp7 Z Z Z Z Z Z Z) ?_))
 refine YA Z (fun h1 => ?_) (fun h1 => ?_)
 ·try rw [h1]
  try simp only [qA] at h1
  refine YY (Q2 (kp6 Z Z Z Z Z Z) ?_)
  refine XC ?_ -- 2
  refine Yx (Q3 fun K hK => Qa Z (Qa Z (Qfz Z (Qjw (by omega) (by omega)) (QnG Z Z (by omega) (QnB Z Z (YH Z Z (hK _ _ (QK (kp7 Z Z Z Z Z Z Z) ?_))))))))
  refine YA Z (fun h2 => ?_) (fun h2 => ?_)
  ·try rw [h2]
   try simp only [qA] at h2
   have hvp := (hz _ (List.getElem_mem (show i < zs.length by omega))).1
   refine ZI fun K hK => QO (ds0 := [1, 0]) (cs := [_, _]) Z Z Z Z (by simp [Dr.ok, Qbv]) Z (Qa Z (Qa Z (Qbo (ds0 := [4, 3, 2, 1, 0]) Z Z (Qk (by omega) (Qk (by omega) (Qk (by omega) hc))) (by simp) (by omega) (by omega) Z (by simp [Dr.ok, Qbv]) Z (Qm Z (Zq (Qk (by omega) (Qk (by omega) (Qk (by omega) hc)))) (QO (ds0 := [2, 1, 0]) (cs := [_, _, _, _, _]) Z (Ye (Qk (by omega) (Qk (by omega) (Qk (by omega) hc))) (Zj (by omega))) Z Z (by simp [Dr.ok, Qbv]) Z (Q4 (ds0 := [1, 0]) (XN (hz _ (List.getElem_mem (by omega))).1 (hz _ (List.getElem_mem (by omega))).2) Z Z (.inl Z) (by simp [Dr.ok, Qbv]) Z (Q4 (ds0 := [0]) (Qdq (a := s) (b := (Xe (zs[i]'(by omega)).v.a (zs[i]'(by omega)).v.b (zs[i]'(by omega)).v.c (zs[i]'(by omega)).v.p (zs[i]'(by omega)).v.q)) (hI.2.1.sm (by omega)) (hI.2.2.sm (by omega)) ((QbU hvp).1.sm (by omega)) ((QbU hvp).2.sm (by omega)) (by have := hI.2.1.1; have := (QbU (a := (zs[i]'(by omega)).v.a) (b := (zs[i]'(by omega)).v.b) (c := (zs[i]'(by omega)).v.c) (q := (zs[i]'(by omega)).v.q) hvp).1.1; omega) (by have := hI.2.2.1; have := (QbU (a := (zs[i]'(by omega)).v.a) (b := (zs[i]'(by omega)).v.b) (c := (zs[i]'(by omega)).v.c) (q := (zs[i]'(by omega)).v.q) hvp).2.1; omega)) Z Z (.inl Z) (by simp [Dr.ok, Qbv]) Z (Xg (ds0 := []) Z Z Z Z Z Z Z Z (by simp [Dr.ok, Qbv]) Z (hK _ ?_)))))))))
   refine Qg (Q2 (kp6 Z Z Z Z Z Z) (ZI fun K hK => Qa Z (Za Z Z (by first | exact Qr (by omega) (by omega) | rfl) (Qa Z (hK _ ?_)))))
   refine Qj (i + 1, Qmi s (Xe (zs[i]'(by omega)).v.a (zs[i]'(by omega)).v.b (zs[i]'(by omega)).v.c (zs[i]'(by omega)).v.p (zs[i]'(by omega)).v.q)) ?_ ?_ ?_
   ·exact QeT (l := [0, 1, 4, 5, 6, 7]) (B := [_, _, _, _]) (kp6 rfl rfl rfl rfl rfl rfl) rfl (by intro p hp; simp only [List.mem_cons, List.not_mem_nil, or_false] at hp; rcases hp with rfl | rfl | rfl <;> exact ⟨by repeat (first | exact Qx | refine Qk (by first | decide | omega) ?_), rfl⟩) rfl (by intro p hp h; simp only [List.mem_cons, List.not_mem_nil, or_false] at hp; rcases hp with rfl | rfl | rfl | rfl <;> first | (simp only at h; omega) | (repeat (first | exact QW | refine QT ?_))) hB hC (by intro p hp k hk; simp only [List.mem_cons, List.not_mem_nil, or_false] at hp; rcases hp with rfl | rfl | rfl | rfl | rfl | rfl <;> first | (simp [D.ids, D.sid, Q7, QR, Zm] at hk; done) | (simp [D.ids, D.sid, Q7, QR, Zm] at hk; subst hk; repeat (first | exact QW | exact Zq hg | exact Zq hc | refine QT ?_)))
   ·exact ⟨by show i + 1 <= _; omega, Qn6 hI.2 (hz _ (List.getElem_mem (by omega))).1 (by omega)⟩
   ·show zs.length - (i + 1) < zs.length - i; omega
  ·try rw [h2]
   try simp only [qA] at h2
   have hvp := (hz _ (List.getElem_mem (show i < zs.length by omega))).1
   refine YY (Qg (Q2 (kp6 Z Z Z Z Z Z) (ZI fun K hK => Qa Z (Za Z Z (by first | exact Qr (by omega) (by omega) | rfl) (Qa Z (hK _ ?_))))))
   refine Qj (i + 1, s) ?_ ?_ ?_
   ·exact QeT (l := [0, 1, 4, 5, 6, 7]) (B := [_, _, _]) (kp6 rfl rfl rfl rfl rfl rfl) rfl (by intro p hp; simp only [List.mem_cons, List.not_mem_nil, or_false] at hp; rcases hp with rfl | rfl | rfl <;> exact ⟨by repeat (first | exact Qx | refine Qk (by first | decide | omega) ?_), rfl⟩) rfl (by intro p hp h; simp only [List.mem_cons, List.not_mem_nil, or_false] at hp; rcases hp with rfl | rfl | rfl <;> first | (simp only at h; omega) | (repeat (first | exact QW | refine QT ?_))) hB hC (by intro p hp k hk; simp only [List.mem_cons, List.not_mem_nil, or_false] at hp; rcases hp with rfl | rfl | rfl | rfl | rfl | rfl <;> first | (simp [D.ids, D.sid, Q7, QR, Zm] at hk; done) | (simp [D.ids, D.sid, Q7, QR, Zm] at hk; subst hk; repeat (first | exact QW | exact Zq hg | exact Zq hc | refine QT ?_)))
   ·exact ⟨by show i + 1 <= _; omega, QlW hI.2⟩
   ·show zs.length - (i + 1) < zs.length - i; omega
 ·try rw [h1]
  try simp only [qA] at h1
  refine Qcd (Y6 (Qv (QC (Q2 (kp3 Z Z Z) ?_))))
  refine XC ?_ -- 3
  refine Q3 fun K hK => Qa Z (Z6 (Xp (I := nxI I) Z (Qk (by omega) (Qk (by omega) Qx)) hL (by omega)) (hK _ _ (QK (kp3 Z Z Z) ?_)))
  refine Yx (Q3 fun K hK => YH Z Z (Qa Z (hK _ _ (QK (kp4 Z Z Z Z) ?_))))
  refine YA Z (fun h3 => ?_) (fun h3 => ?_)
  ·try rw [h3]
   try simp only [qA] at h3
   refine Q3 fun K hK => QD (QcM) Z Z (.inl Z) (QP Z (Qk (by omega) Z) Z Z Z Z Z Z (hK _ _ (QK (kp1 Z) ?_)))
   refine Qfi (Qs (Qjr ?_))
   refine ⟨QgS Qj1, (kg, gB L (nxI (nxI I)) eg) :: H, ⟨Qj1, _, ⟨Ql5.1.up (by omega), Ql5.2.up (by omega)⟩, rfl, rfl⟩, (XB hB hC hkg rfl).1, (XB hB hC hkg rfl).2, ?_⟩
   refine QbZ (cs := [ZR Qj1.1, ZR Qj1.2]) Z (Ye (by repeat (first | exact Qx | refine Qk (by first | decide | omega) ?_)) Z) Z Z Z ?_
   exact Qao (B := [_, _, _, _, _]) hB (by repeat (first | exact Qx | refine Qk (by first | decide | omega) ?_)) (by intro p hp h; simp only [List.mem_cons, List.not_mem_nil, or_false] at hp; rcases hp with rfl | rfl | rfl | rfl | rfl <;> first | rfl | (simp only at h; omega))
  ·try rw [h3]
   try simp only [qA] at h3
   refine Q3 fun K hK => YH Z Z (Qa Z (hK _ _ (QK (kp3 Z Z Z) ?_)))
   refine YA Z (fun h4 => ?_) (fun h4 => ?_)
   ·try rw [h4]
    try simp only [qA] at h4
    refine Q3 fun K hK => QN (cs := [_, _]) Z (Ye (Qk (by omega) Z) Z) Z Z (QD (QcN (a := s) (hI.2.1.sm (by omega)) (hI.2.2.sm (by omega))) Z Z (.inl Z) (QP Z (Qk (by omega) Z) Z Z Z Z Z Z (hK _ _ (QK (kp1 Z) ?_))))
    refine Qfi (Qs (Qjr ?_))
    refine ⟨QgS (Qgv s), (kg, gB L (nxI (nxI I)) eg) :: H, ⟨(Qgv s), _, ⟨(QkF hI.2 (by omega)).1.up (by omega), (QkF hI.2 (by omega)).2.up (by omega)⟩, rfl, rfl⟩, (XB hB hC hkg rfl).1, (XB hB hC hkg rfl).2, ?_⟩
    refine QbZ (cs := [ZR (Qgv s).1, ZR (Qgv s).2]) Z (Ye (by repeat (first | exact Qx | refine Qk (by first | decide | omega) ?_)) Z) Z Z Z ?_
    exact Qao (B := [_, _, _, _, _]) hB (by repeat (first | exact Qx | refine Qk (by first | decide | omega) ?_)) (by intro p hp h; simp only [List.mem_cons, List.not_mem_nil, or_false] at hp; rcases hp with rfl | rfl | rfl | rfl | rfl <;> first | rfl | (simp only at h; omega))
   ·try rw [h4]
    try simp only [qA] at h4
    refine YY (Qg (Q2 (kp2 Z Z) (Q3 fun K hK => QN (cs := [_, _]) Z (Ye (Qk (by omega) Z) Z) Z Z (QP Z (Qk (by omega) Z) Z Z Z Z Z Z (hK _ _ (QK (kp1 Z) ?_))))))
    refine Qfi ?_
    refine ⟨QgS s, (kg, gB L (nxI (nxI I)) eg) :: H, ⟨s, _, ⟨hI.2.1.up (by omega), hI.2.2.up (by omega)⟩, rfl, rfl⟩, (XB hB hC hkg rfl).1, (XB hB hC hkg rfl).2, ?_⟩
    refine QbZ (cs := [ZR s.1, ZR s.2]) Z (Ye (by repeat (first | exact Qx | refine Qk (by first | decide | omega) ?_)) Z) Z Z Z ?_
    exact Qao (B := [_, _, _, _, _]) hB (by repeat (first | exact Qx | refine Qk (by first | decide | omega) ?_)) (by intro p hp h; simp only [List.mem_cons, List.not_mem_nil, or_false] at hp; rcases hp with rfl | rfl | rfl | rfl | rfl <;> first | rfl | (simp only at h; omega))
end Go.Proofs
namespace Go.Proofs
open Go Go.Abs M3 M25
set_option linter.unusedVariables false
set_option linter.unusedSimpArgs false
/-- The call of 'set', over boxes that are lent. -/
theorem QoA {H : List (Nat × Box)} {kg kc : Nat} {L : List Int} {I : Int} {eg ec : Nat} {pr : Bool} {zs : List CR} (hg : lk H kg = some (gB L I eg)) (hc : lk H kc = some ⟨zs.map dCR, 8, ec, pr⟩) (hne : kg ≠ kc) (hC : Closed H) (hL : ∀ x ∈ L, I64 x) (hz : ∀ z ∈ zs, QcC z.v) (hn : zs.length <= 16) :
  ∃ s I2, SetOk s /\ ∀ (st : St) (args : List Opd), Zx st args = some [.ref kg 0 0, .osl kc zs.length] -> (∀ j x, lk H j = some x -> lk st.H j = some x) -> Qbk Tryz.prog 66 args st H [] [(kg, gB L I2 eg)] (QgS s) := by
 obtain ⟨d, H2, ⟨s, I2, hs, rfl, rfl⟩, hok⟩ := QcI (H := upH H) (kg := upN kg) (kc := upN kc) (L := L) (I := I) (eg := eg) (ec := ec) (pr := pr) (zs := zs.map CR.ren) (by unfold upN; omega) (by rw [Qap, hg]; rfl) (by rw [Qap, hc, Option.map_some, Box.ren, Qj7]) (fun e => hne (QiJ e)) QiI (QdM hC) hL
  (fun z hz' => by obtain ⟨z0, h0, rfl⟩ := List.mem_map.1 hz'; exact hz z0 h0) (by simpa using hn)
 refine ⟨s, I2, hs, fun st args ha hF => QiS (b' := gB L I2 eg) (ds' := [.ref (upN kg) 0 0, .osl (upN kc) zs.length]) ha hF hC (fun x hx j hj => ?_) (Zq hg) Z Z Z Z ?_⟩
 ·simp only [List.mem_cons, List.not_mem_nil, or_false] at hx
  rcases hx with rfl | rfl
  ·simp [D.ids, D.sid] at hj; subst hj; exact Zq hg
  ·simp [D.ids, D.sid] at hj; subst hj; exact Zq hc
 ·rw [List.length_map] at hok; exact hok
theorem Qco {H : List (Nat × Box)} {kg ku : Nat} {L : List Int} {I : Int} {eg eu ec : Nat} {us : List UR} (hkg : 1000000 <= kg) (hg : lk H kg = some (gB L I eg)) (hU : Fam H kg ku eu ec us) (hB : Big H) (hC : Closed H) (hL : ∀ x ∈ L, I64 x) (h2n : 2 <= us.length) (hn : us.length <= 48) : ∃ d H2, (∃ x I2, WantIn us.length x /\ d = .agg (Qfk x) /\ H2 = (kg, gB L I2 eg) :: H) /\ OkH Tryz.prog 35 [.ref kg 0 0, .osl ku us.length] H d H2 := by
 obtain ⟨pu, hu⟩ := hU.u
 have hku := hB _ _ hu
 have hne := hU.ne
 have hx0 := QfT (v := Qld L (IntKind.i64.wrap (nxI I - 1))) (n := (us.length : Int) - 1)
 have hx1 := QfS (v := Qld L (IntKind.i64.wrap (nxI I - 1))) (n := (us.length : Int) - 1) (by omega)
 change 0 <= nx L I ((us.length : Int) - 1) at hx0
 change nx L I ((us.length : Int) - 1) < _ at hx1
 obtain ⟨hyk, pr, hy⟩ := hU.c (us[(1 + nx L I ((us.length : Int) - 1)).toNat]'(by omega)) (List.getElem_mem _)
 obtain ⟨hv1, hv2⟩ := hU.v (us[(1 + nx L I ((us.length : Int) - 1)).toNat]'(by omega)) (List.getElem_mem _)
 obtain ⟨s, I2, hs, hcall⟩ := QoA (H := (kg, gB L (nxI I) eg) :: H) Qx (Qk (Ne.symm hyk) hy) (Ne.symm hyk) (hC.pr rfl) hL hv2 hv1
 refine OkH.ofX (R := fun d H2 => ∃ x I2, WantIn us.length x /\ d = .agg (Qfk x) /\ H2 = (kg, gB L I2 eg) :: H) ZZ Tryz.func35 Qpu (Nat.le_of_ble_eq_true Z) ?_
 show TX _ _ tf35.body _ _
 refine Q3 fun K hK => ?_
 refine ZB (by repeat (first | exact hB.none (by decide) | refine Zs (by first | decide | omega) ?_)) ?_
 refine hK _ _ (QK (kp3 Z Z Z) ?_)
 refine Q3 fun K hK => Qa Z (Qa Z ?_)
 first | refine Q5 rfl Zc ?_ | refine Q5 rfl rfl ?_
 refine Qb2 Z Z (by first | exact Qr (by omega) (by omega) | rfl) (Z6 (Xp (I := I) Z (Qk (by omega) hg) hL (by omega)) (Za Z Z (by first | exact Qr (by omega) (by omega) | rfl) (Qa Z (hK _ _ (QK (kp4 Z Z Z Z) ?_)))))
 refine Q3 fun K hK => Qa rfl (Qa rfl (Qa rfl (Qa rfl (YR rfl rfl (Qk (by omega) (Qk (by omega) hu)) (by simp) (by omega) (by omega) rfl (Qm rfl (Zq (Qk (by omega) (Qk (by omega) hu))) (QE rfl (Ye (Qk (by omega) (Qk (by omega) hu)) (Xk (by omega) (by omega))) rfl (Z6 (hcall _ _ rfl (Qao (B := [_, _]) hB Qx (by intro p hp h; simp only [List.mem_cons, List.not_mem_nil, or_false] at hp; rcases hp with rfl | rfl <;> first | rfl | (simp only at h; omega)))) (Q0 rfl rfl (QP rfl (Qk (by omega) (Qk (by omega) rfl)) rfl rfl rfl rfl rfl rfl (hK _ _ (QK (kp1 rfl) ?_)))))))))))
 refine Qfi ?_
 refine ⟨.agg (Qfk ⟨1 + nx L I ((us.length : Int) - 1), s⟩), (kg, gB L I2 eg) :: H, ⟨⟨1 + nx L I ((us.length : Int) - 1), s⟩, _, ⟨by show 1 <= 1 + _; omega, by show 1 + _ < (us.length : Int); omega, hs⟩, rfl, rfl⟩, (XB hB hC hkg rfl).1, (XB hB hC hkg rfl).2, ?_⟩
 refine QbZ (cs := Qfk ⟨1 + nx L I ((us.length : Int) - 1), s⟩) Z (Ye (by repeat (first | exact Qx | refine Qk (by first | decide | omega) ?_)) Z) Z Z Z ?_
 exact Qao (B := [_, _, _, _]) hB (by repeat (first | exact Qx | refine Qk (by first | decide | omega) ?_)) (by intro p hp h; simp only [List.mem_cons, List.not_mem_nil, or_false] at hp; rcases hp with rfl | rfl | rfl | rfl <;> first | rfl | (simp only at h; omega))
/-- The call of 'want'. -/
theorem Qjl {H : List (Nat × Box)} {kg ku : Nat} {L : List Int} {I : Int} {eg eu ec : Nat} {us : List UR} (hg : lk H kg = some (gB L I eg)) (hU : Fam H kg ku eu ec us) (hC : Closed H) (hL : ∀ x ∈ L, I64 x) (h2 : 2 <= us.length) (hn : us.length <= 48) :
  ∃ x I2, WantIn us.length x /\ ∀ (st : St) (args : List Opd), Zx st args = some [.ref kg 0 0, .osl ku us.length] -> (∀ j x, lk H j = some x -> lk st.H j = some x) -> Qbk Tryz.prog 35 args st H [] [(kg, gB L I2 eg)] (.agg (Qfk x)) := by
 obtain ⟨d, H2, ⟨x, I2, hx, rfl, rfl⟩, hok⟩ := Qco (H := upH H) (kg := upN kg) (ku := upN ku) (L := L) (I := I) (eg := eg) (eu := eu) (ec := ec) (us := us.map UR.ren) (by unfold upN; omega) (by rw [Qap, hg]; rfl) hU.up QiI (QdM hC) hL (by simpa using h2) (by simpa using hn)
 obtain ⟨pu, hu⟩ := hU.u
 rw [List.length_map] at hx hok
 refine ⟨x, I2, hx, fun st args ha hF => QiS (b' := gB L I2 eg) (ds' := [.ref (upN kg) 0 0, .osl (upN ku) us.length]) ha hF hC (fun x hx j hj => ?_) (Zq hg) Z Z Z Z hok⟩
 simp only [List.mem_cons, List.not_mem_nil, or_false] at hx
 rcases hx with rfl | rfl
 ·simp [D.ids, D.sid] at hj; subst hj; exact Zq hg
 ·simp [D.ids, D.sid] at hj; subst hj; exact Zq hu
end Go.Proofs
namespace Go.Proofs
open Go Go.Abs M3 M25
set_option linter.unusedVariables false
set_option linter.unusedSimpArgs false
theorem Qb4 {H : List (Nat × Box)} {kg ku : Nat} {L : List Int} {I most : Int} {eg eu ec : Nat} {us : List UR} (hkg : 1000000 <= kg) (hg : lk H kg = some (gB L I eg)) (hU : Fam H kg ku eu ec us) (hB : Big H) (hC : Closed H) (hL : ∀ x ∈ L, I64 x) (h2n : 2 <= us.length) (hn : us.length <= 48) (hm0 : 0 <= most) (hm1 : most <= 10) : ∃ d H2, (∃ ns I2, Qel us.length most ns /\ d = QR ns /\ H2 = (kg, gB L I2 eg) :: H) /\ OkH Tryz.prog 32 [.ref kg 0 0, .osl ku us.length, .int .i64 most] H d H2 := by
 obtain ⟨pu, hu⟩ := hU.u
 have hku := hB _ _ hu
 have hne := hU.ne
 have hk0 : 0 <= nx L I (most + 1) := QfT
 have hk1 : nx L I (most + 1) < most + 1 := QfS (by omega)
 refine OkH.ofX (R := fun d H2 => ∃ ns I2, Qel us.length most ns /\ d = QR ns /\ H2 = (kg, gB L I2 eg) :: H) ZZ Tryz.func32 Qpr (Nat.le_of_ble_eq_true Z) ?_
 show TX _ _ tf32.body _ _
 refine Q3 fun K hK => Qa Z (hK _ _ (QK (kp3 Z Z Z) ?_))
 refine Q3 fun K hK => Qa Z (hK _ _ (QK (kp4 Z Z Z Z) ?_))
 refine XC ?_ -- 0
 refine Q3 fun K hK => Qa Z (Qa Z (Za Z Z (by first | exact Qr (by omega) (by omega) | rfl) (Z6 (Xp (I := I) Z hg hL (by omega)) (Qa Z (hK _ _ (QK (kp4 Z Z Z Z) ?_))))))
 refine Yx ?_
 refine QdO (ι := Nat × List (List WantT) × Int) (fun ⟨k, ns, J⟩ => ⟨[(0, .ref kg 0 0), (1, .osl ku us.length), (7, .osl 7 ns.length), (8, .int .i64 k)], [(7, ⟨(ns).map (fun r => [Q7 r]), 1, 60, true⟩), (kg, gB L J eg)] ++ H⟩) (fun ⟨k, ns, J⟩ => (ns.length : Int) + k <= most /\ ∀ r ∈ ns, Qg2 us.length r) (fun ⟨k, ns, J⟩ => k) ((nx L I (most + 1)).toNat, [], nxI I) ?_ ?_ ?_
 ·exact le_trans (Y2 7 7 1 60 rfl (by repeat (first | exact hB.none (by decide) | refine Zs (by first | decide | omega) ?_))) (QeT (l := [0, 1, 7, 8]) (B := [_, _]) (kp4 rfl rfl rfl rfl) (by simp only [Int.toNat_of_nonneg hk0] <;> rfl) (by intro p hp; simp only [List.mem_cons, List.not_mem_nil, or_false] at hp; rcases hp with rfl | rfl <;> exact ⟨by repeat (first | exact Qx | refine Qk (by first | decide | omega) ?_), rfl⟩) rfl (by intro p hp h; simp only [List.mem_cons, List.not_mem_nil, or_false] at hp; rcases hp with rfl | rfl <;> first | (simp only at h; omega) | (repeat (first | exact QW | refine QT ?_))) hB hC (by intro p hp k hk; simp only [List.mem_cons, List.not_mem_nil, or_false] at hp; rcases hp with rfl | rfl | rfl | rfl <;> first | (simp [D.ids, D.sid, Q7, QR, Zm] at hk; done) | (simp [D.ids, D.sid, Q7, QR, Zm] at hk; subst hk; repeat (first | exact QW | exact Zq hg | exact Zq hu | refine QT ?_))))
 ·exact ⟨by simp only [List.length_nil]; omega, by simp⟩
 intro ⟨k, ns, J⟩ hI
 try dsimp only at hI
 try dsimp only
 refine XC ?_ -- 1
 refine Q3 fun K hK => Qa Z (Qcc Z Z (hK _ _ (QK (kp5 Z Z Z Z Z) ?_)))
 refine YA Z (fun h1 => ?_) (fun h1 => ?_)
 ·try rw [h1]
  try simp only [qA] at h1
  refine YY (Q2 (kp4 Z Z Z Z) ?_)
  refine XC ?_ -- 2
  refine Yx (Q3 fun K hK => Qa Z (Qa Z ?_))
  obtain ⟨x1, J1, hx1, hc1⟩ := Qjl (I := J) (H := (kg, gB L (J) eg) :: H) Qx hU.cons (hC.pr rfl) hL h2n hn
  refine Z6 (hc1 _ _ rfl (Qao (B := [_, _]) hB (by repeat (first | exact Qx | refine Qk (by first | decide | omega) ?_)) (by intro p hp h; simp only [List.mem_cons, List.not_mem_nil, or_false] at hp; rcases hp with rfl | rfl <;> first | rfl | (simp only at h; omega)))) ?_
  refine QM Z (by repeat (first | exact hB.none (by decide) | refine Zs (by first | decide | omega) ?_)) ?_
  refine Qa Z (hK _ _ (QK (kp5 Z Z Z Z Z) ?_))
  refine Qj0 (ι := List WantT × Int) (fun ⟨r, J4⟩ => ⟨[(0, .ref kg 0 0), (1, .osl ku us.length), (7, .osl 7 ns.length), (8, .int .i64 k), (9, Q7 r)], [(7, ⟨(ns).map (fun r => [Q7 r]), 1, 60, true⟩), (kg, gB L J4 eg)] ++ H⟩) (fun ⟨r, J4⟩ => Qg2 us.length r) ?_ ?_
  ·skip
   refine Q3 fun K hK => Qa Z (Z6 (Xp (I := J1) Z (Qk (by omega) Qx) hL (by omega)) (YH Z Z (hK _ _ (QK (kp6 Z Z Z Z Z Z) ?_))))
   refine YA Z (fun h2 => ?_) (fun h2 => ?_)
   ·try rw [h2]
    try simp only [qA] at h2
    refine ZI fun K hK => Qa Z (Qa Z (Qa Z ?_))
    obtain ⟨x2, J2, hx2, hc2⟩ := Qjl (I := nxI J1) (H := (kg, gB L (nxI J1) eg) :: H) Qx hU.cons (hC.pr rfl) hL h2n hn
    refine Z6 (hc2 _ _ rfl (Qao (B := [_, _, _, _, _]) hB (by repeat (first | exact Qx | refine Qk (by first | decide | omega) ?_)) (by intro p hp h; simp only [List.mem_cons, List.not_mem_nil, or_false] at hp; rcases hp with rfl | rfl | rfl | rfl | rfl <;> first | rfl | (simp only at h; omega)))) ?_
    refine QM Z (by repeat (first | exact hB.none (by decide) | refine Zs (by first | decide | omega) ?_)) ?_
    refine Qmw Z Z (by simp [D.ids, D.sid]) ⟨_, rfl, rfl, rfl, rfl, rfl⟩ (by repeat (first | exact hB.none (by decide) | refine Zs (by first | decide | omega) ?_)) (Qk (by decide) (Qk (by omega) (Qk (by omega) Z))) Z Z Z (by simp) (by simp) ?_
    refine Qa Z (hK _ ?_)
    refine Zl ([x1, x2], J2) ?_ ?_
    ·exact le_trans (Qil (l := [0, 1, 7, 8]) (B := [_, _, _, _, _, _, _, _, _]) (A := [(7, ⟨(ns).map (fun r => [Q7 r]), 1, 60, true⟩), (kg, gB L J2 eg)]) 30 9 (kp4 rfl rfl rfl rfl) rfl rfl rfl (by first | (simp; done) | (simp; omega)) (by intro p hp hk; simp only [List.mem_cons, List.not_mem_nil, or_false] at hp; rcases hp with rfl | rfl | rfl | rfl <;> first | (simp [D.ids, D.sid, Q7, QR, Zm] at hk; done) | (simp [D.ids, D.sid, Q7, QR, Zm] at hk; omega)) (by intro p hp; simp only [List.mem_cons, List.not_mem_nil, or_false] at hp; rcases hp with rfl | rfl <;> exact ⟨by first | decide | (simp only; omega), by repeat (first | exact Qx | refine Qk (by first | decide | omega) ?_), rfl⟩) (by intro p hp h; simp only [List.mem_cons, List.not_mem_nil, or_false] at hp; rcases hp with rfl | rfl | rfl | rfl | rfl | rfl | rfl | rfl | rfl <;> first | (simp only at h; omega) | (repeat (first | exact QW | refine QT ?_))) hB hC (by intro p hp k hk; simp only [List.mem_cons, List.not_mem_nil, or_false] at hp; rcases hp with rfl | rfl | rfl | rfl <;> first | (simp [D.ids, D.sid, Q7, QR, Zm] at hk; done) | (simp [D.ids, D.sid, Q7, QR, Zm] at hk; subst hk; repeat (first | exact QW | exact Zq hg | exact Zq hu | refine QT ?_)))) (QeT (l := [0, 1, 7, 8, 9]) (B := [_, _]) (kp5 rfl rfl rfl rfl rfl) rfl (by intro p hp; simp only [List.mem_cons, List.not_mem_nil, or_false] at hp; rcases hp with rfl | rfl <;> exact ⟨by repeat (first | exact Qx | refine Qk (by first | decide | omega) ?_), rfl⟩) rfl (by intro p hp h; simp only [List.mem_cons, List.not_mem_nil, or_false] at hp; rcases hp with rfl | rfl <;> first | (simp only at h; omega) | (repeat (first | exact QW | refine QT ?_))) hB hC (by intro p hp k hk; simp only [List.mem_cons, List.not_mem_nil, or_false] at hp; rcases hp with rfl | rfl | rfl | rfl | rfl <;> first | (simp [D.ids, D.sid, Q7, QR, Zm] at hk; done) | (simp [D.ids, D.sid, Q7, QR, Zm] at hk; subst hk; repeat (first | exact QW | exact Zq hg | exact Zq hu | refine QT ?_))))
    ·exact Qm9 hx1 hx2
   ·try rw [h2]
    try simp only [qA] at h2
    refine YY ?_
    refine Zl ([x1], nxI J1) ?_ ?_
    ·exact le_trans (Qil (l := [0, 1, 7, 8]) (B := [_, _, _, _, _]) (A := [(7, ⟨(ns).map (fun r => [Q7 r]), 1, 60, true⟩), (kg, gB L (nxI J1) eg)]) 21 9 (kp4 rfl rfl rfl rfl) rfl (Qk (by omega) rfl) rfl (by first | (simp; done) | (simp; omega)) (by intro p hp hk; simp only [List.mem_cons, List.not_mem_nil, or_false] at hp; rcases hp with rfl | rfl | rfl | rfl <;> first | (simp [D.ids, D.sid, Q7, QR, Zm] at hk; done) | (simp [D.ids, D.sid, Q7, QR, Zm] at hk; omega)) (by intro p hp; simp only [List.mem_cons, List.not_mem_nil, or_false] at hp; rcases hp with rfl | rfl <;> exact ⟨by first | decide | (simp only; omega), by repeat (first | exact Qx | refine Qk (by first | decide | omega) ?_), rfl⟩) (by intro p hp h; simp only [List.mem_cons, List.not_mem_nil, or_false] at hp; rcases hp with rfl | rfl | rfl | rfl | rfl <;> first | (simp only at h; omega) | (repeat (first | exact QW | refine QT ?_))) hB hC (by intro p hp k hk; simp only [List.mem_cons, List.not_mem_nil, or_false] at hp; rcases hp with rfl | rfl | rfl | rfl <;> first | (simp [D.ids, D.sid, Q7, QR, Zm] at hk; done) | (simp [D.ids, D.sid, Q7, QR, Zm] at hk; subst hk; repeat (first | exact QW | exact Zq hg | exact Zq hu | refine QT ?_)))) (QeT (l := [0, 1, 7, 8, 9]) (B := [_, _]) (kp5 rfl rfl rfl rfl rfl) rfl (by intro p hp; simp only [List.mem_cons, List.not_mem_nil, or_false] at hp; rcases hp with rfl | rfl <;> exact ⟨by repeat (first | exact Qx | refine Qk (by first | decide | omega) ?_), rfl⟩) rfl (by intro p hp h; simp only [List.mem_cons, List.not_mem_nil, or_false] at hp; rcases hp with rfl | rfl <;> first | (simp only at h; omega) | (repeat (first | exact QW | refine QT ?_))) hB hC (by intro p hp k hk; simp only [List.mem_cons, List.not_mem_nil, or_false] at hp; rcases hp with rfl | rfl | rfl | rfl | rfl <;> first | (simp [D.ids, D.sid, Q7, QR, Zm] at hk; done) | (simp [D.ids, D.sid, Q7, QR, Zm] at hk; subst hk; repeat (first | exact QW | exact Zq hg | exact Zq hu | refine QT ?_))))
    ·exact Qm8 hx1
  intro ⟨r, J4⟩ hJ
  try dsimp only at hJ
  try dsimp only
  refine ZI fun K hK => Qa Z (Qa Z ?_)
  refine QM Z (by repeat (first | exact hB.none (by decide) | refine Zs (by first | decide | omega) ?_)) ?_
  refine X2 Z Z (fun _ h => Qar Z Z Z h) Z (by simp) Z Z Z (by simp; omega) (by simp; omega) (Qa Z (hK _ ?_))
  refine Qg (Q2 (kp4 Z Z Z Z) (ZI fun K hK => Qa Z (Qb2 Z Z (by first | exact Qr (by omega) (by omega) | rfl) (Qa Z (hK _ ?_)))))
  refine Qj (k - 1, ns ++ [r], J4) ?_ ?_ ?_
  ·exact le_trans (QnV (B := [_, _, _, _]) 7 hB hC) (QeT (l := [0, 1, 7, 8]) (A := [(7, ⟨ns.map (fun r => [Q7 r]) ++ [[Q7 r]], 1, 60, true⟩), (kg, gB L J4 eg)]) (B := [_, _, _, _]) (kp4 rfl rfl rfl rfl) (by simp [D.scrub, show ¬ kg = 7 by omega, show ¬ ku = 7 by omega] <;> omega) (by intro p hp; simp only [List.mem_cons, List.not_mem_nil, or_false] at hp; rcases hp with rfl | rfl <;> exact ⟨by repeat (first | exact Qx | refine Qk (by first | decide | omega) ?_), rfl⟩) (by simp) (by intro p hp h; simp only [List.mem_cons, List.not_mem_nil, or_false] at hp; rcases hp with rfl | rfl | rfl | rfl <;> first | (simp only at h; omega) | (repeat (first | exact QW | refine QT ?_))) hB hC (by intro p hp k hk; simp only [List.mem_cons, List.not_mem_nil, or_false] at hp; rcases hp with rfl | rfl | rfl | rfl <;> first | (simp [D.ids, D.sid, Q7, QR, Zm] at hk; done) | (simp [D.ids, D.sid, Q7, QR, Zm] at hk; subst hk; repeat (first | exact QW | exact Zq hg | exact Zq hu | refine QT ?_))))
  ·exact ⟨by simp only [List.length_append, List.length_singleton]; omega, QkU hI.2 hJ⟩
  ·show k - 1 < k; omega
 ·try rw [h1]
  try simp only [qA] at h1
  refine Qcd (Y6 (Qv (QC (Q2 (kp1 Z) (Q3 fun K hK => Qa Z (Qa Z (hK _ _ (QK (kp1 Z) ?_))))))))
  refine Qfi ?_
  refine ⟨QR ns, (kg, gB L J eg) :: H, ⟨ns, _, ⟨by omega, hI.2⟩, rfl, rfl⟩, (XB hB hC hkg rfl).1, (XB hB hC hkg rfl).2, ?_⟩
  refine Qaa Z (by simp [Qlb, D.fz, D.fzS, Qfx, lk, D.can, D.canS, QR]) ?_
  exact Qao (B := [_, _]) hB (by repeat (first | exact Qx | refine Qk (by first | decide | omega) ?_)) (by intro p hp h; simp only [List.mem_cons, List.not_mem_nil, or_false] at hp; rcases hp with rfl | rfl <;> first | rfl | (simp only at h; omega))
end Go.Proofs
namespace Go.Proofs
open Go Go.Abs M3 M25
set_option linter.unusedVariables false
set_option linter.unusedSimpArgs false
theorem Qb5 {kg : Nat} {L : List Int} {I most : Int} {eg eu ec : Nat} (heu : eu = 65) (hec : ec = 62) (hkg : 1000000 <= kg) (hL : ∀ x ∈ L, I64 x) (hm0 : 1 <= most) (hm1 : most <= 5) : ∃ d H2, (∃ us I2, (UnitsIn us /\ 2 <= us.length /\ us.length <= 11) /\ d = .osl 500000 us.length /\ H2 = ((500000, ⟨us.map dUR, 3, eu, false⟩) :: fbx ec us) ++ [(kg, gB L I2 eg), (kg, gB L I eg)]) /\ OkH Tryz.prog 31 [.ref kg 0 0, .int .i64 most] [(kg, gB L I eg)] d H2 := by
 subst heu hec
 have e3 : ¬ kg = 500000 := by omega
 have k1 := QlZ (a := 18) (b := 500000) hkg (by decide) (by decide)
 have k2 := QlZ (a := 16) (b := 500001) hkg (by decide) (by decide)
 refine OkH.ofX (R := fun d H2 => ∃ us I2, (UnitsIn us /\ 2 <= us.length /\ us.length <= 11) /\ d = .osl 500000 us.length /\ H2 = ((500000, ⟨us.map dUR, 3, 65, false⟩) :: fbx 62 us) ++ [(kg, gB L I2 eg), (kg, gB L I eg)]) ZZ Tryz.func31 Qpq (Nat.le_of_ble_eq_true Z) ?_
 show TX _ _ tf31.body _ _
 refine Q3 fun K hK => Qa Z (hK _ _ (QK (kp2 Z Z) ?_))
 refine Q3 fun K hK => ?_
 refine QM Z (by repeat (first | exact Z | refine Zs (by first | decide | omega) ?_)) ?_
 refine Qa Z (hK _ _ (QK (kp3 Z Z Z) ?_))
 refine QjZ (Qil (l := [0, 1]) (B := [_]) (A := []) (H0 := [(kg, gB L I eg)]) 14 5 (kp2 rfl rfl) rfl rfl rfl rfl (by intro p hp hk; simp only [List.mem_cons, List.not_mem_nil, or_false] at hp; rcases hp with rfl | rfl <;> first | (simp [D.ids, D.sid, Q7, QR, Zm] at hk; done) | (simp [D.ids, D.sid, Q7, QR, Zm] at hk; omega)) (by intro p hp; cases hp) (by intro p hp h; simp only [List.mem_singleton] at hp; subst hp; simp only at h; omega) (fun k b h => by obtain ⟨rfl, rfl⟩ := XS h; exact hkg) (fun k b h j hj => by obtain ⟨rfl, rfl⟩ := XS h; simp [Box.ids, gB] at hj) (by intro p hp k hk; simp only [List.mem_cons, List.not_mem_nil, or_false] at hp; rcases hp with rfl | rfl <;> first | (simp [D.ids, D.sid, Q7, QR, Zm] at hk; done) | (simp [D.ids, D.sid, Q7, QR, Zm] at hk; subst hk; repeat (first | exact QW | refine QT ?_)))) ?_
 refine Q3 fun K hK => Q0 Z Z ?_
 refine QM Z (by repeat (first | exact Z | refine Zs (by first | decide | omega) ?_)) ?_
 refine Q0 Z Z ?_
 refine QM Z (by repeat (first | exact Z | refine Zs (by first | decide | omega) ?_)) ?_
 refine Qa Z (hK _ _ (QK (kp4 Z Z Z Z) ?_))
 refine Q3 fun K hK => QD (Yo) Z Z (.inl Z) (Qa Z (hK _ _ (QK (kp5 Z Z Z Z Z) ?_)))
 refine XC ?_ -- 0
 refine Q3 fun K hK => Qa Z (hK _ _ (QK (kp6 Z Z Z Z Z Z) ?_))
 refine Yx ?_
 refine QdO (ι := List UR × Int × Nat) (fun ⟨us, J, n⟩ => ⟨[(0, .ref kg 0 0), (1, .int .i64 most), (5, .sl (dStrs names5)), (6, .osl 500000 us.length), (7, .sl (versions.map dVr)), (8, .int .i64 n)], [(500000, ⟨(us).map dUR, 3, 65, false⟩), (kg, gB L (J) eg)] ++ fbx 62 (us)⟩) (fun ⟨us, J, n⟩ => UnitsIn us /\ us.length <= 1 + 2 * n /\ n <= 5 /\ 1 + n <= us.length) (fun ⟨us, J, n⟩ => 5 - n) ([u0 v0], I, 0) ?_ ?_ ?_
 ·refine Qkw (l := [0, 1, 5, 6, 7, 8]) hkg (kp6 Z Z Z Z Z Z) ?_; simp only [List.map_cons, List.map_nil, D.ren, D.renS, k1, k2]; rfl
 ·exact ⟨UnitsIn.zero, by simp, by omega, by simp⟩
 intro ⟨us, J, n⟩ hI
 try dsimp only at hI
 have e1 : ¬ kg = 500001 + us.length := by omega
 have e2 : ¬ 500000 = 500001 + us.length := by omega
 have e4 : ¬ 500001 + us.length = 500000 := by omega
 have hx0 : 0 <= nx L J most := QfT
 have hx1 : nx L J most < most := QfS (by omega)
 have hn5 := Q9
 have hv4 := QbP
 try dsimp only
 refine XC ?_ -- 1
 refine Q3 fun K hK => Qa Z (Qa Z (Qa Z ?_))
 refine Z6 (Xp (I := J) Z (by repeat (first | exact Qx | refine Qk (by omega) ?_)) hL (by omega)) ?_
 refine Za Z Z (by first | exact Qr (by omega) (by omega) | rfl) (YF Z Z (Qa Z ?_))
 refine QB (g := 26) Z (fun h1 => ?_) (fun h1 => ?_)
 ·try rw [h1]
  try simp only [qA] at h1
  refine Qi Z (Qa Z (Qi Z (Qa Z (Qi Z ?_))))
  first | refine Q5 rfl Zc ?_ | refine Q5 rfl rfl ?_
  refine Qi Z (YF Z Z (Qo Z Z (hK _ _ (QK (kp7 Z Z Z Z Z Z Z) ?_))))
  refine YA Z (fun h2 => ?_) (fun h2 => ?_)
  ·try rw [h2]
   try simp only [qA] at h2
   refine YY (Q2 (kp6 Z Z Z Z Z Z) ?_)
   refine XC ?_ -- 2
   refine Yx (Q3 fun K hK => Qa Z (hK _ _ (QK (kp7 Z Z Z Z Z Z Z) ?_)))
   refine Q3 fun K hK => Qa Z ?_
   refine Z6 (Xp (I := nxI J) Z (by repeat (first | exact Qx | refine Qk (by omega) ?_)) hL (by omega)) ?_
   refine Qa Z (hK _ _ (QK (kp8 Z Z Z Z Z Z Z Z) ?_))
   refine XC ?_ -- 3
   refine Q3 fun K hK => Qa Z (hK _ _ (QK (kp9 Z Z Z Z Z Z Z Z Z) ?_))
   refine Yx ?_
   refine QdO (ι := List CR × Nat) (fun ⟨cs, i⟩ => ⟨[(0, .ref kg 0 0), (1, .int .i64 most), (5, .sl (dStrs names5)), (6, .osl 500000 us.length), (7, .sl (versions.map dVr)), (8, .int .i64 n), (9, .osl (500001 + us.length) cs.length), (10, .int .i64 (nx L (nxI J) 16)), (11, .int .i64 i)], [(500001 + (us).length, ⟨(cs).map dCR, 8, 62, true⟩), (500000, ⟨(us).map dUR, 3, 65, false⟩), (kg, gB L (nxI (nxI J)) eg)] ++ fbx 62 (us)⟩) (fun ⟨cs, i⟩ => i <= 4 /\ CsIn i cs) (fun ⟨cs, i⟩ => 4 - i) ([], 0) ?_ ?_ ?_
   ·exact le_trans (Y2 9 (500001 + us.length) 8 62 rfl (by repeat (first | exact YS hI.1.keys (.inr (by omega)) | refine Zs (by omega) ?_))) (Qnv (l := [0, 1, 5, 6, 7, 8, 9, 10, 11]) (B := [_, _, _, _, _]) (kp9 rfl rfl rfl rfl rfl rfl rfl rfl rfl) rfl hI.1.keys (by repeat (first | exact Qx | refine Qk (by omega) ?_)) (by repeat (first | exact Qx | refine Qk (by omega) ?_)) (by repeat (first | exact Qx | refine Qk (by omega) ?_)) (by intro p hp h; simp only [List.mem_cons, List.not_mem_nil, or_false] at hp; rcases hp with rfl | rfl | rfl | rfl | rfl <;> first | (simp only at h; omega) | exact .inl rfl | exact .inr rfl) (by intro p hp k hk; simp only [List.mem_cons, List.not_mem_nil, or_false] at hp; rcases hp with rfl | rfl | rfl | rfl | rfl | rfl | rfl | rfl | rfl <;> first | (simp [D.ids, D.sid, Q7, QR, Zm] at hk; done) | (simp [D.ids, D.sid, Q7, QR, Zm] at hk; subst hk; first | exact .inl rfl | exact .inr (.inl rfl) | exact .inr (.inr (.inl rfl)) | (refine .inr (.inr (.inl ?_)); simp; done) | (first | exact .inr (.inr ⟨_, List.mem_append_right _ (List.mem_singleton.2 rfl), rfl⟩) | exact .inr (.inr (.inr ⟨_, List.mem_append_right _ (List.mem_singleton.2 rfl), rfl⟩))))))
   ·exact ⟨by omega, CsIn.nil _⟩
   intro ⟨cs, i⟩ hC
   try dsimp only at hC
   have hcl := hC.2.1
   try dsimp only
   refine XC ?_ -- 4
   refine Q3 fun K hK => Qa Z (Qa Z ?_)
   first | refine Q5 rfl Zc ?_ | refine Q5 rfl rfl ?_
   refine YF Z Z (hK _ _ (QK (Qlc Z Z Z Z Z Z Z Z Z Z) ?_))
   refine YA Z (fun h3 => ?_) (fun h3 => ?_)
   ·try rw [h3]
    try simp only [qA] at h3
    refine YY (Q2 (kp9 Z Z Z Z Z Z Z Z Z) ?_)
    refine XC ?_ -- 5
    refine Yx (Q3 fun K hK => Qa Z (Qa Z (Qfz Z (Qjw (by omega) (by omega)) (QnG Z Z (by omega) (QnB Z Z (YH Z Z (hK _ _ (QK (Qlc Z Z Z Z Z Z Z Z Z Z) ?_))))))))
    refine YA Z (fun h4 => ?_) (fun h4 => ?_)
    ·try rw [h4]
     try simp only [qA] at h4
     refine ZI fun K hK => Qa Z (Qa Z (Qa Z (QS Z Z Z (by omega) (Zj (by omega)) Z (QN (cs := [_, _, _, _, _]) Z Z Z Z (Q0 Z Z ?_)))))
     refine QM Z (by repeat (first | exact YS hI.1.keys (.inl (by omega)) | exact YS hK1.keys (.inl (by omega)) | refine Zs (by first | decide | omega) ?_)) ?_
     refine X2 (hk0 := by omega) Z Z (fun _ h => Qar Z Z Z h) (Qk (by omega) Qx) (by simp) Z Z Z (by simp; omega) (by simp; omega) (Qa Z (hK _ ?_))
     refine Qg (Q2 (kp9 Z Z Z Z Z Z Z Z Z) (ZI fun K hK => Qa Z (Za Z Z (by first | exact Qr (by omega) (by omega) | rfl) (Qa Z (hK _ ?_)))))
     refine Qj (cs ++ [zr (versions[i]'(by omega)) 0], i + 1) ?_ ?_ ?_
     ·exact le_trans (Qgr (B := [_, _, _, _, _]) (500001 + us.length) (QeK _ _)) (Qnv (l := [0, 1, 5, 6, 7, 8, 9, 10, 11]) (B := [_, _, _, _, _]) (kp9 rfl rfl rfl rfl rfl rfl rfl rfl rfl) (by simp [D.scrub, e1, e2, e3, e4] <;> omega) hI.1.keys (by rw [List.map_append]; exact Qx) (by repeat (first | exact Qx | exact Qjf (QhR hI.1.keys) | refine Qk (by omega) ?_)) (by repeat (first | exact Qx | refine Qk (by omega) ?_)) (by intro p hp h; simp only [List.mem_cons, List.not_mem_nil, or_false] at hp; rcases hp with rfl | rfl | rfl | rfl | rfl <;> first | (simp only at h; omega) | exact .inl rfl | exact .inr rfl) (by intro p hp k hk; simp only [List.mem_cons, List.not_mem_nil, or_false] at hp; rcases hp with rfl | rfl | rfl | rfl | rfl | rfl | rfl | rfl | rfl <;> first | (simp [D.ids, D.sid, Q7, QR, Zm] at hk; done) | (simp [D.ids, D.sid, Q7, QR, Zm] at hk; subst hk; first | exact .inl rfl | exact .inr (.inl rfl) | exact .inr (.inr (.inl rfl)) | (refine .inr (.inr (.inl ?_)); simp; done) | (first | exact .inr (.inr ⟨_, List.mem_append_right _ (List.mem_singleton.2 rfl), rfl⟩) | exact .inr (.inr (.inr ⟨_, List.mem_append_right _ (List.mem_singleton.2 rfl), rfl⟩))))))
     ·try dsimp only
      exact ⟨by omega, hC.2.snoc (Qk4 (by omega))⟩
     ·show 4 - (i + 1) < 4 - i; omega
    ·try rw [h4]
     try simp only [qA] at h4
     refine YY (Qg (Q2 (kp9 Z Z Z Z Z Z Z Z Z) (ZI fun K hK => Qa Z (Za Z Z (by first | exact Qr (by omega) (by omega) | rfl) (Qa Z (hK _ ?_))))))
     refine Qj (cs, i + 1) ?_ ?_ ?_
     ·exact Qnv (l := [0, 1, 5, 6, 7, 8, 9, 10, 11]) (B := [_, _, _]) (kp9 rfl rfl rfl rfl rfl rfl rfl rfl rfl) rfl hI.1.keys (by repeat (first | exact Qx | refine Qk (by omega) ?_)) (by repeat (first | exact Qx | refine Qk (by omega) ?_)) (by repeat (first | exact Qx | refine Qk (by omega) ?_)) (by intro p hp h; simp only [List.mem_cons, List.not_mem_nil, or_false] at hp; rcases hp with rfl | rfl | rfl <;> first | (simp only at h; omega) | exact .inl rfl | exact .inr rfl) (by intro p hp k hk; simp only [List.mem_cons, List.not_mem_nil, or_false] at hp; rcases hp with rfl | rfl | rfl | rfl | rfl | rfl | rfl | rfl | rfl <;> first | (simp [D.ids, D.sid, Q7, QR, Zm] at hk; done) | (simp [D.ids, D.sid, Q7, QR, Zm] at hk; subst hk; first | exact .inl rfl | exact .inr (.inl rfl) | exact .inr (.inr (.inl rfl)) | (refine .inr (.inr (.inl ?_)); simp; done) | (first | exact .inr (.inr ⟨_, List.mem_append_right _ (List.mem_singleton.2 rfl), rfl⟩) | exact .inr (.inr (.inr ⟨_, List.mem_append_right _ (List.mem_singleton.2 rfl), rfl⟩)))))
     ·try dsimp only
      exact ⟨by omega, hC.2.keep⟩
     ·show 4 - (i + 1) < 4 - i; omega
   ·try rw [h3]
    try simp only [qA] at h3
    refine Qcd (Y6 (Qv (QC (Q2 (kp7 Z Z Z Z Z Z Z) (Q3 fun K hK => Qa Z (Qa Z (Qa Z (QS Z Z Z (by omega) (Zj (by omega)) Z (QE Z Z Z (Qa Z ?_))))))))))
    refine Q0 Z Z ?_
    refine QM Z (by repeat (first | exact YS hI.1.keys (.inl (by omega)) | exact YS hK1.keys (.inl (by omega)) | refine Zs (by first | decide | omega) ?_)) ?_
    refine Qh4 (hk0 := by decide) Z Z (fun _ h => Qar Z Z Z h) (Qk (by omega) (Qk (by omega) Qx)) (by simp) Z Z (.inr (Qju hI.1.keys (by omega))) (by simp; omega) (by simp; omega) (Qa Z (hK _ _ (QK (kp7 Z Z Z Z Z Z Z) ?_)))
    have hc4 : CsIn 4 cs := ⟨by omega, hC.2.2⟩
    refine QjZ (le_trans (Qgr (B := [_, _, _, _, _]) 500000 (QeK _ _)) (Qob (u := (UR.mk (names5[n]'(by have := Q9; omega)) [] (500001 + us.length) cs)) (l := [0, 1, 5, 6, 7, 8, 9]) (fr' := [(0, .ref kg 0 0), (1, .int .i64 most), (5, .sl (dStrs names5)), (6, .osl 500000 (us ++ [(UR.mk (names5[n]'(by have := Q9; omega)) [] (500001 + us.length) cs)]).length), (7, .sl (versions.map dVr)), (8, .int .i64 n), (9, .osl (500001 + us.length) cs.length)]) (B := [_, _, _, _, _]) (kp7 rfl rfl rfl rfl rfl rfl rfl) (by simp [D.scrub, e1, e2, e3, e4]) hI.1.keys rfl (by repeat (first | exact Qx | refine Qk (by omega) ?_)) (by rw [List.map_append]; exact Qx) (by repeat (first | exact Qx | refine Qk (by omega) ?_)) (by intro p hp h; simp only [List.mem_cons, List.not_mem_nil, or_false] at hp; rcases hp with rfl | rfl | rfl | rfl | rfl <;> first | (simp only at h; omega) | exact .inl rfl | exact .inr rfl) hkg (by omega) (by intro p hp k hk; simp only [List.mem_cons, List.not_mem_nil, or_false] at hp; rcases hp with rfl | rfl | rfl | rfl | rfl | rfl | rfl <;> first | (simp [D.ids, D.sid, Q7, QR, Zm] at hk; done) | (simp [D.ids, D.sid, Q7, QR, Zm] at hk; subst hk; first | exact .inl rfl | exact .inr (.inl rfl) | (first | exact .inr (.inr ⟨_, List.mem_append_right _ (List.mem_singleton.2 rfl), rfl⟩) | exact .inr (.inr (.inr ⟨_, List.mem_append_right _ (List.mem_singleton.2 rfl), rfl⟩))))))) ?_
    have hK1 := hI.1.snoc (n := (names5[n]'(by have := Q9; omega))) (f := []) hc4.1 hc4.2
    have hl1 : (us ++ [(UR.mk (names5[n]'(by have := Q9; omega)) [] (500001 + us.length) cs)]).length = us.length + 1 := by simp
    have f1 : ¬ kg = 500001 + (us ++ [(UR.mk (names5[n]'(by have := Q9; omega)) [] (500001 + us.length) cs)]).length := by omega
    have f2 : ¬ 500000 = 500001 + (us ++ [(UR.mk (names5[n]'(by have := Q9; omega)) [] (500001 + us.length) cs)]).length := by omega
    have f4 : ¬ 500001 + (us ++ [(UR.mk (names5[n]'(by have := Q9; omega)) [] (500001 + us.length) cs)]).length = 500000 := by omega
    have f5 : ¬ 500001 + us.length = 500001 + (us ++ [(UR.mk (names5[n]'(by have := Q9; omega)) [] (500001 + us.length) cs)]).length := by omega
    refine Q3 fun K hK => Qa Z (YF Z Z (Qa Z ?_))
    refine QB (g := 67) Z (fun h5 => ?_) (fun h5 => ?_)
    ·try rw [h5]
     try simp only [qA] at h5
     refine Qi Z (Qa Z (Qi Z ?_))
     refine Z6 (Xp (I := nxI (nxI J)) Z (by repeat (first | exact Qx | refine Qk (by omega) ?_)) hL (by omega)) ?_
     refine Qi Z (YH Z Z (Qo Z Z (hK _ _ (QK (kp8 Z Z Z Z Z Z Z Z) ?_))))
     refine YA Z (fun h6 => ?_) (fun h6 => ?_)
     ·try rw [h6]
      try simp only [qA] at h6
      refine Q3 fun K hK => Qa Z (hK _ _ (QK (kp8 Z Z Z Z Z Z Z Z) ?_))
      refine XC ?_ -- 6
      refine Q3 fun K hK => Qa Z (hK _ _ (QK (kp9 Z Z Z Z Z Z Z Z Z) ?_))
      refine Yx ?_
      refine QdO (ι := List CR × Nat × Int) (fun ⟨c2, m, J3⟩ => ⟨[(0, .ref kg 0 0), (1, .int .i64 most), (5, .sl (dStrs names5)), (6, .osl 500000 (us ++ [(UR.mk (names5[n]'(by have := Q9; omega)) [] (500001 + us.length) cs)]).length), (7, .sl (versions.map dVr)), (8, .int .i64 n), (9, .osl (500001 + us.length) cs.length), (12, .osl (500001 + (us ++ [(UR.mk (names5[n]'(by have := Q9; omega)) [] (500001 + us.length) cs)]).length) c2.length), (13, .int .i64 m)], [(500001 + (us ++ [(UR.mk (names5[n]'(by have := Q9; omega)) [] (500001 + us.length) cs)]).length, ⟨(c2).map dCR, 8, 62, true⟩), (500000, ⟨(us ++ [(UR.mk (names5[n]'(by have := Q9; omega)) [] (500001 + us.length) cs)]).map dUR, 3, 65, false⟩), (kg, gB L (J3) eg)] ++ fbx 62 (us ++ [(UR.mk (names5[n]'(by have := Q9; omega)) [] (500001 + us.length) cs)])⟩) (fun ⟨c2, m, J3⟩ => m <= cs.length /\ CsIn m c2) (fun ⟨c2, m, J3⟩ => cs.length - m) ([], 0, nxI (nxI (nxI J))) ?_ ?_ ?_
      ·exact le_trans (Y2 12 (500001 + (us ++ [(UR.mk (names5[n]'(by have := Q9; omega)) [] (500001 + us.length) cs)]).length) 8 62 rfl (by repeat (first | exact YS hK1.keys (.inr (by omega)) | refine Zs (by omega) ?_))) (Qnv (l := [0, 1, 5, 6, 7, 8, 9, 12, 13]) (B := [_, _, _, _]) (kp9 rfl rfl rfl rfl rfl rfl rfl rfl rfl) rfl hK1.keys (by repeat (first | exact Qx | refine Qk (by omega) ?_)) (by repeat (first | exact Qx | refine Qk (by omega) ?_)) (by repeat (first | exact Qx | refine Qk (by omega) ?_)) (by intro p hp h; simp only [List.mem_cons, List.not_mem_nil, or_false] at hp; rcases hp with rfl | rfl | rfl | rfl <;> first | (simp only at h; omega) | exact .inl rfl | exact .inr rfl) (by intro p hp k hk; simp only [List.mem_cons, List.not_mem_nil, or_false] at hp; rcases hp with rfl | rfl | rfl | rfl | rfl | rfl | rfl | rfl | rfl <;> first | (simp [D.ids, D.sid, Q7, QR, Zm] at hk; done) | (simp [D.ids, D.sid, Q7, QR, Zm] at hk; subst hk; first | exact .inl rfl | exact .inr (.inl rfl) | exact .inr (.inr (.inl rfl)) | (refine .inr (.inr (.inl ?_)); simp; done) | (first | exact .inr (.inr ⟨_, List.mem_append_right _ (List.mem_singleton.2 rfl), rfl⟩) | exact .inr (.inr (.inr ⟨_, List.mem_append_right _ (List.mem_singleton.2 rfl), rfl⟩))))))
      ·exact ⟨by omega, CsIn.nil _⟩
      intro ⟨c2, m, J3⟩ hM
      try dsimp only at hM
      have hcl2 := hM.2.1
      try dsimp only
      refine XC ?_ -- 7
      refine Q3 fun K hK => Qa Z (Qa Z ?_)
      first | refine Q5 rfl Zc ?_ | refine Q5 rfl rfl ?_
      refine YF Z Z (hK _ _ (QK (Qlc Z Z Z Z Z Z Z Z Z Z) ?_))
      refine YA Z (fun h7 => ?_) (fun h7 => ?_)
      ·try rw [h7]
       try simp only [qA] at h7
       refine YY (Q2 (kp9 Z Z Z Z Z Z Z Z Z) ?_)
       refine XC ?_ -- 8
       refine Yx (Q3 fun K hK => Qa Z ?_)
       refine Z6 (Xp (I := J3) Z (by repeat (first | exact Qx | refine Qk (by omega) ?_)) hL (by omega)) ?_
       refine Qcc Z Z (hK _ _ (QK (Qlc Z Z Z Z Z Z Z Z Z Z) ?_))
       refine YA Z (fun h8 => ?_) (fun h8 => ?_)
       ·try rw [h8]
        try simp only [qA] at h8
        refine ZI fun K hK => Qa Z (Qa Z (Qa Z (YR Z Z (Qk (by omega) (Qk (by omega) (Qk (by omega) (Qk (by omega) (Qgg (u := (UR.mk (names5[n]'(by have := Q9; omega)) [] (500001 + us.length) cs)) hI.1.keys Z))))) (by simp) (by omega) (by omega) Z (Qm Z (Zq (Qk (by omega) (Qk (by omega) (Qk (by omega) (Qk (by omega) (Qgg (u := (UR.mk (names5[n]'(by have := Q9; omega)) [] (500001 + us.length) cs)) hI.1.keys Z)))))) (QN (cs := [_, _, _, _, _]) Z (Ye (Qk (by omega) (Qk (by omega) (Qk (by omega) (Qk (by omega) (Qgg (u := (UR.mk (names5[n]'(by have := Q9; omega)) [] (500001 + us.length) cs)) hI.1.keys Z))))) (Zj (l := cs) (by omega))) Z Z (Q0 Z Z ?_))))))
        refine QM Z (by repeat (first | exact YS hI.1.keys (.inl (by omega)) | exact YS hK1.keys (.inl (by omega)) | refine Zs (by first | decide | omega) ?_)) ?_
        refine X2 (hk0 := by omega) Z Z (fun _ h => Qar Z Z Z h) (Qk (by omega) (Qk (by omega) Qx)) (by simp) Z Z Z (by simp; omega) (by simp; omega) (Qa Z (hK _ ?_))
        refine Qg (Q2 (kp9 Z Z Z Z Z Z Z Z Z) (ZI fun K hK => Qa Z (Za Z Z (by first | exact Qr (by omega) (by omega) | rfl) (Qa Z (hK _ ?_)))))
        refine Qj (c2 ++ [zr (cs[m]'(by omega)).v 0], m + 1, nxI J3) ?_ ?_ ?_
        ·exact le_trans (Qgr (B := [_, _, _, _, _, _]) (500001 + (us ++ [(UR.mk (names5[n]'(by have := Q9; omega)) [] (500001 + us.length) cs)]).length) (QeK _ _)) (Qnv (l := [0, 1, 5, 6, 7, 8, 9, 12, 13]) (B := [_, _, _, _, _, _]) (kp9 rfl rfl rfl rfl rfl rfl rfl rfl rfl) (by simp [D.scrub, f1, f2, f4, f5] <;> omega) hK1.keys (by rw [QmS (cs := c2)]; exact Qx) (by repeat (first | exact Qx | exact Qjf (QhR hK1.keys) | refine Qk (by omega) ?_)) (by repeat (first | exact Qx | refine Qk (by omega) ?_)) (by intro p hp h; simp only [List.mem_cons, List.not_mem_nil, or_false] at hp; rcases hp with rfl | rfl | rfl | rfl | rfl | rfl <;> first | (simp only at h; omega) | exact .inl rfl | exact .inr rfl) (by intro p hp k hk; simp only [List.mem_cons, List.not_mem_nil, or_false] at hp; rcases hp with rfl | rfl | rfl | rfl | rfl | rfl | rfl | rfl | rfl <;> first | (simp [D.ids, D.sid, Q7, QR, Zm] at hk; done) | (simp [D.ids, D.sid, Q7, QR, Zm] at hk; subst hk; first | exact .inl rfl | exact .inr (.inl rfl) | exact .inr (.inr (.inl rfl)) | (refine .inr (.inr (.inl ?_)); simp; done) | (first | exact .inr (.inr ⟨_, List.mem_append_right _ (List.mem_singleton.2 rfl), rfl⟩) | exact .inr (.inr (.inr ⟨_, List.mem_append_right _ (List.mem_singleton.2 rfl), rfl⟩))))))
        ·try dsimp only
         exact ⟨by omega, hM.2.snoc (hC.2.at (by omega))⟩
        ·show cs.length - (m + 1) < cs.length - m; omega
       ·try rw [h8]
        try simp only [qA] at h8
        refine YY (Qg (Q2 (kp9 Z Z Z Z Z Z Z Z Z) (ZI fun K hK => Qa Z (Za Z Z (by first | exact Qr (by omega) (by omega) | rfl) (Qa Z (hK _ ?_))))))
        refine Qj (c2, m + 1, nxI J3) ?_ ?_ ?_
        ·exact Qnv (l := [0, 1, 5, 6, 7, 8, 9, 12, 13]) (B := [_, _, _, _]) (kp9 rfl rfl rfl rfl rfl rfl rfl rfl rfl) rfl hK1.keys (by repeat (first | exact Qx | refine Qk (by omega) ?_)) (by repeat (first | exact Qx | refine Qk (by omega) ?_)) (by repeat (first | exact Qx | refine Qk (by omega) ?_)) (by intro p hp h; simp only [List.mem_cons, List.not_mem_nil, or_false] at hp; rcases hp with rfl | rfl | rfl | rfl <;> first | (simp only at h; omega) | exact .inl rfl | exact .inr rfl) (by intro p hp k hk; simp only [List.mem_cons, List.not_mem_nil, or_false] at hp; rcases hp with rfl | rfl | rfl | rfl | rfl | rfl | rfl | rfl | rfl <;> first | (simp [D.ids, D.sid, Q7, QR, Zm] at hk; done) | (simp [D.ids, D.sid, Q7, QR, Zm] at hk; subst hk; first | exact .inl rfl | exact .inr (.inl rfl) | exact .inr (.inr (.inl rfl)) | (refine .inr (.inr (.inl ?_)); simp; done) | (first | exact .inr (.inr ⟨_, List.mem_append_right _ (List.mem_singleton.2 rfl), rfl⟩) | exact .inr (.inr (.inr ⟨_, List.mem_append_right _ (List.mem_singleton.2 rfl), rfl⟩)))))
        ·try dsimp only
         exact ⟨by omega, hM.2.keep⟩
        ·show cs.length - (m + 1) < cs.length - m; omega
      ·try rw [h7]
       try simp only [qA] at h7
       refine Qcd (Y6 (Qv (QC (Q2 (kp7 Z Z Z Z Z Z Z) (ZI fun K hK => Qa Z (Qa Z (Qa Z (QS Z Z Z (by omega) (Zj (by omega)) Z (QE Z Z Z (Qa Z ?_))))))))))
       refine Q0 Z Z ?_
       refine QM Z (by repeat (first | exact YS hI.1.keys (.inl (by omega)) | exact YS hK1.keys (.inl (by omega)) | refine Zs (by first | decide | omega) ?_)) ?_
       refine Qh4 (hk0 := by decide) Z Z (fun _ h => Qar Z Z Z h) (Qk (by omega) (Qk (by omega) Qx)) (by simp) Z Z (.inr (Qju hK1.keys (by omega))) (by simp; omega) (by simp; omega) (Qa Z (hK _ ?_))
       refine Qg (Q2 (kp6 Z Z Z Z Z Z) (ZI fun K hK => Qa Z (Za Z Z (by first | exact Qr (by omega) (by omega) | rfl) (Qa Z (hK _ ?_)))))
       refine Qj (us ++ [(UR.mk (names5[n]'(by have := Q9; omega)) [] (500001 + us.length) cs)] ++ [(UR.mk (names5[n]'(by have := Q9; omega)) [102] (500001 + (us ++ [(UR.mk (names5[n]'(by have := Q9; omega)) [] (500001 + us.length) cs)]).length) c2)], J3, n + 1) ?_ ?_ ?_
       ·exact le_trans (Qgr (B := [_, _, _, _, _]) 500000 (QeK _ _)) (Qob (u := (UR.mk (names5[n]'(by have := Q9; omega)) [102] (500001 + (us ++ [(UR.mk (names5[n]'(by have := Q9; omega)) [] (500001 + us.length) cs)]).length) c2)) (l := [0, 1, 5, 6, 7, 8]) (B := [_, _, _, _, _]) (kp6 rfl rfl rfl rfl rfl rfl) (by simp [D.scrub, f1, f2, e3, f4, e4] <;> omega) hK1.keys rfl (by repeat (first | exact Qx | refine Qk (by omega) ?_)) (by rw [Qnj (u := (UR.mk (names5[n]'(by have := Q9; omega)) [102] (500001 + (us ++ [(UR.mk (names5[n]'(by have := Q9; omega)) [] (500001 + us.length) cs)]).length) c2))]; exact Qx) (by repeat (first | exact Qx | refine Qk (by omega) ?_)) (by intro p hp h; simp only [List.mem_cons, List.not_mem_nil, or_false] at hp; rcases hp with rfl | rfl | rfl | rfl | rfl <;> first | (simp only at h; omega) | exact .inl rfl | exact .inr rfl) hkg (by omega) (by intro p hp k hk; simp only [List.mem_cons, List.not_mem_nil, or_false] at hp; rcases hp with rfl | rfl | rfl | rfl | rfl | rfl <;> first | (simp [D.ids, D.sid, Q7, QR, Zm] at hk; done) | (simp [D.ids, D.sid, Q7, QR, Zm] at hk; subst hk; first | exact .inl rfl | exact .inr (.inl rfl) | (first | exact .inr (.inr ⟨_, List.mem_append_right _ (List.mem_singleton.2 rfl), rfl⟩) | exact .inr (.inr (.inr ⟨_, List.mem_append_right _ (List.mem_singleton.2 rfl), rfl⟩))))))
       ·try dsimp only
        exact ⟨hK1.snoc (by omega) hM.2.2, by simp; omega, by omega, by simp; omega⟩
       ·show 5 - (n + 1) < 5 - n; omega
     ·try rw [h6]
      try simp only [qA] at h6
      refine YY (Qg (Q2 (kp6 Z Z Z Z Z Z) (ZI fun K hK => Qa Z (Za Z Z (by first | exact Qr (by omega) (by omega) | rfl) (Qa Z (hK _ ?_))))))
      refine Qj (us ++ [(UR.mk (names5[n]'(by have := Q9; omega)) [] (500001 + us.length) cs)], nxI (nxI (nxI J)), n + 1) ?_ ?_ ?_
      ·exact Qo8 (l := [0, 1, 5, 6, 7, 8]) (B := [_, _, _]) (kp6 rfl rfl rfl rfl rfl rfl) rfl hK1.keys (by repeat (first | exact Qx | refine Qk (by omega) ?_)) (by repeat (first | exact Qx | refine Qk (by omega) ?_)) (by intro p hp h; simp only [List.mem_cons, List.not_mem_nil, or_false] at hp; rcases hp with rfl | rfl | rfl <;> first | (simp only at h; omega) | rfl) (by omega) (by intro p hp k hk; simp only [List.mem_cons, List.not_mem_nil, or_false] at hp; rcases hp with rfl | rfl | rfl | rfl | rfl | rfl <;> first | (simp [D.ids, D.sid, Q7, QR, Zm] at hk; done) | (simp [D.ids, D.sid, Q7, QR, Zm] at hk; subst hk; first | exact .inl rfl | exact .inr (.inl rfl) | (first | exact .inr (.inr ⟨_, List.mem_append_right _ (List.mem_singleton.2 rfl), rfl⟩) | exact .inr (.inr (.inr ⟨_, List.mem_append_right _ (List.mem_singleton.2 rfl), rfl⟩)))))
      ·try dsimp only
       exact ⟨hK1, by simp; omega, by omega, by simp; omega⟩
      ·show 5 - (n + 1) < 5 - n; omega
    ·try rw [h5]
     try simp only [qA] at h5
     refine Qz Z (Qz Z (Qz Z (Qo Z Z (hK _ _ (QK (kp8 Z Z Z Z Z Z Z Z) ?_)))))
     refine Qh5 Z (YY (Qg (Q2 (kp6 Z Z Z Z Z Z) (ZI fun K hK => Qa Z (Za Z Z (by first | exact Qr (by omega) (by omega) | rfl) (Qa Z (hK _ ?_)))))))
     refine Qj (us ++ [(UR.mk (names5[n]'(by have := Q9; omega)) [] (500001 + us.length) cs)], nxI (nxI J), n + 1) ?_ ?_ ?_
     ·exact Qo8 (l := [0, 1, 5, 6, 7, 8]) (B := [_, _]) (kp6 rfl rfl rfl rfl rfl rfl) rfl hK1.keys (by repeat (first | exact Qx | refine Qk (by omega) ?_)) (by repeat (first | exact Qx | refine Qk (by omega) ?_)) (by intro p hp h; simp only [List.mem_cons, List.not_mem_nil, or_false] at hp; rcases hp with rfl | rfl <;> first | (simp only at h; omega) | rfl) (by omega) (by intro p hp k hk; simp only [List.mem_cons, List.not_mem_nil, or_false] at hp; rcases hp with rfl | rfl | rfl | rfl | rfl | rfl <;> first | (simp [D.ids, D.sid, Q7, QR, Zm] at hk; done) | (simp [D.ids, D.sid, Q7, QR, Zm] at hk; subst hk; first | exact .inl rfl | exact .inr (.inl rfl) | (first | exact .inr (.inr ⟨_, List.mem_append_right _ (List.mem_singleton.2 rfl), rfl⟩) | exact .inr (.inr (.inr ⟨_, List.mem_append_right _ (List.mem_singleton.2 rfl), rfl⟩)))))
     ·try dsimp only
      exact ⟨hK1, by simp; omega, by omega, by simp; omega⟩
     ·show 5 - (n + 1) < 5 - n; omega
  ·try rw [h2]
   try simp only [qA] at h2
   refine Qcd (Y6 (Qv (QC (Q2 (kp1 Z) (Q3 fun K hK => Qa Z (Qa Z (hK _ _ (QK (kp1 Z) ?_))))))))
   refine Qfi ?_
   refine ⟨.osl 500000 us.length, ((500000, ⟨us.map dUR, 3, 65, false⟩) :: fbx 62 us) ++ [(kg, gB L (nxI J) eg), (kg, gB L I eg)], ⟨us, _, ⟨hI.1, by omega, by omega⟩, rfl, rfl⟩, (QaO (g3 := gB L J eg) hI.1.keys hkg Z Z (by omega)).1, (QaO (g3 := gB L J eg) hI.1.keys hkg Z Z (by omega)).2.1, Qaa Z Z (QaO (g3 := gB L J eg) hI.1.keys hkg Z Z (by omega)).2.2⟩
 ·try rw [h1]
  try simp only [qA] at h1
  refine Qz Z (Qz Z (Qz Z (Qz Z (Qo Z Z (hK _ _ (QK (kp7 Z Z Z Z Z Z Z) ?_))))))
  refine Qh5 Z (Qcd (Y6 (Qv (QC (Q2 (kp1 Z) (Q3 fun K hK => Qa Z (Qa Z (hK _ _ (QK (kp1 Z) ?_)))))))))
  refine Qfi ?_
  refine ⟨.osl 500000 us.length, ((500000, ⟨us.map dUR, 3, 65, false⟩) :: fbx 62 us) ++ [(kg, gB L (nxI J) eg), (kg, gB L I eg)], ⟨us, _, ⟨hI.1, by omega, by omega⟩, rfl, rfl⟩, (QaO (g3 := gB L J eg) hI.1.keys hkg Z Z (by omega)).1, (QaO (g3 := gB L J eg) hI.1.keys hkg Z Z (by omega)).2.1, Qaa Z Z (QaO (g3 := gB L J eg) hI.1.keys hkg Z Z (by omega)).2.2⟩
end Go.Proofs
