/- Part 4 of the means of the proof: a verified abstract evaluator, the prepared functions, and contracts of functions. It states nothing of the claim by itself. -/
import Derived.Test.YtaclbcdfaokmjaaDoorB3
set_option maxRecDepth 4000
set_option linter.unusedSimpArgs false
set_option linter.unusedVariables false
namespace Go.Proofs
open Go Go.Abs M3
set_option linter.unusedVariables false
set_option linter.unusedSimpArgs false
theorem Qau {s : List UInt8} (hl : s.length <= 1000000) : Ok Tryd.prog 96 [.str s] (.tup [.int .i64 (Yb s).1, .bool (Yb s).2]) := by
 refine Ok.ofT Z5 Tryd.func96 QrW (Nat.le_of_ble_eq_true Z) ?_
 show TW _ _ tf96.body _ _
 refine Qe fun K hK => Qb Z (Qb Z (hK _ _ (Qa (kp1 Z) ?_)))
 refine Qky (ι := Unit) (fun _u => ⟨[(0, .str s)], []⟩) (fun _u => ¬ (s = [] \/ 4 < s.length \/ (1 < s.length /\ s.head? = some 48))) ?_ ?_
 ·skip
  refine Qe fun K hK => Qb Z (Qb9 Z Z (Qb Z ?_))
  refine Qv (g := 9) Z (fun h1 => ?_) (fun h1 => ?_)
  ·try rw [h1]
   try simp only [qB, Bool.and_eq_true, Bool.and_eq_false_iff, decide_eq_true_eq] at h1
   refine Qq Z (Qq Z (Qq Z (Qi Z Z (Qb Z (Qq Z (Qq Z (Qq Z (Qq Z (QI Z (QI Z (QI Z ?_)))))))))))
   refine Qq Z (Qi Z Z (hK _ _ (Qa (kp2 Z Z) ?_)))
   refine Zl Z (Qe fun K hK => Qb Z (Qb Z (hK _ _ (Qa (kp2 Z Z) ?_))))
   refine Qr (Qb0 (ZR Z Z ?_))
   first | (rw [Qar (s := s) (by first | (left; assumption) | (right; omega))]; exact ⟨rfl, rfl⟩) | (rw [Yw (s := s) (by omega) (by assumption)]; exact ⟨rfl, rfl⟩) | (rw [Xl (s := s) (i := i) (by omega) (by simp [Yj]; omega)]; exact ⟨rfl, rfl⟩) | (rw [QbM (s := s) (i := i) hJ (by omega) hI.2.1]; exact ⟨rfl, by simp [Qae, D.fz, D.fzS, D.can, D.canS]; omega⟩)
  ·try rw [h1]
   try simp only [qB, Bool.and_eq_true, Bool.and_eq_false_iff, decide_eq_true_eq] at h1
   refine Qg Z (Qb Z (Qg Z (Yk Z (Qg Z (Qdy Z Z (Qi Z Z (Qb Z ?_)))))))
   refine Qv (g := 14) Z (fun h2 => ?_) (fun h2 => ?_)
   ·try rw [h2]
    try simp only [qB, Bool.and_eq_true, Bool.and_eq_false_iff, decide_eq_true_eq] at h2
    refine Qq Z (Qq Z (Qq Z (Qq Z (QI Z (QI Z (QI Z (Qq Z (Qi Z Z (hK _ _ (Qa (kp2 Z Z) ?_))))))))))
    refine Zl Z (Qe fun K hK => Qb Z (Qb Z (hK _ _ (Qa (kp2 Z Z) ?_))))
    refine Qr (Qb0 (ZR Z Z ?_))
    first | (rw [Qar (s := s) (by first | (left; assumption) | (right; omega))]; exact ⟨rfl, rfl⟩) | (rw [Yw (s := s) (by omega) (by assumption)]; exact ⟨rfl, rfl⟩) | (rw [Xl (s := s) (i := i) (by omega) (by simp [Yj]; omega)]; exact ⟨rfl, rfl⟩) | (rw [QbM (s := s) (i := i) hJ (by omega) hI.2.1]; exact ⟨rfl, by simp [Qae, D.fz, D.fzS, D.can, D.canS]; omega⟩)
   ·try rw [h2]
    try simp only [qB, Bool.and_eq_true, Bool.and_eq_false_iff, decide_eq_true_eq] at h2
    refine Qg Z (Qb Z (Qg Z (Ye Z Z (by omega) (QbC (i := 0) (List.length_pos_iff.2 (by assumption))) (Qg Z (YH Z Z (Qg Z (Qb Z ?_)))))))
    refine Qv (g := 18) Z (fun h3 => ?_) (fun h3 => ?_)
    ·try rw [h3]
     try simp only [qB, Bool.and_eq_true, Bool.and_eq_false_iff, decide_eq_true_eq] at h3
     refine Qg Z (Qb Z (Qg Z (Yk Z (Qg Z (Qdy Z Z (Qg Z (Qi Z Z (Qi Z Z (hK _ _ (Qa (kp2 Z Z) ?_))))))))))
     refine QA Z (fun h4 => ?_) (fun h4 => ?_)
     ·try rw [h4]
      try simp only [qB, Bool.and_eq_true, Bool.and_eq_false_iff, decide_eq_true_eq] at h4
      refine Qe fun K hK => Qb Z (Qb Z (hK _ _ (Qa (kp2 Z Z) ?_)))
      refine Qr (Qb0 (ZR Z Z ?_))
      first | (rw [Qar (s := s) (by first | (left; assumption) | (right; omega))]; exact ⟨rfl, rfl⟩) | (rw [Yw (s := s) (by omega) (by assumption)]; exact ⟨rfl, rfl⟩) | (rw [Xl (s := s) (i := i) (by omega) (by simp [Yj]; omega)]; exact ⟨rfl, rfl⟩) | (rw [QbM (s := s) (i := i) hJ (by omega) hI.2.1]; exact ⟨rfl, by simp [Qae, D.fz, D.fzS, D.can, D.canS]; omega⟩)
     ·try rw [h4]
      try simp only [qB, Bool.and_eq_true, Bool.and_eq_false_iff, decide_eq_true_eq] at h4
      refine Qy ?_
      refine Xr () ?_ ?_
      ·exact Q7 (kp1 rfl)
      ·rintro (q | q | q) <;> first | (simp_all; done) | omega | exact QgF (s := s) (by omega) (by assumption) q.2
    ·try rw [h3]
     try simp only [qB, Bool.and_eq_true, Bool.and_eq_false_iff, decide_eq_true_eq] at h3
     refine Qq Z (Qq Z (Qq Z (Qg Z (Qi Z Z (Qi Z Z (hK _ _ (Qa (kp2 Z Z) ?_)))))))
     refine ZD Z (Qy ?_)
     refine Xr () ?_ ?_
     ·exact Q7 (kp1 rfl)
     ·rintro (q | q | q) <;> first | (simp_all; done) | omega | exact QgF (s := s) (by omega) (by assumption) q.2
 intro _u hJ
 try dsimp only
 refine Qe fun K hK => Qb Z (hK _ _ (Qa (kp2 Z Z) ?_))
 refine QG ?_ -- 1
 refine Qe fun K hK => Qb Z (Qkw Z Z (hK _ _ (Qa (kp2 Z Z) ?_)))
 refine QK ?_
 refine Z0 (ι := Nat) (fun i => ⟨[(4, .int .i64 (val (s.take i))), (25, .ref 25 0 0)], [(25, ⟨[], 0, Zo s i, false⟩)]⟩) (fun i => i <= s.length /\ (s.take i).all Yj = true /\ s.length <= 4 /\ 0 < s.length) (fun i => s.length - i) 0 ?_ ?_ ?_
 ·exact Zw (l := [4, 25]) (lH := [25]) (kp2 rfl rfl) (Qu rfl QB) (by simp [val]) rfl rfl
 ·exact ⟨Nat.zero_le _, rfl, Nat.le_of_not_lt fun h => hJ (.inr (.inl h)), List.length_pos_iff.2 fun h => hJ (.inl h)⟩
 intro i hI
 have hv := Ql0 (s := s.take i) hI.2.1
 have hp : 10 ^ (s.take i).length <= 10 ^ 4 := Nat.pow_le_pow_right (by omega) (by simp; omega)
 have hI1 := hI.1
 have hI3 := hI.2.2.1
 try dsimp only
 refine Qe fun K hK => ?_
 rcases Nat.lt_or_ge (i) (s).length with h5 | h5
 ·rcases Nat.lt_or_ge (((s)[i]).toNat) 128 with h6 | h6
  ·refine Qje Z Z h5 (QhB h5 h6) (Zd Z Z (hK _ _ (Qa (kp4 Z Z Z Z) ?_)))
   refine QG ?_ -- 2
   refine Zl Z (Qy (Qf (kp3 Z Z Z) (QK (Qe fun K hK => Zd Z Z (Qb Z (hK _ _ (Qa (kp3 Z Z Z) ?_)))))))
   refine QK (Qe fun K hK => Qb Z (Qjd Z Z (Qb Z ?_)))
   refine Qv (g := 32) Z (fun h7 => ?_) (fun h7 => ?_)
   ·try rw [h7]
    try simp only [qB, Bool.and_eq_true, Bool.and_eq_false_iff, decide_eq_true_eq] at h7
    refine Qg Z (Qb Z (Qg Z (Qmc Z Z (Qi Z Z (Qb Z (hK _ _ (Qa (kp4 Z Z Z Z) ?_)))))))
    refine QA Z (fun h8 => ?_) (fun h8 => ?_)
    ·try rw [h8]
     try simp only [qB, Bool.and_eq_true, Bool.and_eq_false_iff, decide_eq_true_eq] at h8
     refine Zb fun K hK => Qb Z (Qkv Z Z (by first | exact Qt (by omega) (by omega) | exact QX (by omega) (by omega) | exact Za (by omega) (by omega) | rfl) (Qb Z (Qct Z Z (by first | exact Qt (by omega) (by omega) | exact QX (by omega) (by omega) | exact Za (by omega) (by omega) | rfl) (Qhk Z (by first | exact Qt (by omega) (by omega) | exact QX (by omega) (by omega) | exact Za (by omega) (by omega) | rfl) (Zh Z Z (by first | exact Qt (by omega) (by omega) | exact QX (by omega) (by omega) | exact Za (by omega) (by omega) | rfl) (Qb Z (hK _ ?_)))))))
     refine Qk (Qk ?_)
     refine Qp (i + 1) ?_ ?_ ?_
     ·first | exact Zw (l := [4, 25]) (lH := [25]) (kp2 rfl rfl) (Qu rfl QB) rfl rfl rfl | exact Zw (l := [4, 25]) (lH := [25]) (kp2 rfl rfl) (Qu rfl QB) (by rw [Qew (by omega)]; simp; omega) rfl rfl | (exfalso; omega)
     ·first | exact ⟨by omega, Zc (by omega) hI.2.1 (by simp [Yj]; omega), hI.2.2⟩ | (exfalso; omega)
     ·first | omega | (simp only; omega) | (dsimp only; omega)
    ·try rw [h8]
     try simp only [qB, Bool.and_eq_true, Bool.and_eq_false_iff, decide_eq_true_eq] at h8
     refine Qe fun K hK => Qb Z (Qb Z (hK _ _ (Qa (kp2 Z Z) ?_)))
     refine Qr (Qw (Qw (Q8 (Qw (Qj (ZR Z Z ?_))))))
     first | (rw [Qar (s := s) (by first | (left; assumption) | (right; omega))]; exact ⟨rfl, rfl⟩) | (rw [Yw (s := s) (by omega) (by assumption)]; exact ⟨rfl, rfl⟩) | (rw [Xl (s := s) (i := i) (by omega) (by simp [Yj]; omega)]; exact ⟨rfl, rfl⟩) | (rw [QbM (s := s) (i := i) hJ (by omega) hI.2.1]; exact ⟨rfl, by simp [Qae, D.fz, D.fzS, D.can, D.canS]; omega⟩)
   ·try rw [h7]
    try simp only [qB, Bool.and_eq_true, Bool.and_eq_false_iff, decide_eq_true_eq] at h7
    refine Qq Z (Qq Z (Qi Z Z (Qb Z (hK _ _ (Qa (kp4 Z Z Z Z) ?_)))))
    refine ZD Z (Qe fun K hK => Qb Z (Qb Z (hK _ _ (Qa (kp2 Z Z) ?_))))
    refine Qr (Qw (Qw (Q8 (Qw (Qj (ZR Z Z ?_))))))
    first | (rw [Qar (s := s) (by first | (left; assumption) | (right; omega))]; exact ⟨rfl, rfl⟩) | (rw [Yw (s := s) (by omega) (by assumption)]; exact ⟨rfl, rfl⟩) | (rw [Xl (s := s) (i := i) (by omega) (by simp [Yj]; omega)]; exact ⟨rfl, rfl⟩) | (rw [QbM (s := s) (i := i) hJ (by omega) hI.2.1]; exact ⟨rfl, by simp [Qae, D.fz, D.fzS, D.can, D.canS]; omega⟩)
  ·obtain ⟨cwh6, nwh6, hch6, hdh6⟩ := Qji h5 h6
   refine Qje Z Z h5 hdh6 (Zd Z Z (hK _ _ (Qa (kp4 Z Z Z Z) ?_)))
   refine QG ?_ -- 2
   refine Zl Z (Qy (Qf (kp3 Z Z Z) (QK (Qe fun K hK => Zd Z Z (Qb Z (hK _ _ (Qa (kp3 Z Z Z) ?_)))))))
   refine QK (Qe fun K hK => Qb Z (Qjd Z Z (Qb Z ?_)))
   refine Qv (g := 32) Z (fun h9 => ?_) (fun h9 => ?_)
   ·try rw [h9]
    try simp only [qB, Bool.and_eq_true, Bool.and_eq_false_iff, decide_eq_true_eq] at h9
    refine Qg Z (Qb Z (Qg Z (Qmc Z Z (Qi Z Z (Qb Z (hK _ _ (Qa (kp4 Z Z Z Z) ?_)))))))
    refine QA Z (fun h10 => ?_) (fun h10 => ?_)
    ·try rw [h10]
     try simp only [qB, Bool.and_eq_true, Bool.and_eq_false_iff, decide_eq_true_eq] at h10
     refine Zb fun K hK => Qb Z (Qkv Z Z (by first | exact Qt (by omega) (by omega) | exact QX (by omega) (by omega) | exact Za (by omega) (by omega) | rfl) (Qb Z (Qct Z Z (by first | exact Qt (by omega) (by omega) | exact QX (by omega) (by omega) | exact Za (by omega) (by omega) | rfl) (Qhk Z (by first | exact Qt (by omega) (by omega) | exact QX (by omega) (by omega) | exact Za (by omega) (by omega) | rfl) (Zh Z Z (by first | exact Qt (by omega) (by omega) | exact QX (by omega) (by omega) | exact Za (by omega) (by omega) | rfl) (Qb Z (hK _ ?_)))))))
     refine Qk (Qk ?_)
     refine Qp (i + 1) ?_ ?_ ?_
     ·first | exact Zw (l := [4, 25]) (lH := [25]) (kp2 rfl rfl) (Qu rfl QB) rfl rfl rfl | exact Zw (l := [4, 25]) (lH := [25]) (kp2 rfl rfl) (Qu rfl QB) (by rw [Qew (by omega)]; simp; omega) rfl rfl | (exfalso; omega)
     ·first | exact ⟨by omega, Zc (by omega) hI.2.1 (by simp [Yj]; omega), hI.2.2⟩ | (exfalso; omega)
     ·first | omega | (simp only; omega) | (dsimp only; omega)
    ·try rw [h10]
     try simp only [qB, Bool.and_eq_true, Bool.and_eq_false_iff, decide_eq_true_eq] at h10
     refine Qe fun K hK => Qb Z (Qb Z (hK _ _ (Qa (kp2 Z Z) ?_)))
     refine Qr (Qw (Qw (Q8 (Qw (Qj (ZR Z Z ?_))))))
     first | (rw [Qar (s := s) (by first | (left; assumption) | (right; omega))]; exact ⟨rfl, rfl⟩) | (rw [Yw (s := s) (by omega) (by assumption)]; exact ⟨rfl, rfl⟩) | (rw [Xl (s := s) (i := i) (by omega) (by simp [Yj]; omega)]; exact ⟨rfl, rfl⟩) | (rw [QbM (s := s) (i := i) hJ (by omega) hI.2.1]; exact ⟨rfl, by simp [Qae, D.fz, D.fzS, D.can, D.canS]; omega⟩)
   ·try rw [h9]
    try simp only [qB, Bool.and_eq_true, Bool.and_eq_false_iff, decide_eq_true_eq] at h9
    refine Qq Z (Qq Z (Qi Z Z (Qb Z (hK _ _ (Qa (kp4 Z Z Z Z) ?_)))))
    refine ZD Z (Qe fun K hK => Qb Z (Qb Z (hK _ _ (Qa (kp2 Z Z) ?_))))
    refine Qr (Qw (Qw (Q8 (Qw (Qj (ZR Z Z ?_))))))
    first | (rw [Qar (s := s) (by first | (left; assumption) | (right; omega))]; exact ⟨rfl, rfl⟩) | (rw [Yw (s := s) (by omega) (by assumption)]; exact ⟨rfl, rfl⟩) | (rw [Xl (s := s) (i := i) (by omega) (by simp [Yj]; omega)]; exact ⟨rfl, rfl⟩) | (rw [QbM (s := s) (i := i) hJ (by omega) hI.2.1]; exact ⟨rfl, by simp [Qae, D.fz, D.fzS, D.can, D.canS]; omega⟩)
 ·refine Qhm Z Z (by omega) (Zd Z Z (hK _ _ (Qa (kp4 Z Z Z Z) ?_)))
  refine QG ?_ -- 2
  refine ZD Z (Zy (QO (QD (QJ (Qf (kp1 Z) (Qe fun K hK => Qb Z (Qb Z (Qmc Z Z (Qb Z (Qb Z ?_))))))))))
  refine hK _ _ (Qa (kp2 Z Z) ?_)
  refine Qr (ZR Z Z ?_)
  first | (rw [Qar (s := s) (by first | (left; assumption) | (right; omega))]; exact ⟨rfl, rfl⟩) | (rw [Yw (s := s) (by omega) (by assumption)]; exact ⟨rfl, rfl⟩) | (rw [Xl (s := s) (i := i) (by omega) (by simp [Yj]; omega)]; exact ⟨rfl, rfl⟩) | (rw [QbM (s := s) (i := i) hJ (by omega) hI.2.1]; exact ⟨rfl, by simp [Qae, D.fz, D.fzS, D.can, D.canS]; omega⟩)
theorem Qaw {s : List UInt8} (hl : s.length <= 1000000) : Ok Tryd.prog 81 [.str s] (.bool (Qcs s)) := by
 refine Ok.ofT Z5 Tryd.func81 QrI (Nat.le_of_ble_eq_true Z) ?_
 show TW _ _ tf81.body _ _
 refine Qe fun K hK => Qb Z (hK _ _ (Qa (kp1 Z) ?_))
 refine QnO (Qe fun K hK => Qb Z (Qz (XR (by omega)) Z Z (.inl Z) (Qb Z (hK _ _ (Qa (kp1 Z) ?_)))))
 refine Qe fun K hK => Qb Z (ZC Z Z (Qmc Z Z (Qb Z (hK _ _ (Qa (kp2 Z Z) ?_)))))
 refine QG ?_ -- 0
 refine Qy (Qf (kp2 Z Z) ?_)
 refine QG ?_ -- 1
 refine Qe fun K hK => Qb Z (ZC Z Z (Qb Z (hK _ _ (Qa (kp4 Z Z Z Z) ?_))))
 refine QK ?_
 refine Z0 (ι := Nat) (fun i => ⟨[(4, .bool (decide ((Q1 s 46).length <= 4))), (14, .sl (YK (Q1 s 46))), (15, .int .i64 (Q1 s 46).length), (16, .int .i64 i)], []⟩) (fun i => i <= (Q1 s 46).length /\ ((Q1 s 46).take i).all Qbp = true) (fun i => (Q1 s 46).length - i) 0 ?_ ?_ ?_
 ·exact Zw (l := [4, 14, 15, 16]) (kp4 rfl rfl rfl rfl) QB (by simp [Qo]; omega) rfl rfl
 ·exact ⟨Nat.zero_le _, rfl⟩
 intro i hI
 have sl := Qdu (s := s) (c := 46)
 try dsimp only
 refine Qe fun K hK => YI Z Z (hK _ _ (Qa (kp5 Z Z Z Z Z) ?_))
 refine QG ?_ -- 2
 refine QA Z (fun h1 => ?_) (fun h1 => ?_)
 ·try rw [h1]
  try simp only [qB, Qo] at h1
  refine Qy (Qf (kp4 Z Z Z Z) ?_)
  refine QG ?_ -- 3
  refine QK (Qe fun K hK => Q2 Z Z Z (by omega) (XU (by omega)) Z (QE Z Z Z (Qb Z (hK _ _ (Qa (kp5 Z Z Z Z Z) ?_)))))
  refine QG ?_ -- 4
  refine Qe fun K hK => Qb Z (Qb9 Z Z (Qb Z ?_))
  refine Qv (g := 22) Z (fun h2 => ?_) (fun h2 => ?_)
  ·try rw [h2]
   try simp only [qB, Qo] at h2
   refine Qq Z (Qq Z (Qq Z (Qi Z Z (hK _ _ (Qa (kp6 Z Z Z Z Z Z) ?_)))))
   refine Zl Z (Qe fun K hK => Qb Z (hK _ _ (Qa (kp1 Z) ?_)))
   refine Zy (QO (Q9 (by decide) (QO (QD (QJ (Qf (kp1 Z) (Qe fun K hK => Qb Z (Qb Z (hK _ _ (Qa (kp1 Z) ?_))))))))))
   refine Qr (Qm Z ?_)
   first | exact (ZP (i := i) (by omega) (Xk (by first | (left; assumption) | (right; omega)))).symm | exact (ZP (i := i) (by omega) (Xj (Yf (i := j) (by omega) (by simp [ZN]; omega)))).symm | exact (YG (by omega) hI.2).symm
  ·try rw [h2]
   try simp only [qB, Qo] at h2
   refine Qg Z (Qb Z (Qg Z (Yk Z (Qg Z (Qdy Z Z (Qi Z Z (hK _ _ (Qa (kp6 Z Z Z Z Z Z) ?_))))))))
   refine QA Z (fun h3 => ?_) (fun h3 => ?_)
   ·try rw [h3]
    try simp only [qB, Qo] at h3
    refine Qe fun K hK => Qb Z (hK _ _ (Qa (kp1 Z) ?_))
    refine Zy (QO (Q9 (by decide) (QO (QD (QJ (Qf (kp1 Z) (Qe fun K hK => Qb Z (Qb Z (hK _ _ (Qa (kp1 Z) ?_))))))))))
    refine Qr (Qm Z ?_)
    first | exact (ZP (i := i) (by omega) (Xk (by first | (left; assumption) | (right; omega)))).symm | exact (ZP (i := i) (by omega) (Xj (Yf (i := j) (by omega) (by simp [ZN]; omega)))).symm | exact (YG (by omega) hI.2).symm
   ·try rw [h3]
    try simp only [qB, Qo] at h3
    refine Qy (Qf (kp5 Z Z Z Z Z) (Qe fun K hK => Qb Z (Qkw Z Z (hK _ _ (Qa (kp5 Z Z Z Z Z) ?_)))))
    refine QK ?_
    have hlt : i < (Q1 s 46).length := by omega
    refine Z0 (ι := Nat) (fun j => ⟨[(4, .bool (decide ((Q1 s 46).length <= 4))), (14, .sl (YK (Q1 s 46))), (15, .int .i64 (Q1 s 46).length), (16, .int .i64 i), (28, .ref 28 0 0)], [(28, ⟨[], 0, Zo ((Q1 s 46)[i]'hlt) j, false⟩)]⟩) (fun j => j <= ((Q1 s 46)[i]'hlt).length /\ (((Q1 s 46)[i]'hlt).take j).all ZN = true) (fun j => ((Q1 s 46)[i]'hlt).length - j) 0 ?_ ?_ ?_
    ·first | exact Zw (l := [4, 14, 15, 16, 28]) (lH := [28]) (kp5 rfl rfl rfl rfl rfl) (Qu rfl QB) rfl rfl rfl | (exfalso; omega)
    ·exact ⟨Nat.zero_le _, rfl⟩
    intro j hJ
    have hJ1 := hJ.1
    try dsimp only
    refine Qe fun K hK => ?_
    rcases Nat.lt_or_ge (j) (((Q1 s 46)[i]'hlt)).length with h4 | h4
    ·rcases Nat.lt_or_ge (((((Q1 s 46)[i]'hlt))[j]).toNat) 128 with h5 | h5
     ·refine Qje Z Z h4 (QhB h4 h5) (Zd Z Z (hK _ _ (Qa (kp7 Z Z Z Z Z Z Z) ?_)))
      refine QG ?_ -- 5
      refine Zl Z (Qy (Qf (kp6 Z Z Z Z Z Z) (QK (Qe fun K hK => Zd Z Z (Qb Z (hK _ _ (Qa (kp6 Z Z Z Z Z Z) ?_)))))))
      refine Qe fun K hK => Qb Z (YI Z Z (Qb Z ?_))
      refine Qv (g := 34) Z (fun h6 => ?_) (fun h6 => ?_)
      ·try rw [h6]
       try simp only [qB, Qo] at h6
       refine Qq Z (Qq Z (Qi Z Z (Qb Z (Qg Z (Qb Z (Qg Z (YI Z Z (Qg Z (Qb Z ?_)))))))))
       refine Qv (g := 41) Z (fun h7 => ?_) (fun h7 => ?_)
       ·try rw [h7]
        try simp only [qB, Qo] at h7
        refine Qq Z (Qq Z (Qg Z (Qi Z Z (Qi Z Z (Qb Z (Qg Z (Qb Z (Qg Z (Yy Z Z (Qi Z Z (hK _ _ (Qa (kp6 Z Z Z Z Z Z) ?_))))))))))))
        refine QA Z (fun h8 => ?_) (fun h8 => ?_)
        ·try rw [h8]
         try simp only [qB, Qo] at h8
         refine Qe fun K hK => Qb Z (hK _ _ (Qa (kp1 Z) ?_))
         refine Zy (Q9 (by decide) (QD (Q9 (by decide) (Q9 (by decide) (QO (QD (QJ (Qf (kp1 Z) (Qe fun K hK => Qb Z (Qb Z ?_))))))))))
         refine hK _ _ (Qa (kp1 Z) ?_)
         refine Qr (Qm Z ?_)
         first | exact (ZP (i := i) (by omega) (Xk (by first | (left; assumption) | (right; omega)))).symm | exact (ZP (i := i) (by omega) (Xj (Yf (i := j) (by omega) (by simp [ZN]; omega)))).symm | exact (YG (by omega) hI.2).symm
        ·try rw [h8]
         try simp only [qB, Qo] at h8
         refine Qy (Qk ?_)
         refine Qp (j + 1) ?_ ?_ ?_
         ·first | exact Zw (l := [4, 14, 15, 16, 28]) (lH := [28]) (kp5 rfl rfl rfl rfl rfl) (Qu rfl QB) rfl rfl rfl | (exfalso; omega)
         ·first | exact ⟨by omega, Zc (by omega) hJ.2 (by simp [ZN]; omega)⟩ | (exfalso; omega)
         ·first | omega | (simp only; omega) | (dsimp only; omega)
       ·try rw [h7]
        try simp only [qB, Qo] at h7
        refine Qg Z (Qb Z (Qg Z (Qdy Z Z (Qg Z (Qi Z Z (Qi Z Z (Qb Z ?_)))))))
        refine Qv (g := 46) Z (fun h9 => ?_) (fun h9 => ?_)
        ·try rw [h9]
         try simp only [qB, Qo] at h9
         refine Qg Z (Qb Z (Qg Z (Yy Z Z (Qi Z Z (hK _ _ (Qa (kp6 Z Z Z Z Z Z) ?_))))))
         refine QA Z (fun h10 => ?_) (fun h10 => ?_)
         ·try rw [h10]
          try simp only [qB, Qo] at h10
          refine Qe fun K hK => Qb Z (hK _ _ (Qa (kp1 Z) ?_))
          refine Zy (Q9 (by decide) (QD (Q9 (by decide) (Q9 (by decide) (QO (QD (QJ (Qf (kp1 Z) (Qe fun K hK => Qb Z (Qb Z ?_))))))))))
          refine hK _ _ (Qa (kp1 Z) ?_)
          refine Qr (Qm Z ?_)
          first | exact (ZP (i := i) (by omega) (Xk (by first | (left; assumption) | (right; omega)))).symm | exact (ZP (i := i) (by omega) (Xj (Yf (i := j) (by omega) (by simp [ZN]; omega)))).symm | exact (YG (by omega) hI.2).symm
         ·try rw [h10]
          try simp only [qB, Qo] at h10
          refine Qy (Qk ?_)
          refine Qp (j + 1) ?_ ?_ ?_
          ·first | exact Zw (l := [4, 14, 15, 16, 28]) (lH := [28]) (kp5 rfl rfl rfl rfl rfl) (Qu rfl QB) rfl rfl rfl | (exfalso; omega)
          ·first | exact ⟨by omega, Zc (by omega) hJ.2 (by simp [ZN]; omega)⟩ | (exfalso; omega)
          ·first | omega | (simp only; omega) | (dsimp only; omega)
        ·try rw [h9]
         try simp only [qB, Qo] at h9
         refine Qq Z (Qq Z (Qi Z Z (hK _ _ (Qa (kp6 Z Z Z Z Z Z) ?_))))
         refine ZD Z (Qy (Qk ?_))
         refine Qp (j + 1) ?_ ?_ ?_
         ·first | exact Zw (l := [4, 14, 15, 16, 28]) (lH := [28]) (kp5 rfl rfl rfl rfl rfl) (Qu rfl QB) rfl rfl rfl | (exfalso; omega)
         ·first | exact ⟨by omega, Zc (by omega) hJ.2 (by simp [ZN]; omega)⟩ | (exfalso; omega)
         ·first | omega | (simp only; omega) | (dsimp only; omega)
      ·try rw [h6]
       try simp only [qB, Qo] at h6
       refine Qg Z (Qb Z (Qg Z (Qdy Z Z (Qi Z Z (Qb Z ?_)))))
       refine Qv (g := 38) Z (fun h11 => ?_) (fun h11 => ?_)
       ·try rw [h11]
        try simp only [qB, Qo] at h11
        refine Qg Z (Qb Z (Qg Z (YI Z Z (Qg Z (Qb Z ?_)))))
        refine Qv (g := 41) Z (fun h12 => ?_) (fun h12 => ?_)
        ·try rw [h12]
         try simp only [qB, Qo] at h12
         refine Qq Z (Qq Z (Qg Z (Qi Z Z (Qi Z Z (Qb Z (Qg Z (Qb Z (Qg Z (Yy Z Z (Qi Z Z (hK _ _ (Qa (kp6 Z Z Z Z Z Z) ?_))))))))))))
         refine QA Z (fun h13 => ?_) (fun h13 => ?_)
         ·try rw [h13]
          try simp only [qB, Qo] at h13
          refine Qe fun K hK => Qb Z (hK _ _ (Qa (kp1 Z) ?_))
          refine Zy (Q9 (by decide) (QD (Q9 (by decide) (Q9 (by decide) (QO (QD (QJ (Qf (kp1 Z) (Qe fun K hK => Qb Z (Qb Z ?_))))))))))
          refine hK _ _ (Qa (kp1 Z) ?_)
          refine Qr (Qm Z ?_)
          first | exact (ZP (i := i) (by omega) (Xk (by first | (left; assumption) | (right; omega)))).symm | exact (ZP (i := i) (by omega) (Xj (Yf (i := j) (by omega) (by simp [ZN]; omega)))).symm | exact (YG (by omega) hI.2).symm
         ·try rw [h13]
          try simp only [qB, Qo] at h13
          refine Qy (Qk ?_)
          refine Qp (j + 1) ?_ ?_ ?_
          ·first | exact Zw (l := [4, 14, 15, 16, 28]) (lH := [28]) (kp5 rfl rfl rfl rfl rfl) (Qu rfl QB) rfl rfl rfl | (exfalso; omega)
          ·first | exact ⟨by omega, Zc (by omega) hJ.2 (by simp [ZN]; omega)⟩ | (exfalso; omega)
          ·first | omega | (simp only; omega) | (dsimp only; omega)
        ·try rw [h12]
         try simp only [qB, Qo] at h12
         refine Qg Z (Qb Z (Qg Z (Qdy Z Z (Qg Z (Qi Z Z (Qi Z Z (Qb Z ?_)))))))
         refine Qv (g := 46) Z (fun h14 => ?_) (fun h14 => ?_)
         ·try rw [h14]
          try simp only [qB, Qo] at h14
          refine Qg Z (Qb Z (Qg Z (Yy Z Z (Qi Z Z (hK _ _ (Qa (kp6 Z Z Z Z Z Z) ?_))))))
          refine QA Z (fun h15 => ?_) (fun h15 => ?_)
          ·try rw [h15]
           try simp only [qB, Qo] at h15
           refine Qe fun K hK => Qb Z (hK _ _ (Qa (kp1 Z) ?_))
           refine Zy (Q9 (by decide) (QD (Q9 (by decide) (Q9 (by decide) (QO (QD (QJ (Qf (kp1 Z) (Qe fun K hK => Qb Z (Qb Z ?_))))))))))
           refine hK _ _ (Qa (kp1 Z) ?_)
           refine Qr (Qm Z ?_)
           first | exact (ZP (i := i) (by omega) (Xk (by first | (left; assumption) | (right; omega)))).symm | exact (ZP (i := i) (by omega) (Xj (Yf (i := j) (by omega) (by simp [ZN]; omega)))).symm | exact (YG (by omega) hI.2).symm
          ·try rw [h15]
           try simp only [qB, Qo] at h15
           refine Qy (Qk ?_)
           refine Qp (j + 1) ?_ ?_ ?_
           ·first | exact Zw (l := [4, 14, 15, 16, 28]) (lH := [28]) (kp5 rfl rfl rfl rfl rfl) (Qu rfl QB) rfl rfl rfl | (exfalso; omega)
           ·first | exact ⟨by omega, Zc (by omega) hJ.2 (by simp [ZN]; omega)⟩ | (exfalso; omega)
           ·first | omega | (simp only; omega) | (dsimp only; omega)
         ·try rw [h14]
          try simp only [qB, Qo] at h14
          refine Qq Z (Qq Z (Qi Z Z (hK _ _ (Qa (kp6 Z Z Z Z Z Z) ?_))))
          refine ZD Z (Qy (Qk ?_))
          refine Qp (j + 1) ?_ ?_ ?_
          ·first | exact Zw (l := [4, 14, 15, 16, 28]) (lH := [28]) (kp5 rfl rfl rfl rfl rfl) (Qu rfl QB) rfl rfl rfl | (exfalso; omega)
          ·first | exact ⟨by omega, Zc (by omega) hJ.2 (by simp [ZN]; omega)⟩ | (exfalso; omega)
          ·first | omega | (simp only; omega) | (dsimp only; omega)
       ·try rw [h11]
        try simp only [qB, Qo] at h11
        refine Qq Z (Qq Z (Qq Z (QI Z (QI Z (Qq Z (Qi Z Z (Qb Z (Qq Z (Qq Z (Qi Z Z (hK _ _ (Qa (kp6 Z Z Z Z Z Z) ?_))))))))))))
        refine ZD Z (Qy (Qk ?_))
        refine Qp (j + 1) ?_ ?_ ?_
        ·first | exact Zw (l := [4, 14, 15, 16, 28]) (lH := [28]) (kp5 rfl rfl rfl rfl rfl) (Qu rfl QB) rfl rfl rfl | (exfalso; omega)
        ·first | exact ⟨by omega, Zc (by omega) hJ.2 (by simp [ZN]; omega)⟩ | (exfalso; omega)
        ·first | omega | (simp only; omega) | (dsimp only; omega)
     ·obtain ⟨cwh5, nwh5, hch5, hdh5⟩ := Qji h4 h5
      refine Qje Z Z h4 hdh5 (Zd Z Z (hK _ _ (Qa (kp7 Z Z Z Z Z Z Z) ?_)))
      refine QG ?_ -- 5
      refine Zl Z (Qy (Qf (kp6 Z Z Z Z Z Z) (QK (Qe fun K hK => Zd Z Z (Qb Z (hK _ _ (Qa (kp6 Z Z Z Z Z Z) ?_)))))))
      refine Qe fun K hK => Qb Z (YI Z Z (Qb Z ?_))
      refine Qv (g := 34) Z (fun h16 => ?_) (fun h16 => ?_)
      ·try rw [h16]
       try simp only [qB, Qo] at h16
       refine Qq Z (Qq Z (Qi Z Z (Qb Z (Qg Z (Qb Z (Qg Z (YI Z Z (Qg Z (Qb Z ?_)))))))))
       refine Qv (g := 41) Z (fun h17 => ?_) (fun h17 => ?_)
       ·try rw [h17]
        try simp only [qB, Qo] at h17
        refine Qq Z (Qq Z (Qg Z (Qi Z Z (Qi Z Z (Qb Z (Qg Z (Qb Z (Qg Z (Yy Z Z (Qi Z Z (hK _ _ (Qa (kp6 Z Z Z Z Z Z) ?_))))))))))))
        refine QA Z (fun h18 => ?_) (fun h18 => ?_)
        ·try rw [h18]
         try simp only [qB, Qo] at h18
         refine Qe fun K hK => Qb Z (hK _ _ (Qa (kp1 Z) ?_))
         refine Zy (Q9 (by decide) (QD (Q9 (by decide) (Q9 (by decide) (QO (QD (QJ (Qf (kp1 Z) (Qe fun K hK => Qb Z (Qb Z ?_))))))))))
         refine hK _ _ (Qa (kp1 Z) ?_)
         refine Qr (Qm Z ?_)
         first | exact (ZP (i := i) (by omega) (Xk (by first | (left; assumption) | (right; omega)))).symm | exact (ZP (i := i) (by omega) (Xj (Yf (i := j) (by omega) (by simp [ZN]; omega)))).symm | exact (YG (by omega) hI.2).symm
        ·try rw [h18]
         try simp only [qB, Qo] at h18
         refine Qy (Qk ?_)
         refine Qp (j + 1) ?_ ?_ ?_
         ·first | exact Zw (l := [4, 14, 15, 16, 28]) (lH := [28]) (kp5 rfl rfl rfl rfl rfl) (Qu rfl QB) rfl rfl rfl | (exfalso; omega)
         ·first | exact ⟨by omega, Zc (by omega) hJ.2 (by simp [ZN]; omega)⟩ | (exfalso; omega)
         ·first | omega | (simp only; omega) | (dsimp only; omega)
       ·try rw [h17]
        try simp only [qB, Qo] at h17
        refine Qg Z (Qb Z (Qg Z (Qdy Z Z (Qg Z (Qi Z Z (Qi Z Z (Qb Z ?_)))))))
        refine Qv (g := 46) Z (fun h19 => ?_) (fun h19 => ?_)
        ·try rw [h19]
         try simp only [qB, Qo] at h19
         refine Qg Z (Qb Z (Qg Z (Yy Z Z (Qi Z Z (hK _ _ (Qa (kp6 Z Z Z Z Z Z) ?_))))))
         refine QA Z (fun h20 => ?_) (fun h20 => ?_)
         ·try rw [h20]
          try simp only [qB, Qo] at h20
          refine Qe fun K hK => Qb Z (hK _ _ (Qa (kp1 Z) ?_))
          refine Zy (Q9 (by decide) (QD (Q9 (by decide) (Q9 (by decide) (QO (QD (QJ (Qf (kp1 Z) (Qe fun K hK => Qb Z (Qb Z ?_))))))))))
          refine hK _ _ (Qa (kp1 Z) ?_)
          refine Qr (Qm Z ?_)
          first | exact (ZP (i := i) (by omega) (Xk (by first | (left; assumption) | (right; omega)))).symm | exact (ZP (i := i) (by omega) (Xj (Yf (i := j) (by omega) (by simp [ZN]; omega)))).symm | exact (YG (by omega) hI.2).symm
         ·try rw [h20]
          try simp only [qB, Qo] at h20
          refine Qy (Qk ?_)
          refine Qp (j + 1) ?_ ?_ ?_
          ·first | exact Zw (l := [4, 14, 15, 16, 28]) (lH := [28]) (kp5 rfl rfl rfl rfl rfl) (Qu rfl QB) rfl rfl rfl | (exfalso; omega)
          ·first | exact ⟨by omega, Zc (by omega) hJ.2 (by simp [ZN]; omega)⟩ | (exfalso; omega)
          ·first | omega | (simp only; omega) | (dsimp only; omega)
        ·try rw [h19]
         try simp only [qB, Qo] at h19
         refine Qq Z (Qq Z (Qi Z Z (hK _ _ (Qa (kp6 Z Z Z Z Z Z) ?_))))
         refine ZD Z (Qy (Qk ?_))
         refine Qp (j + 1) ?_ ?_ ?_
         ·first | exact Zw (l := [4, 14, 15, 16, 28]) (lH := [28]) (kp5 rfl rfl rfl rfl rfl) (Qu rfl QB) rfl rfl rfl | (exfalso; omega)
         ·first | exact ⟨by omega, Zc (by omega) hJ.2 (by simp [ZN]; omega)⟩ | (exfalso; omega)
         ·first | omega | (simp only; omega) | (dsimp only; omega)
      ·try rw [h16]
       try simp only [qB, Qo] at h16
       refine Qg Z (Qb Z (Qg Z (Qdy Z Z (Qi Z Z (Qb Z ?_)))))
       refine Qv (g := 38) Z (fun h21 => ?_) (fun h21 => ?_)
       ·try rw [h21]
        try simp only [qB, Qo] at h21
        refine Qg Z (Qb Z (Qg Z (YI Z Z (Qg Z (Qb Z ?_)))))
        refine Qv (g := 41) Z (fun h22 => ?_) (fun h22 => ?_)
        ·try rw [h22]
         try simp only [qB, Qo] at h22
         refine Qq Z (Qq Z (Qg Z (Qi Z Z (Qi Z Z (Qb Z (Qg Z (Qb Z (Qg Z (Yy Z Z (Qi Z Z (hK _ _ (Qa (kp6 Z Z Z Z Z Z) ?_))))))))))))
         refine QA Z (fun h23 => ?_) (fun h23 => ?_)
         ·try rw [h23]
          try simp only [qB, Qo] at h23
          refine Qe fun K hK => Qb Z (hK _ _ (Qa (kp1 Z) ?_))
          refine Zy (Q9 (by decide) (QD (Q9 (by decide) (Q9 (by decide) (QO (QD (QJ (Qf (kp1 Z) (Qe fun K hK => Qb Z (Qb Z ?_))))))))))
          refine hK _ _ (Qa (kp1 Z) ?_)
          refine Qr (Qm Z ?_)
          first | exact (ZP (i := i) (by omega) (Xk (by first | (left; assumption) | (right; omega)))).symm | exact (ZP (i := i) (by omega) (Xj (Yf (i := j) (by omega) (by simp [ZN]; omega)))).symm | exact (YG (by omega) hI.2).symm
         ·try rw [h23]
          try simp only [qB, Qo] at h23
          refine Qy (Qk ?_)
          refine Qp (j + 1) ?_ ?_ ?_
          ·first | exact Zw (l := [4, 14, 15, 16, 28]) (lH := [28]) (kp5 rfl rfl rfl rfl rfl) (Qu rfl QB) rfl rfl rfl | (exfalso; omega)
          ·first | exact ⟨by omega, Zc (by omega) hJ.2 (by simp [ZN]; omega)⟩ | (exfalso; omega)
          ·first | omega | (simp only; omega) | (dsimp only; omega)
        ·try rw [h22]
         try simp only [qB, Qo] at h22
         refine Qg Z (Qb Z (Qg Z (Qdy Z Z (Qg Z (Qi Z Z (Qi Z Z (Qb Z ?_)))))))
         refine Qv (g := 46) Z (fun h24 => ?_) (fun h24 => ?_)
         ·try rw [h24]
          try simp only [qB, Qo] at h24
          refine Qg Z (Qb Z (Qg Z (Yy Z Z (Qi Z Z (hK _ _ (Qa (kp6 Z Z Z Z Z Z) ?_))))))
          refine QA Z (fun h25 => ?_) (fun h25 => ?_)
          ·try rw [h25]
           try simp only [qB, Qo] at h25
           refine Qe fun K hK => Qb Z (hK _ _ (Qa (kp1 Z) ?_))
           refine Zy (Q9 (by decide) (QD (Q9 (by decide) (Q9 (by decide) (QO (QD (QJ (Qf (kp1 Z) (Qe fun K hK => Qb Z (Qb Z ?_))))))))))
           refine hK _ _ (Qa (kp1 Z) ?_)
           refine Qr (Qm Z ?_)
           first | exact (ZP (i := i) (by omega) (Xk (by first | (left; assumption) | (right; omega)))).symm | exact (ZP (i := i) (by omega) (Xj (Yf (i := j) (by omega) (by simp [ZN]; omega)))).symm | exact (YG (by omega) hI.2).symm
          ·try rw [h25]
           try simp only [qB, Qo] at h25
           refine Qy (Qk ?_)
           refine Qp (j + 1) ?_ ?_ ?_
           ·first | exact Zw (l := [4, 14, 15, 16, 28]) (lH := [28]) (kp5 rfl rfl rfl rfl rfl) (Qu rfl QB) rfl rfl rfl | (exfalso; omega)
           ·first | exact ⟨by omega, Zc (by omega) hJ.2 (by simp [ZN]; omega)⟩ | (exfalso; omega)
           ·first | omega | (simp only; omega) | (dsimp only; omega)
         ·try rw [h24]
          try simp only [qB, Qo] at h24
          refine Qq Z (Qq Z (Qi Z Z (hK _ _ (Qa (kp6 Z Z Z Z Z Z) ?_))))
          refine ZD Z (Qy (Qk ?_))
          refine Qp (j + 1) ?_ ?_ ?_
          ·first | exact Zw (l := [4, 14, 15, 16, 28]) (lH := [28]) (kp5 rfl rfl rfl rfl rfl) (Qu rfl QB) rfl rfl rfl | (exfalso; omega)
          ·first | exact ⟨by omega, Zc (by omega) hJ.2 (by simp [ZN]; omega)⟩ | (exfalso; omega)
          ·first | omega | (simp only; omega) | (dsimp only; omega)
       ·try rw [h21]
        try simp only [qB, Qo] at h21
        refine Qq Z (Qq Z (Qq Z (QI Z (QI Z (Qq Z (Qi Z Z (Qb Z (Qq Z (Qq Z (Qi Z Z (hK _ _ (Qa (kp6 Z Z Z Z Z Z) ?_))))))))))))
        refine ZD Z (Qy (Qk ?_))
        refine Qp (j + 1) ?_ ?_ ?_
        ·first | exact Zw (l := [4, 14, 15, 16, 28]) (lH := [28]) (kp5 rfl rfl rfl rfl rfl) (Qu rfl QB) rfl rfl rfl | (exfalso; omega)
        ·first | exact ⟨by omega, Zc (by omega) hJ.2 (by simp [ZN]; omega)⟩ | (exfalso; omega)
        ·first | omega | (simp only; omega) | (dsimp only; omega)
    ·refine Qhm Z Z (by omega) (Zd Z Z (hK _ _ (Qa (kp7 Z Z Z Z Z Z Z) ?_)))
     refine QG ?_ -- 5
     refine ZD Z (Zy (QO (QD (QJ (Qk (Qf (kp4 Z Z Z Z) (Zb fun K hK => Zh Z Z (by first | exact Qt (by omega) (by omega) | exact QX (by omega) (by omega) | exact Za (by omega) (by omega) | rfl) (Qb Z (hK _ ?_)))))))))
     refine Qp (i + 1) ?_ ?_ ?_
     ·exact Zw (l := [4, 14, 15, 16]) (kp4 rfl rfl rfl rfl) QB rfl rfl rfl
     ·exact ⟨by omega, Zc (by omega) hI.2 (Qof (by assumption) (by omega) (Y7 (by omega) hJ.2))⟩
     ·first | omega | (simp only; omega) | (dsimp only; omega)
 ·try rw [h1]
  try simp only [qB, Qo] at h1
  refine Zy (QO (QD (QJ (Qf (kp1 Z) (Qe fun K hK => Qb Z (Qb Z (hK _ _ (Qa (kp1 Z) ?_))))))))
  refine Qr (Qm Z ?_)
  first | exact (ZP (i := i) (by omega) (Xk (by first | (left; assumption) | (right; omega)))).symm | exact (ZP (i := i) (by omega) (Xj (Yf (i := j) (by omega) (by simp [ZN]; omega)))).symm | exact (YG (by omega) hI.2).symm
end Go.Proofs
namespace Go.Proofs
open Go Go.Abs M3
set_option linter.unusedVariables false
set_option linter.unusedSimpArgs false
theorem Qgp {a b : List UInt8} (ha : a.length <= 1000000) (hb : b.length <= 1000000) : Ok Tryd.prog 110 [.str a, .str b] (.int .i64 (QfG a b)) := by
 refine Ok.ofT Z5 Tryd.func110 Qqr (Nat.le_of_ble_eq_true Z) ?_
 show TW _ _ tf110.body _ _
 refine Qe fun K hK => Qb Z (hK _ _ (Qa (kp2 Z Z) ?_))
 refine Qe fun K hK => Qb Z (Qz (Xq (by omega)) Z Z (.inr Z) (Qb Z (Qz (Xq (by omega)) Z Z (.inr Z) (Qb Z (Qb Z (hK _ _ (Qa (kp4 Z Z Z Z) ?_)))))))
 refine QG ?_ -- 0
 refine Qe fun K hK => Qb Z (Qb Z ?_)
 refine Qv (g := 16) Z (fun h1 => ?_) (fun h1 => ?_)
 ·try rw [h1]
  try simp only [qB] at h1
  refine Qg Z (Qb Z (Qi Z Z (hK _ _ (Qa (kp5 Z Z Z Z Z) ?_))))
  refine QA Z (fun h2 => ?_) (fun h2 => ?_)
  ·try rw [h2]
   try simp only [qB] at h2
   refine Qe fun K hK => Qb Z (Qz (Qau (by omega)) Z Z (.inr Z) (Qb Z (Zd Z Z (Zd Z Z (Qb Z (Qb Z (hK _ _ (Qa (kp2 Z Z) ?_))))))))
   refine Qe fun K hK => Qb Z (Qz (Qau (by omega)) Z Z (.inr Z) (Qb Z (Zd Z Z (Zd Z Z (Qb Z (Qb Z (hK _ _ (Qa (kp2 Z Z) ?_))))))))
   refine Qe fun K hK => Qb Z (Qb Z (Qz (ZI) Z Z (.inr Z) (Qb Z (hK _ _ (Qa (kp1 Z) ?_)))))
   refine Qr (Qj (Qs Z ?_))
   (repeat clear hK K); first | (simp [QfG, h1, h2]; done) | (simp_all [QfG]; done)
  ·try rw [h2]
   try simp only [qB] at h2
   refine Qy (Qf (kp4 Z Z Z Z) ?_)
   refine QG ?_ -- 1
   refine Qe fun K hK => Qb Z (Qb Z (QoX Z Z (hK _ _ (Qa (kp4 Z Z Z Z) ?_))))
   refine QA Z (fun h3 => ?_) (fun h3 => ?_)
   ·try rw [h3]
    try simp only [qB] at h3
    refine QG ?_ -- 2
    refine Qe fun K hK => Qb Z (hK _ _ (Qa (kp1 Z) ?_))
    refine Zl Z (Qe fun K hK => Qb Z (hK _ _ (Qa (kp1 Z) ?_)))
    refine Qr (Qj (Qj (Qs Z ?_)))
    (repeat clear hK K); first | (simp [QfG, h1, h2, h3]; done) | (simp_all [QfG]; done)
   ·try rw [h3]
    try simp only [qB] at h3
    refine Qy (Qf (kp2 Z Z) (Qe fun K hK => Qb Z (Qb Z (Qz (XK) Z Z (.inr Z) (Qb Z (hK _ _ (Qa (kp1 Z) ?_)))))))
    refine Qr (Qs Z ?_)
    (repeat clear hK K); first | (simp [QfG, h1, h2, h3]; done) | (simp_all [QfG]; done)
 ·try rw [h1]
  try simp only [qB] at h1
  refine Qq Z (Qi Z Z (hK _ _ (Qa (kp5 Z Z Z Z Z) ?_)))
  refine ZD Z (Qy (Qf (kp4 Z Z Z Z) ?_))
  refine QG ?_ -- 1
  refine Qe fun K hK => Qb Z (Qb Z (QoX Z Z (hK _ _ (Qa (kp4 Z Z Z Z) ?_))))
  refine QA Z (fun h4 => ?_) (fun h4 => ?_)
  ·try rw [h4]
   try simp only [qB] at h4
   refine QG ?_ -- 2
   refine Qe fun K hK => Qb Z (hK _ _ (Qa (kp1 Z) ?_))
   refine ZD Z (Qy (Qf (QW) (Qe fun K hK => Qb Z (hK _ _ (Qa (kp1 Z) ?_)))))
   refine Qr (Qj (Qs Z ?_))
   (repeat clear hK K); first | (simp [QfG, h1, h4]; done) | (simp_all [QfG]; done)
  ·try rw [h4]
   try simp only [qB] at h4
   refine Qy (Qf (kp2 Z Z) (Qe fun K hK => Qb Z (Qb Z (Qz (XK) Z Z (.inr Z) (Qb Z (hK _ _ (Qa (kp1 Z) ?_)))))))
   refine Qr (Qs Z ?_)
   (repeat clear hK K); first | (simp [QfG, h1, h4]; done) | (simp_all [QfG]; done)
theorem Qgo {s : List UInt8} (hl : s.length <= 1000000) : Ok Tryd.prog 80 [.str s] (.bool (QfH s)) := by
 refine Ok.ofT Z5 Tryd.func80 QrH (Nat.le_of_ble_eq_true Z) ?_
 show TW _ _ tf80.body _ _
 refine Qe fun K hK => Qb Z (hK _ _ (Qa (kp1 Z) ?_))
 refine QG ?_ -- 0
 refine Qe fun K hK => Qb Z (Qz (Qaw (by omega)) Z Z (.inr Z) (ZM Z (hK _ _ (Qa (kp2 Z Z) ?_))))
 refine QA Z (fun h1 => ?_) (fun h1 => ?_)
 ·try rw [h1]
  try simp only [qB, Qo] at h1
  refine Qe fun K hK => Qb Z (hK _ _ (Qa (kp1 Z) ?_))
  refine Qr (Qj (Qm Z ?_))
  first | (simp [QfH, h1]; done) | exact (QiT (i := i) (by omega) (by simp [Qed, h1])).symm | exact (QgX (i := i) (by assumption) (by omega) hI.2).symm
 ·try rw [h1]
  try simp only [qB, Qo] at h1
  refine Qy (Qf (kp1 Z) ?_)
  refine QG ?_ -- 1
  refine Qe fun K hK => Qb Z (Qz (XR (by omega)) Z Z (.inl Z) (ZC Z Z (Qb Z (hK _ _ (Qa (kp3 Z Z Z) ?_)))))
  refine QK ?_
  refine Z0 (ι := Nat) (fun i => ⟨[(11, .sl (YK (Q1 s 46))), (12, .int .i64 (Q1 s 46).length), (13, .int .i64 i)], []⟩) (fun i => i <= (Q1 s 46).length /\ ((Q1 s 46).take i).all Qed = true) (fun i => (Q1 s 46).length - i) 0 ?_ ?_ ?_
  ·exact Zw (l := [11, 12, 13]) (kp3 rfl rfl rfl) QB (by simp [Qo]) rfl rfl
  ·exact ⟨Nat.zero_le _, rfl⟩
  intro i hI
  have sl := Qdu (s := s) (c := 46)
  try dsimp only
  refine Qe fun K hK => YI Z Z (hK _ _ (Qa (kp4 Z Z Z Z) ?_))
  refine QG ?_ -- 2
  refine QA Z (fun h2 => ?_) (fun h2 => ?_)
  ·try rw [h2]
   try simp only [qB, Qo] at h2
   refine Qy (Qf (kp3 Z Z Z) ?_)
   refine QG ?_ -- 3
   refine QK (Qe fun K hK => Q2 Z Z Z (by omega) (XU (by omega)) Z (QE Z Z Z (Qb Z (hK _ _ (Qa (kp4 Z Z Z Z) ?_)))))
   refine Qe fun K hK => Qb Z (Qz (Qau (XY (by omega) hl)) Z Z (.inr Z) (Qb Z (Zd Z Z (Zd Z Z (Qb Z (Qb Z (hK _ _ (Qa (kp5 Z Z Z Z Z) ?_))))))))
   refine Qe fun K hK => Qb Z (Qz (Xq (XY (by omega) hl)) Z Z (.inr Z) (Qb Z ?_))
   refine Qv (g := 24) Z (fun h3 => ?_) (fun h3 => ?_)
   ·try rw [h3]
    try simp only [qB, Qo] at h3
    refine Qg Z (Qb Z (Qg Z (ZM Z (Qi Z Z (hK _ _ (Qa (kp4 Z Z Z Z) ?_))))))
    refine QA Z (fun h4 => ?_) (fun h4 => ?_)
    ·try rw [h4]
     try simp only [qB, Qo] at h4
     refine Qe fun K hK => Qb Z (hK _ _ (Qa (kp1 Z) ?_))
     refine Qr (Qw (Qj (Q8 (Qw (Qj (Qm Z ?_))))))
     first | (simp [QfH, h1, h2, h3, h4]; done) | exact (QiT (i := i) (by omega) (by simp [Qed, h1, h2, h3, h4])).symm | exact (QgX (i := i) (by assumption) (by omega) hI.2).symm
    ·try rw [h4]
     try simp only [qB, Qo] at h4
     refine Qy (Qk (Qf (kp3 Z Z Z) (Zb fun K hK => Zh Z Z (by first | exact Qt (by omega) (by omega) | exact QX (by omega) (by omega) | exact Za (by omega) (by omega) | rfl) (Qb Z (hK _ ?_)))))
     refine Qp (i + 1) ?_ ?_ ?_
     ·exact Q7 (kp3 rfl rfl rfl)
     ·exact ⟨by omega, Zc (by omega) hI.2 (by simp [Qed, h1, h2, h3, h4])⟩
     ·first | omega | (simp only; omega) | (dsimp only; omega)
   ·try rw [h3]
    try simp only [qB, Qo] at h3
    refine Qq Z (Qq Z (Qi Z Z (hK _ _ (Qa (kp4 Z Z Z Z) ?_))))
    refine ZD Z (Qy (Qk (Qf (kp3 Z Z Z) (Zb fun K hK => Zh Z Z (by first | exact Qt (by omega) (by omega) | exact QX (by omega) (by omega) | exact Za (by omega) (by omega) | rfl) (Qb Z (hK _ ?_))))))
    refine Qp (i + 1) ?_ ?_ ?_
    ·exact Q7 (kp3 rfl rfl rfl)
    ·exact ⟨by omega, Zc (by omega) hI.2 (by simp [Qed, h1, h2, h3])⟩
    ·first | omega | (simp only; omega) | (dsimp only; omega)
  ·try rw [h2]
   try simp only [qB, Qo] at h2
   refine Zy (QO (QD (QJ (Qf (QW) (Qe fun K hK => Qb Z (hK _ _ (Qa (kp1 Z) ?_)))))))
   refine Qr (Qm Z ?_)
   first | (simp [QfH, h1, h2]; done) | exact (QiT (i := i) (by omega) (by simp [Qed, h1, h2])).symm | exact (QgX (i := i) (by assumption) (by omega) hI.2).symm
theorem YJ {a b c : Int} {p q : List UInt8} (hp : p.length <= 1000000) (hq : q.length <= 1000000) : Ok Tryd.prog 60 [.agg [.int .i64 a, .int .i64 b, .int .i64 c, .str p, .str q]] (.bool (Qa8 a b c p q)) := by
 refine Ok.ofT Z5 Tryd.func60 Qro (Nat.le_of_ble_eq_true Z) ?_
 show TW _ _ tf60.body _ _
 refine Qe fun K hK => ZL Z Z Z (Qb Z (hK _ _ (Qa (kp1 Z) ?_)))
 refine Qe fun K hK => Qh Z Z (QE Z Z Z (Qz (Qav) Z Z (.inr Z) (Qb Z ?_)))
 refine Qv (g := 6) Z (fun h1 => ?_) (fun h1 => ?_)
 ·try rw [h1]
  try simp only [qB] at h1
  refine Qg Z (Qh Z Z (Qg Z (QE Z Z Z (Qg Z (Qz (Qav) Z Z (.inr Z) (Qi Z Z (Qb Z ?_)))))))
  refine Qv (g := 11) Z (fun h2 => ?_) (fun h2 => ?_)
  ·try rw [h2]
   try simp only [qB] at h2
   refine Qg Z (Qh Z Z (Qg Z (QE Z Z Z (Qg Z (Qz (Qav) Z Z (.inr Z) (Qi Z Z (Qb Z ?_)))))))
   refine Qv (g := 16) Z (fun h3 => ?_) (fun h3 => ?_)
   ·try rw [h3]
    try simp only [qB] at h3
    refine Qg Z (Qh Z Z (Qg Z (QE Z Z Z (Qg Z (Qb9 Z Z (Qg Z (Qb Z ?_)))))))
    refine Qv (g := 20) Z (fun h4 => ?_) (fun h4 => ?_)
    ·try rw [h4]
     try simp only [qB] at h4
     refine Qq Z (Qq Z (Qq Z (Qg Z (Qi Z Z (Qi Z Z (Qb Z (Qg Z (Qh Z Z (Qg Z (QE Z Z Z (Qg Z ?_)))))))))))
     refine Qb9 Z Z (Qg Z (Qb Z ?_))
     refine Qv (g := 30) Z (fun h5 => ?_) (fun h5 => ?_)
     ·try rw [h5]
      try simp only [qB] at h5
      refine Qq Z (Qq Z (Qq Z (Qg Z (Qi Z Z (Qi Z Z (Qb Z (hK _ _ (Qa (kp1 Z) ?_))))))))
      refine Qr (Qm Z ?_)
      simp [Qa8, YF, Xa, h1, h2, h3, h4, h5]
     ·try rw [h5]
      try simp only [qB] at h5
      refine Qg Z (Qh Z Z (Qg Z (QE Z Z Z (Qg Z (Qz (Qaw (by omega)) Z Z (.inr Z) (Qg Z (Qi Z Z (Qi Z Z (Qb Z (hK _ _ (Qa (kp1 Z) ?_)))))))))))
      refine Qr (Qm Z ?_)
      simp [Qa8, YF, Xa, h1, h2, h3, h4, h5]
    ·try rw [h4]
     try simp only [qB] at h4
     refine Qg Z (Qh Z Z (Qg Z (QE Z Z Z (Qg Z (Qz (Qgo (by omega)) Z Z (.inr Z) (Qg Z (Qi Z Z (Qi Z Z (Qb Z ?_)))))))))
     refine Qv (g := 26) Z (fun h6 => ?_) (fun h6 => ?_)
     ·try rw [h6]
      try simp only [qB] at h6
      refine Qg Z (Qh Z Z (Qg Z (QE Z Z Z (Qg Z (Qb9 Z Z (Qg Z (Qb Z ?_)))))))
      refine Qv (g := 30) Z (fun h7 => ?_) (fun h7 => ?_)
      ·try rw [h7]
       try simp only [qB] at h7
       refine Qq Z (Qq Z (Qq Z (Qg Z (Qi Z Z (Qi Z Z (Qb Z (hK _ _ (Qa (kp1 Z) ?_))))))))
       refine Qr (Qm Z ?_)
       simp [Qa8, YF, Xa, h1, h2, h3, h4, h6, h7]
      ·try rw [h7]
       try simp only [qB] at h7
       refine Qg Z (Qh Z Z (Qg Z (QE Z Z Z (Qg Z (Qz (Qaw (by omega)) Z Z (.inr Z) (Qg Z (Qi Z Z (Qi Z Z (Qb Z (hK _ _ (Qa (kp1 Z) ?_)))))))))))
       refine Qr (Qm Z ?_)
       simp [Qa8, YF, Xa, h1, h2, h3, h4, h6, h7]
     ·try rw [h6]
      try simp only [qB] at h6
      refine Qq Z (Qq Z (Qq Z (Qq Z (QI Z (QI Z (QI Z (Qq Z (Qi Z Z (Qb Z (hK _ _ (Qa (kp1 Z) ?_)))))))))))
      refine Qr (Qm Z ?_)
      simp [Qa8, YF, Xa, h1, h2, h3, h4, h6]
   ·try rw [h3]
    try simp only [qB] at h3
    refine Qq Z (Qq Z (Qq Z (Qq Z (QI Z (QI Z (QI Z (Qq Z (Qi Z Z (Qb Z (Qq Z (Qq Z ?_)))))))))))
    refine Qq Z (Qq Z (QI Z (QI Z (QI Z (Qq Z (Qi Z Z (Qb Z (hK _ _ (Qa (kp1 Z) ?_)))))))))
    refine Qr (Qm Z ?_)
    simp [Qa8, YF, Xa, h1, h2, h3]
  ·try rw [h2]
   try simp only [qB] at h2
   refine Qq Z (Qq Z (Qq Z (Qi Z Z (Qb Z (Qq Z (Qq Z (Qq Z (Qq Z (QI Z (QI Z (QI Z ?_)))))))))))
   refine Qq Z (Qi Z Z (Qb Z (Qq Z (Qq Z (Qq Z (Qq Z (QI Z (QI Z (QI Z (Qq Z (Qi Z Z ?_)))))))))))
   refine Qb Z (hK _ _ (Qa (kp1 Z) ?_))
   refine Qr (Qm Z ?_)
   simp [Qa8, YF, Xa, h1, h2]
 ·try rw [h1]
  try simp only [qB] at h1
  refine Qq Z (Qq Z (Qq Z (Qi Z Z (Qb Z (Qq Z (Qq Z (Qq Z (Qi Z Z (Qb Z (Qq Z (Qq Z ?_)))))))))))
  refine Qq Z (Qq Z (QI Z (QI Z (QI Z (Qq Z (Qi Z Z (Qb Z (Qq Z (Qq Z (Qq Z (Qq Z ?_)))))))))))
  refine QI Z (QI Z (QI Z (Qq Z (Qi Z Z (Qb Z (hK _ _ (Qa (kp1 Z) ?_)))))))
  refine Qr (Qm Z ?_)
  simp [Qa8, YF, Xa, h1]
theorem QaG {a b c : Int} {p q : List UInt8} (hp : p.length <= 1000000) (hq : q.length <= 1000000) {a' b' c' : Int} {p' q' : List UInt8} (hp' : p'.length <= 1000000) (hq' : q'.length <= 1000000) : Ok Tryd.prog 105 [.agg [.int .i64 a, .int .i64 b, .int .i64 c, .str p, .str q], .agg [.int .i64 a', .int .i64 b', .int .i64 c', .str p', .str q']] (.int .i64 (QcF a b c p q a' b' c' p' q')) := by
 refine Ok.ofT Z5 Tryd.func105 Qqm (Nat.le_of_ble_eq_true Z) ?_
 show TW _ _ tf105.body _ _
 refine Qe fun K hK => ZL Z Z Z (ZL Z Z Z (Qb Z (hK _ _ (Qa (kp2 Z Z) ?_))))
 refine QG ?_ -- 0
 refine Qe fun K hK => QL (ds0 := [13, 12, 11, 10, 9, 8, 7, 6, 5, 4, 3, 2, 1, 0]) (cs := [_, _, _, _, _]) Z Z Z Z Z Z (Q0 (ds0 := [12, 11, 10, 9, 8, 7, 6, 5, 4, 3, 2, 1, 0]) (YJ (by omega) (by omega)) Z Z (.inr Z) Z Z (ZM Z (Qb Z ?_)))
 refine Qv (g := 13) Z (fun h1 => ?_) (fun h1 => ?_)
 ·try rw [h1]
  try simp only [qB, Qo] at h1
  refine Qq Z (Qq Z (Qq Z (Qi Z Z (Qb Z (Qq Z (Qq Z (Qq Z (Qq Z (Qq Z (Qi Z Z (hK _ _ (Qa (kp3 Z Z Z) ?_))))))))))))
  refine Zl Z (Qe fun K hK => Qb Z (hK _ _ (Qa (kp1 Z) ?_)))
  refine Qr (Qj (Qs Z ?_))
  first | (simp [QcF, h1]; done) | (exact (Qc6 (by assumption) (by assumption) (by assumption)).symm) | (exact QaV (by assumption) (by assumption) (by assumption)) | (exact (XS (by assumption) (by assumption) (by assumption) (by assumption) (by assumption)).symm) | (exact (XT (by assumption) (by assumption) (by assumption) (by assumption) (by assumption)).symm) | (rw [hI.2.2, Yo (by omega) (by omega) (by assumption)]) | (rw [hI.2.2, Yn (by omega) (by omega) (by omega)]; simp [Qo])
 ·try rw [h1]
  try simp only [qB, Qo] at h1
  refine Qg Z (QL (ds0 := [9, 8, 7, 6, 5, 4, 3, 2, 1, 0]) (cs := [_, _, _, _, _]) Z Z Z Z Z Z (Qg Z (Q0 (ds0 := [8, 7, 6, 5, 4, 3, 2, 1, 0]) (YJ (by omega) (by omega)) Z Z (.inr Z) Z Z (Qg Z (ZM Z (Qi Z Z (Qb Z ?_)))))))
  refine Qv (g := 18) Z (fun h2 => ?_) (fun h2 => ?_)
  ·try rw [h2]
   try simp only [qB, Qo] at h2
   refine Qq Z (Qq Z (Qq Z (Qq Z (Qq Z (Qi Z Z (hK _ _ (Qa (kp3 Z Z Z) ?_)))))))
   refine Zl Z (Qe fun K hK => Qb Z (hK _ _ (Qa (kp1 Z) ?_)))
   refine Qr (Qj (Qs Z ?_))
   first | (simp [QcF, h1, h2]; done) | (exact (Qc6 (by assumption) (by assumption) (by assumption)).symm) | (exact QaV (by assumption) (by assumption) (by assumption)) | (exact (XS (by assumption) (by assumption) (by assumption) (by assumption) (by assumption)).symm) | (exact (XT (by assumption) (by assumption) (by assumption) (by assumption) (by assumption)).symm) | (rw [hI.2.2, Yo (by omega) (by omega) (by assumption)]) | (rw [hI.2.2, Yn (by omega) (by omega) (by omega)]; simp [Qo])
  ·try rw [h2]
   try simp only [qB, Qo] at h2
   refine Qg Z (QL (ds0 := [4, 1, 0]) (cs := [_, _, _, _, _]) Z Z Z Z Z Z (Qg Z (Q0 (ds0 := [1, 0]) (Qcl) Z Z (.inl Z) Z Z (Qg Z (QL (ds0 := [2, 1, 0]) (cs := [_, _, _, _, _]) Z Z Z Z Z Z (Qg Z (Q0 (ds0 := [1, 0]) (Qcl) Z Z (.inl Z) Z Z (Qg Z (Qhl Z Z Z (Qi Z Z (hK _ _ (Qa (kp3 Z Z Z) ?_))))))))))))
   refine QA Z (fun h3 => ?_) (fun h3 => ?_)
   ·try rw [h3]
    try simp only [qB, Qo] at h3
    refine Qe fun K hK => Qb Z (hK _ _ (Qa (kp1 Z) ?_))
    refine Qr (Qj (Qs Z ?_))
    first | (simp [QcF, h1, h2, h3]; done) | (exact (Qc6 (by assumption) (by assumption) (by assumption)).symm) | (exact QaV (by assumption) (by assumption) (by assumption)) | (exact (XS (by assumption) (by assumption) (by assumption) (by assumption) (by assumption)).symm) | (exact (XT (by assumption) (by assumption) (by assumption) (by assumption) (by assumption)).symm) | (rw [hI.2.2, Yo (by omega) (by omega) (by assumption)]) | (rw [hI.2.2, Yn (by omega) (by omega) (by omega)]; simp [Qo])
   ·try rw [h3]
    try simp only [qB, Qo] at h3
    refine Qy (Qf (kp2 Z Z) ?_)
    refine QG ?_ -- 1
    refine Qe fun K hK => Qh Z Z (Zm (ds0 := [13, 2, 1, 0]) Z Z Z Z Z (Qh Z Z (Zm (ds0 := [13, 2, 1, 0]) Z Z Z Z Z (Q0 (ds0 := [2, 1, 0]) (ZI) Z Z (.inr Z) Z Z (Qh Z Z (Zm (ds0 := [8, 2, 1, 0]) Z Z Z Z Z (Qh Z Z (Zm (ds0 := [8, 2, 1, 0]) Z Z Z Z Z (Q0 (ds0 := [2, 1, 0]) (ZI) Z Z (.inr Z) Z Z (Qh Z Z ?_))))))))))
    refine Zm (ds0 := [3, 2, 1, 0]) Z Z Z Z Z (Qh Z Z (Zm (ds0 := [3, 2, 1, 0]) Z Z Z Z Z (Q0 (ds0 := [2, 1, 0]) (ZI) Z Z (.inr Z) Z Z (QM Z Z (Q0 (ds0 := [0]) (Qhv (l := [ZS a a', ZS b b', ZS c c']) (by simp)) Z Z (.inr Z) Z Z (Qb Z (hK _ _ (Qa (kp3 Z Z Z) ?_))))))))
    refine Qe fun K hK => Qb Z (Yy Z Z (hK _ _ (Qa (kp4 Z Z Z Z) ?_)))
    refine QA Z (fun h4 => ?_) (fun h4 => ?_)
    ·try rw [h4]
     try simp only [qB, Qo] at h4
     refine Qe fun K hK => Qb Z (Qb Z (hK _ _ (Qa (kp1 Z) ?_)))
     refine Qr (Qj (Qs Z ?_))
     first | (simp [QcF, h1, h2, h3, h4]; done) | (exact (Qc6 (by assumption) (by assumption) (by assumption)).symm) | (exact QaV (by assumption) (by assumption) (by assumption)) | (exact (XS (by assumption) (by assumption) (by assumption) (by assumption) (by assumption)).symm) | (exact (XT (by assumption) (by assumption) (by assumption) (by assumption) (by assumption)).symm) | (rw [hI.2.2, Yo (by omega) (by omega) (by assumption)]) | (rw [hI.2.2, Yn (by omega) (by omega) (by omega)]; simp [Qo])
    ·try rw [h4]
     try simp only [qB, Qo] at h4
     refine Qy (Qf (kp2 Z Z) ?_)
     refine QG ?_ -- 2
     refine Qe fun K hK => Qh Z Z (QE Z Z Z (Qb9 Z Z (hK _ _ (Qa (kp3 Z Z Z) ?_))))
     refine QA Z (fun h5 => ?_) (fun h5 => ?_)
     ·try rw [h5]
      try simp only [qB, Qo] at h5
      refine Qe fun K hK => Qb Z (hK _ _ (Qa (kp1 Z) ?_))
      refine Qr (Qj (Qs Z ?_))
      first | (simp [QcF, h1, h2, h3, h4, h5]; done) | (exact (Qc6 (by assumption) (by assumption) (by assumption)).symm) | (exact QaV (by assumption) (by assumption) (by assumption)) | (exact (XS (by assumption) (by assumption) (by assumption) (by assumption) (by assumption)).symm) | (exact (XT (by assumption) (by assumption) (by assumption) (by assumption) (by assumption)).symm) | (rw [hI.2.2, Yo (by omega) (by omega) (by assumption)]) | (rw [hI.2.2, Yn (by omega) (by omega) (by omega)]; simp [Qo])
     ·try rw [h5]
      try simp only [qB, Qo] at h5
      refine Qy (Qf (kp2 Z Z) ?_)
      refine QG ?_ -- 3
      refine Qe fun K hK => Qh Z Z (QE Z Z Z (Qb9 Z Z (hK _ _ (Qa (kp3 Z Z Z) ?_))))
      refine QA Z (fun h6 => ?_) (fun h6 => ?_)
      ·try rw [h6]
       try simp only [qB, Qo] at h6
       refine Qe fun K hK => Qb Z (hK _ _ (Qa (kp1 Z) ?_))
       refine Qr (Qj (Qs Z ?_))
       first | (simp [QcF, h1, h2, h3, h4, h5, h6]; done) | (exact (Qc6 (by assumption) (by assumption) (by assumption)).symm) | (exact QaV (by assumption) (by assumption) (by assumption)) | (exact (XS (by assumption) (by assumption) (by assumption) (by assumption) (by assumption)).symm) | (exact (XT (by assumption) (by assumption) (by assumption) (by assumption) (by assumption)).symm) | (rw [hI.2.2, Yo (by omega) (by omega) (by assumption)]) | (rw [hI.2.2, Yn (by omega) (by omega) (by omega)]; simp [Qo])
      ·try rw [h6]
       try simp only [qB, Qo] at h6
       refine Qy (Qf (kp2 Z Z) (Qe fun K hK => Qh Z Z (Zm (ds0 := [5, 1]) Z Z Z Z Z (Q0 (ds0 := [1]) (XR (by omega)) Z Z (.inl Z) Z Z (Qh Z Z (Zm (ds0 := [2, 0]) Z Z Z Z Z (Q0 (ds0 := [0]) (XR (by omega)) Z Z (.inl Z) Z Z (Qb Z (Qb Z (hK _ _ (Qa (kp2 Z Z) ?_)))))))))))
       refine QG ?_ -- 4
       refine Qe fun K hK => Qb Z (hK _ _ (Qa (kp3 Z Z Z) ?_))
       refine QK ?_
       refine Z0 (ι := Nat) (fun i => ⟨[(6, .sl (YK (Q1 p 46))), (7, .sl (YK (Q1 p' 46))), (8, .int .i64 i)], []⟩) (fun i => i <= (Q1 p 46).length /\ i <= (Q1 p' 46).length /\ QcF a b c p q a' b' c' p' q' = QjH ((Q1 p 46).drop i) ((Q1 p' 46).drop i)) (fun i => (Q1 p 46).length - i) 0 ?_ ?_ ?_
       ·exact Zw (l := [6, 7, 8]) (kp3 rfl rfl rfl) QB rfl rfl rfl
       ·exact ⟨Nat.zero_le _, Nat.zero_le _, Qn1 (by assumption) (by assumption) (by assumption) (by assumption) (by assumption) (by assumption)⟩
       intro i hI
       have sl := Qdu (s := p) (c := 46)
       try dsimp only
       refine QG ?_ -- 5
       refine Qe fun K hK => Qb Z (Qb Z (ZC Z Z (YI Z Z (Qb Z ?_))))
       refine Qv (g := 61) Z (fun h7 => ?_) (fun h7 => ?_)
       ·try rw [h7]
        try simp only [qB, Qo] at h7
        refine Qg Z (Qb Z (Qg Z (Qb Z (Qg Z (ZC Z Z (Qg Z (YI Z Z (Qi Z Z (hK _ _ (Qa (kp4 Z Z Z Z) ?_))))))))))
        refine QA Z (fun h8 => ?_) (fun h8 => ?_)
        ·try rw [h8]
         try simp only [qB, Qo] at h8
         refine Qy (Qf (kp3 Z Z Z) ?_)
         refine QG ?_ -- 6
         refine QK (Qe fun K hK => Qb Z (Qb Z (Q2 Z Z Z (by omega) (XU (by omega)) Z (Zm (ds0 := [1, 0]) Z Z Z Z Z (Qb Z (Qb Z (Q2 Z Z Z (by omega) (XU (by omega)) Z (Zm (ds0 := [1, 0]) Z Z Z Z Z (Q0 (ds0 := [0]) (Qgp (XY (by omega) hp) (XY (by omega) hp')) Z Z (.inr Z) Z Z (Qb Z ?_))))))))))
         refine hK _ _ (Qa (kp4 Z Z Z Z) ?_)
         refine Qe fun K hK => Qb Z (Yy Z Z (hK _ _ (Qa (kp5 Z Z Z Z Z) ?_)))
         refine QA Z (fun h9 => ?_) (fun h9 => ?_)
         ·try rw [h9]
          try simp only [qB, Qo] at h9
          refine Qe fun K hK => Qb Z (Qb Z (hK _ _ (Qa (kp1 Z) ?_)))
          refine Qr (Qw (Qj (Q8 (Qw (Qj (Qs Z ?_))))))
          first | (simp [QcF, h1, h2, h3, h4, h5, h6, h7, h8, h9]; done) | (exact (Qc6 (by assumption) (by assumption) (by assumption)).symm) | (exact QaV (by assumption) (by assumption) (by assumption)) | (exact (XS (by assumption) (by assumption) (by assumption) (by assumption) (by assumption)).symm) | (exact (XT (by assumption) (by assumption) (by assumption) (by assumption) (by assumption)).symm) | (rw [hI.2.2, Yo (by omega) (by omega) (by assumption)]) | (rw [hI.2.2, Yn (by omega) (by omega) (by omega)]; simp [Qo])
         ·try rw [h9]
          try simp only [qB, Qo] at h9
          refine Qy (Qk (Qf (kp3 Z Z Z) (Zb fun K hK => Qb Z (Zh Z Z (by first | exact Qt (by omega) (by omega) | exact QX (by omega) (by omega) | exact Za (by omega) (by omega) | rfl) (Qb Z (hK _ ?_))))))
          refine Qp (i + 1) ?_ ?_ ?_
          ·exact Q7 (kp3 rfl rfl rfl)
          ·exact ⟨by omega, by omega, by rw [hI.2.2, Qh0 (by omega) (by omega) (by assumption)]⟩
          ·first | omega | (simp only; omega) | (dsimp only; omega)
        ·try rw [h8]
         try simp only [qB, Qo] at h8
         refine Zy (QO (QD (QJ (Qf (kp2 Z Z) (Qe fun K hK => Qb Z (ZC Z Z (Qb Z (ZC Z Z (Qz (ZI) Z Z (.inr Z) (Qb Z ?_))))))))))
         refine hK _ _ (Qa (kp1 Z) ?_)
         refine Qr (Qs Z ?_)
         first | (simp [QcF, h1, h2, h3, h4, h5, h6, h7, h8]; done) | (exact (Qc6 (by assumption) (by assumption) (by assumption)).symm) | (exact QaV (by assumption) (by assumption) (by assumption)) | (exact (XS (by assumption) (by assumption) (by assumption) (by assumption) (by assumption)).symm) | (exact (XT (by assumption) (by assumption) (by assumption) (by assumption) (by assumption)).symm) | (rw [hI.2.2, Yo (by omega) (by omega) (by assumption)]) | (rw [hI.2.2, Yn (by omega) (by omega) (by omega)]; simp [Qo])
       ·try rw [h7]
        try simp only [qB, Qo] at h7
        refine Qq Z (Qq Z (Qq Z (Qq Z (Qi Z Z (hK _ _ (Qa (kp4 Z Z Z Z) ?_))))))
        refine ZD Z (Zy (QO (QD (QJ (Qf (kp2 Z Z) (Qe fun K hK => Qb Z (ZC Z Z (Qb Z (ZC Z Z (Qz (ZI) Z Z (.inr Z) ?_))))))))))
        refine Qb Z (hK _ _ (Qa (kp1 Z) ?_))
        refine Qr (Qs Z ?_)
        first | (simp [QcF, h1, h2, h3, h4, h5, h6, h7]; done) | (exact (Qc6 (by assumption) (by assumption) (by assumption)).symm) | (exact QaV (by assumption) (by assumption) (by assumption)) | (exact (XS (by assumption) (by assumption) (by assumption) (by assumption) (by assumption)).symm) | (exact (XT (by assumption) (by assumption) (by assumption) (by assumption) (by assumption)).symm) | (rw [hI.2.2, Yo (by omega) (by omega) (by assumption)]) | (rw [hI.2.2, Yn (by omega) (by omega) (by omega)]; simp [Qo])
theorem Qbu {e a b c : Int} {p q : List UInt8} {f : Bool} (hp : p.length <= 1000000) (hq : q.length <= 1000000) : Ok Tryd.prog 103 [.agg [.int .i64 e, .int .i64 a, .int .i64 b, .int .i64 c, .str p, .str q, .bool f]] (.bool (YY e a b c p q f)) := by
 refine Ok.ofT Z5 Tryd.func103 Qqk (Nat.le_of_ble_eq_true Z) ?_
 show TW _ _ tf103.body _ _
 refine Qe fun K hK => ZL Z Z Z (Qb Z (hK _ _ (Qa (kp1 Z) ?_)))
 refine QG ?_ -- 0
 refine Qe fun K hK => Qh Z Z (QE Z Z Z (YH Z Z (Qb Z ?_)))
 refine Qv (g := 6) Z (fun h1 => ?_) (fun h1 => ?_)
 ·try rw [h1]
  try simp only [qB] at h1
  refine Qq Z (Qq Z (Qq Z (Qi Z Z (hK _ _ (Qa (kp2 Z Z) ?_)))))
  refine Zl Z (Qe fun K hK => Qh Z Z (QF (cs := [_, _, _, _, _]) Z Z Z Z (QY Z Z (Qhl Z Z Z (Qb Z ?_)))))
  refine Qv (g := 15) Z (fun h2 => ?_) (fun h2 => ?_)
  ·try rw [h2]
   try simp only [qB] at h2
   refine Qg Z (Qh Z Z (Qg Z (QE Z Z Z (Qg Z (ZM Z (Qi Z Z (Qb Z (hK _ _ (Qa (kp1 Z) ?_)))))))))
   refine Qr (Qj (Qm Z ?_))
   (repeat clear hK K); first | (simp_all [YY]; done) | (simp_all [YY]; omega)
  ·try rw [h2]
   try simp only [qB] at h2
   refine Qq Z (Qq Z (Qq Z (Qi Z Z (Qb Z (hK _ _ (Qa (kp1 Z) ?_))))))
   refine Qr (Qj (Qm Z ?_))
   (repeat clear hK K); first | (simp_all [YY]; done) | (simp_all [YY]; omega)
 ·try rw [h1]
  try simp only [qB] at h1
  refine Qg Z (Qh Z Z (Qg Z (QE Z Z Z (Qg Z (YH Z Z (Qi Z Z (hK _ _ (Qa (kp2 Z Z) ?_))))))))
  refine QA Z (fun h3 => ?_) (fun h3 => ?_)
  ·try rw [h3]
   try simp only [qB] at h3
   refine Qe fun K hK => Qh Z Z (QF (cs := [_, _, _, _, _]) Z Z Z Z (QY Z Z (Qhl Z Z Z (Qb Z ?_))))
   refine Qv (g := 15) Z (fun h4 => ?_) (fun h4 => ?_)
   ·try rw [h4]
    try simp only [qB] at h4
    refine Qg Z (Qh Z Z (Qg Z (QE Z Z Z (Qg Z (ZM Z (Qi Z Z (Qb Z (hK _ _ (Qa (kp1 Z) ?_)))))))))
    refine Qr (Qj (Qm Z ?_))
    (repeat clear hK K); first | (simp_all [YY]; done) | (simp_all [YY]; omega)
   ·try rw [h4]
    try simp only [qB] at h4
    refine Qq Z (Qq Z (Qq Z (Qi Z Z (Qb Z (hK _ _ (Qa (kp1 Z) ?_))))))
    refine Qr (Qj (Qm Z ?_))
    (repeat clear hK K); first | (simp_all [YY]; done) | (simp_all [YY]; omega)
  ·try rw [h3]
   try simp only [qB] at h3
   refine Qe fun K hK => Qh Z Z (QE Z Z Z (Yy Z Z (hK _ _ (Qa (kp2 Z Z) ?_))))
   refine QA Z (fun h5 => ?_) (fun h5 => ?_)
   ·try rw [h5]
    try simp only [qB] at h5
    refine Qe fun K hK => Qb Z (hK _ _ (Qa (kp1 Z) ?_))
    refine Qr (Qj (Qm Z ?_))
    (repeat clear hK K); first | (simp_all [YY]; done) | (simp_all [YY]; omega)
   ·try rw [h5]
    try simp only [qB] at h5
    refine Qy (Qf (kp1 Z) (Qe fun K hK => Qh Z Z (QF (cs := [_, _, _, _, _]) Z Z Z Z (Qz (YJ (by omega) (by omega)) Z Z (.inr Z) (Qb Z ?_)))))
    refine Qv (g := 26) Z (fun h6 => ?_) (fun h6 => ?_)
    ·try rw [h6]
     try simp only [qB] at h6
     refine Qg Z (Qh Z Z (Qg Z (Qh Z Z (Qg Z (QE Z Z Z (Qg Z (Qb9 Z Z (Qi Z Z (Qb Z (hK _ _ (Qa (kp1 Z) ?_)))))))))))
     refine Qr (Qm Z ?_)
     (repeat clear hK K); first | (simp_all [YY]; done) | (simp_all [YY]; omega)
    ·try rw [h6]
     try simp only [qB] at h6
     refine Qq Z (Qq Z (Qq Z (Qq Z (Qi Z Z (Qb Z (hK _ _ (Qa (kp1 Z) ?_)))))))
     refine Qr (Qm Z ?_)
     (repeat clear hK K); first | (simp_all [YY]; done) | (simp_all [YY]; omega)
theorem QcV {e a b c : Int} {p q : List UInt8} {f : Bool} (hp : p.length <= 1000000) (hq : q.length <= 1000000) {e' a' b' c' : Int} {p' q' : List UInt8} {f' : Bool} (hp' : p'.length <= 1000000) (hq' : q'.length <= 1000000) : Ok Tryd.prog 94 [.agg [.int .i64 e, .int .i64 a, .int .i64 b, .int .i64 c, .str p, .str q, .bool f], .agg [.int .i64 e', .int .i64 a', .int .i64 b', .int .i64 c', .str p', .str q', .bool f']] (.int .i64 (Yr e a b c p q f e' a' b' c' p' q' f')) := by
 refine Ok.ofT Z5 Tryd.func94 QrU (Nat.le_of_ble_eq_true Z) ?_
 show TW _ _ tf94.body _ _
 refine Qe fun K hK => ZL Z Z Z (ZL Z Z Z (Qb Z (hK _ _ (Qa (kp2 Z Z) ?_))))
 refine QG ?_ -- 0
 refine Qe fun K hK => QF (cs := [_, _, _, _, _, _, _]) Z Z Z Z (Qz (Qbu (by omega) (by omega)) Z Z (.inr Z) (ZM Z (Qb Z ?_)))
 refine Qv (g := 9) Z (fun h1 => ?_) (fun h1 => ?_)
 ·try rw [h1]
  try simp only [qB] at h1
  refine Qq Z (Qq Z (Qq Z (Qi Z Z (hK _ _ (Qa (kp3 Z Z Z) ?_)))))
  refine Zl Z (Qe fun K hK => Qb Z (hK _ _ (Qa (kp1 Z) ?_)))
  refine Qr (Qj (Qs Z ?_))
  (repeat clear hK K); first | (simp [Yr, h1]; done) | exact (Qal (by assumption) (by assumption) (by first | (left; assumption) | (right; assumption))).symm | (simp_all [Yr]; done)
 ·try rw [h1]
  try simp only [qB] at h1
  refine Qg Z (QF (cs := [_, _, _, _, _, _, _]) Z Z Z Z (Qg Z (Qz (Qbu (by omega) (by omega)) Z Z (.inr Z) (Qg Z (ZM Z (Qi Z Z (hK _ _ (Qa (kp3 Z Z Z) ?_))))))))
  refine QA Z (fun h2 => ?_) (fun h2 => ?_)
  ·try rw [h2]
   try simp only [qB] at h2
   refine Qe fun K hK => Qb Z (hK _ _ (Qa (kp1 Z) ?_))
   refine Qr (Qj (Qs Z ?_))
   (repeat clear hK K); first | (simp [Yr, h1, h2]; done) | exact (Qal (by assumption) (by assumption) (by first | (left; assumption) | (right; assumption))).symm | (simp_all [Yr]; done)
  ·try rw [h2]
   try simp only [qB] at h2
   refine Qe fun K hK => Qh Z Z (QE Z Z Z (Yy Z Z (Qb Z ?_)))
   refine Qv (g := 17) Z (fun h3 => ?_) (fun h3 => ?_)
   ·try rw [h3]
    try simp only [qB] at h3
    refine Qq Z (Qq Z (Qq Z (Qi Z Z (hK _ _ (Qa (kp3 Z Z Z) ?_)))))
    refine Zl Z (Qe fun K hK => Qh Z Z (QE Z Z Z (Qh Z Z (QE Z Z Z (Qz (ZI) Z Z (.inr Z) (Qb Z (hK _ _ (Qa (kp1 Z) ?_))))))))
    refine Qr (Qj (Qs Z ?_))
    (repeat clear hK K); first | (simp [Yr, h1, h2, h3]; done) | exact (Qal (by assumption) (by assumption) (by first | (left; assumption) | (right; assumption))).symm | (simp_all [Yr]; done)
   ·try rw [h3]
    try simp only [qB] at h3
    refine Qg Z (Qh Z Z (Qg Z (QE Z Z Z (Qg Z (Yy Z Z (Qi Z Z (hK _ _ (Qa (kp3 Z Z Z) ?_))))))))
    refine QA Z (fun h4 => ?_) (fun h4 => ?_)
    ·try rw [h4]
     try simp only [qB] at h4
     refine Qe fun K hK => Qh Z Z (QE Z Z Z (Qh Z Z (QE Z Z Z (Qz (ZI) Z Z (.inr Z) (Qb Z (hK _ _ (Qa (kp1 Z) ?_)))))))
     refine Qr (Qj (Qs Z ?_))
     (repeat clear hK K); first | (simp [Yr, h1, h2, h3, h4]; done) | exact (Qal (by assumption) (by assumption) (by first | (left; assumption) | (right; assumption))).symm | (simp_all [Yr]; done)
    ·try rw [h4]
     try simp only [qB] at h4
     refine Qe fun K hK => Qh Z Z (QF (cs := [_, _, _, _, _]) Z Z Z Z (Qh Z Z (QF (cs := [_, _, _, _, _]) Z Z Z Z (Qz (QaG (by omega) (by omega) (by omega) (by omega)) Z Z (.inr Z) (Qb Z (hK _ _ (Qa (kp3 Z Z Z) ?_)))))))
     refine Qe fun K hK => Qb Z (Yy Z Z (hK _ _ (Qa (kp4 Z Z Z Z) ?_)))
     refine QA Z (fun h5 => ?_) (fun h5 => ?_)
     ·try rw [h5]
      try simp only [qB] at h5
      refine Qe fun K hK => Qb Z (Qb Z (hK _ _ (Qa (kp1 Z) ?_)))
      refine Qr (Qj (Qs Z ?_))
      (repeat clear hK K); first | (simp [Yr, h1, h2, h3, h4, h5]; done) | exact (Qal (by assumption) (by assumption) (by first | (left; assumption) | (right; assumption))).symm | (simp_all [Yr]; done)
     ·try rw [h5]
      try simp only [qB] at h5
      refine Qe fun K hK => Qh Z Z (QE Z Z Z (Qh Z Z (QE Z Z Z (QnL Z Z (hK _ _ (Qa (kp2 Z Z) ?_))))))
      refine QA Z (fun h6 => ?_) (fun h6 => ?_)
      ·try rw [h6]
       try simp only [qB] at h6
       refine Qe fun K hK => Qb Z (hK _ _ (Qa (kp1 Z) ?_))
       refine Qr (Qj (Qs Z ?_))
       (repeat clear hK K); first | (simp [Yr, h1, h2, h3, h4, h5, h6]; done) | exact (Qal (by assumption) (by assumption) (by first | (left; assumption) | (right; assumption))).symm | (simp_all [Yr]; done)
      ·try rw [h6]
       try simp only [qB] at h6
       refine Qe fun K hK => Qh Z Z (QE Z Z Z (hK _ _ (Qa (kp1 Z) ?_)))
       refine QA Z (fun h7 => ?_) (fun h7 => ?_)
       ·try rw [h7]
        try simp only [qB] at h7
        refine Qe fun K hK => Qb Z (hK _ _ (Qa (kp1 Z) ?_))
        refine Qr (Qj (Qs Z ?_))
        (repeat clear hK K); first | (simp [Yr, h1, h2, h3, h4, h5, h6, h7]; done) | exact (Qal (by assumption) (by assumption) (by first | (left; assumption) | (right; assumption))).symm | (simp_all [Yr]; done)
       ·try rw [h7]
        try simp only [qB] at h7
        refine Qy (Qf (QW) (Qe fun K hK => Qb Z (hK _ _ (Qa (kp1 Z) ?_))))
        refine Qr (Qs Z ?_)
        (repeat clear hK K); first | (simp [Yr, h1, h2, h3, h4, h5, h6, h7]; done) | exact (Qal (by assumption) (by assumption) (by first | (left; assumption) | (right; assumption))).symm | (simp_all [Yr]; done)
theorem QeL {e a b c : Int} {p q : List UInt8} {f : Bool} (hp : p.length <= 1000000) (hq : q.length <= 1000000) {a' b' c' : Int} {p' q' : List UInt8} (hp' : p'.length <= 1000000) (hq' : q'.length <= 1000000) : Ok Tryd.prog 98 [.agg [.int .i64 e, .int .i64 a, .int .i64 b, .int .i64 c, .str p, .str q, .bool f], .agg [.int .i64 a', .int .i64 b', .int .i64 c', .str p', .str q']] (.bool (X9 e a b c p q f a' b' c' p' q')) := by
 refine Ok.ofT Z5 Tryd.func98 QrY (Nat.le_of_ble_eq_true Z) ?_
 show TW _ _ tf98.body _ _
 refine Qe fun K hK => ZL Z Z Z (ZL Z Z Z (Qb Z (hK _ _ (Qa (kp2 Z Z) ?_))))
 refine QG ?_ -- 0
 refine Qe fun K hK => QF (cs := [_, _, _, _, _, _, _]) Z Z Z Z (Qz (Qbu (by omega) (by omega)) Z Z (.inr Z) (ZM Z (Qb Z ?_)))
 refine Qv (g := 9) Z (fun h1 => ?_) (fun h1 => ?_)
 ·try rw [h1]
  try simp only [qB] at h1
  refine Qq Z (Qq Z (Qq Z (Qi Z Z (hK _ _ (Qa (kp3 Z Z Z) ?_)))))
  refine Zl Z (Qe fun K hK => Qb Z (hK _ _ (Qa (kp1 Z) ?_)))
  refine Qr (Qj (Qm Z ?_))
  (repeat clear hK K); first | (simp [X9, h1]; done) | (simp_all [X9]; done)
 ·try rw [h1]
  try simp only [qB] at h1
  refine Qg Z (QF (cs := [_, _, _, _, _]) Z Z Z Z (Qg Z (Qz (YJ (by omega) (by omega)) Z Z (.inr Z) (Qg Z (ZM Z (Qi Z Z (hK _ _ (Qa (kp3 Z Z Z) ?_))))))))
  refine QA Z (fun h2 => ?_) (fun h2 => ?_)
  ·try rw [h2]
   try simp only [qB] at h2
   refine Qe fun K hK => Qb Z (hK _ _ (Qa (kp1 Z) ?_))
   refine Qr (Qj (Qm Z ?_))
   (repeat clear hK K); first | (simp [X9, h1, h2]; done) | (simp_all [X9]; done)
  ·try rw [h2]
   try simp only [qB] at h2
   refine Qe fun K hK => Qh Z Z (QE Z Z Z (Yy Z Z (hK _ _ (Qa (kp3 Z Z Z) ?_))))
   refine QA Z (fun h3 => ?_) (fun h3 => ?_)
   ·try rw [h3]
    try simp only [qB] at h3
    refine Qe fun K hK => Qh Z Z (QE Z Z Z (YI Z Z (Qb Z (hK _ _ (Qa (kp1 Z) ?_)))))
    refine Qr (Qj (Qm Z ?_))
    (repeat clear hK K); first | (simp [X9, h1, h2, h3]; done) | (simp_all [X9]; done)
   ·try rw [h3]
    try simp only [qB] at h3
    refine Qy (Qf (kp2 Z Z) (Qe fun K hK => Qh Z Z (QF (cs := [_, _, _, _, _]) Z Z Z Z (QF (cs := [_, _, _, _, _]) Z Z Z Z (Qz (QaG (by omega) (by omega) (by omega) (by omega)) Z Z (.inr Z) (Qb Z (hK _ _ (Qa (kp2 Z Z) ?_))))))))
    refine Qe fun K hK => Qb Z (YI Z Z (Qb Z ?_))
    refine Qv (g := 26) Z (fun h4 => ?_) (fun h4 => ?_)
    ·try rw [h4]
     try simp only [qB] at h4
     refine Qq Z (Qq Z (Qq Z (QI Z (QI Z (QI Z (Qq Z (Qi Z Z (Qb Z (hK _ _ (Qa (kp1 Z) ?_))))))))))
     refine Qr (Qm Z ?_)
     (repeat clear hK K); first | (simp [X9, h1, h2, h3, h4]; done) | (simp_all [X9]; done)
    ·try rw [h4]
     try simp only [qB] at h4
     refine Qg Z (Qb Z (Qg Z (YH Z Z (Qg Z (Qb Z ?_)))))
     refine Qv (g := 29) Z (fun h5 => ?_) (fun h5 => ?_)
     ·try rw [h5]
      try simp only [qB] at h5
      refine Qg Z (Qh Z Z (Qg Z (QE Z Z Z (Qg Z (ZM Z (Qg Z (Qi Z Z (Qi Z Z (Qb Z (hK _ _ (Qa (kp1 Z) ?_)))))))))))
      refine Qr (Qm Z ?_)
      (repeat clear hK K); first | (simp [X9, h1, h2, h3, h4, h5]; done) | (simp_all [X9]; done)
     ·try rw [h5]
      try simp only [qB] at h5
      refine Qq Z (Qq Z (Qq Z (Qg Z (Qi Z Z (Qi Z Z (Qb Z (hK _ _ (Qa (kp1 Z) ?_))))))))
      refine Qr (Qm Z ?_)
      (repeat clear hK K); first | (simp [X9, h1, h2, h3, h4, h5]; done) | (simp_all [X9]; done)
theorem QcW {e a b c : Int} {p q : List UInt8} {f : Bool} (hp : p.length <= 1000000) (hq : q.length <= 1000000) {e' a' b' c' : Int} {p' q' : List UInt8} {f' : Bool} (hp' : p'.length <= 1000000) (hq' : q'.length <= 1000000) : Ok Tryd.prog 93 [.agg [.int .i64 e, .int .i64 a, .int .i64 b, .int .i64 c, .str p, .str q, .bool f, .int .i64 e', .int .i64 a', .int .i64 b', .int .i64 c', .str p', .str q', .bool f']] (.bool (QbK e a b c p q f e' a' b' c' p' q' f')) := by
 refine Ok.ofT Z5 Tryd.func93 QrT (Nat.le_of_ble_eq_true Z) ?_
 show TW _ _ tf93.body _ _
 refine Qe fun K hK => ZL Z Z Z (Qb Z (hK _ _ (Qa (kp1 Z) ?_)))
 refine Qe fun K hK => Qh Z Z (QF (cs := [_, _, _, _, _, _, _]) Z Z Z Z (Qz (Qbu (by omega) (by omega)) Z Z (.inr Z) (Qb Z ?_)))
 refine Qv (g := 6) Z (fun h1 => ?_) (fun h1 => ?_)
 ·try rw [h1]
  try simp only [qB] at h1
  refine Qg Z (Qh Z Z (Qg Z (QF (cs := [_, _, _, _, _, _, _]) Z Z Z Z (Qg Z (Qz (Qbu (by omega) (by omega)) Z Z (.inr Z) (Qi Z Z (Qb Z ?_)))))))
  refine Qv (g := 11) Z (fun h2 => ?_) (fun h2 => ?_)
  ·try rw [h2]
   try simp only [qB] at h2
   refine Qg Z (Qh Z Z (Qg Z (QF (cs := [_, _, _, _, _, _, _]) Z Z Z Z (Qg Z (Qh Z Z (Qg Z (QF (cs := [_, _, _, _, _, _, _]) Z Z Z Z (Qg Z (Qz (QcV (by omega) (by omega) (by omega) (by omega)) Z Z (.inr Z) (Qg Z (YI Z Z ?_)))))))))))
   refine Qi Z Z (Qb Z (hK _ _ (Qa (kp1 Z) ?_)))
   refine Qr (Qm Z ?_)
   (repeat clear hK K); first | (simp [QbK, h1, h2]; done) | (simp_all [QbK]; done)
  ·try rw [h2]
   try simp only [qB] at h2
   refine Qq Z (Qq Z (Qq Z (Qq Z (Qq Z (Qq Z (Qi Z Z (Qb Z (hK _ _ (Qa (kp1 Z) ?_)))))))))
   refine Qr (Qm Z ?_)
   (repeat clear hK K); first | (simp [QbK, h1, h2]; done) | (simp_all [QbK]; done)
 ·try rw [h1]
  try simp only [qB] at h1
  refine Qq Z (Qq Z (Qq Z (Qi Z Z (Qb Z (Qq Z (Qq Z (Qq Z (Qq Z (Qq Z (Qq Z (Qi Z Z ?_)))))))))))
  refine Qb Z (hK _ _ (Qa (kp1 Z) ?_))
  refine Qr (Qm Z ?_)
  (repeat clear hK K); first | (simp [QbK, h1]; done) | (simp_all [QbK]; done)
theorem Qix {e a b c : Int} {p q : List UInt8} {f : Bool} (hp : p.length <= 1000000) (hq : q.length <= 1000000) {e' a' b' c' : Int} {p' q' : List UInt8} {f' : Bool} (hp' : p'.length <= 1000000) (hq' : q'.length <= 1000000) {x y z : Int} {r s : List UInt8} (hr : r.length <= 1000000) (hs : s.length <= 1000000) : Ok Tryd.prog 82 [.agg [.int .i64 e, .int .i64 a, .int .i64 b, .int .i64 c, .str p, .str q, .bool f, .int .i64 e', .int .i64 a', .int .i64 b', .int .i64 c', .str p', .str q', .bool f'], .agg [.int .i64 x, .int .i64 y, .int .i64 z, .str r, .str s]] (.bool (Qcq e a b c p q f e' a' b' c' p' q' f' x y z r s)) := by
 refine Ok.ofT Z5 Tryd.func82 QrJ (Nat.le_of_ble_eq_true Z) ?_
 show TW _ _ tf82.body _ _
 refine Qe fun K hK => ZL Z Z Z (ZL Z Z Z (Qb Z (hK _ _ (Qa (kp2 Z Z) ?_))))
 refine Qe fun K hK => QF (cs := [_, _, _, _, _, _, _, _, _, _, _, _, _, _]) Z Z Z Z (Qz (QcW (by omega) (by omega) (by omega) (by omega)) Z Z (.inr Z) (Qb Z ?_))
 refine Qv (g := 7) Z (fun h1 => ?_) (fun h1 => ?_)
 ·try rw [h1]
  try simp only [qB] at h1
  refine Qg Z (QF (cs := [_, _, _, _, _]) Z Z Z Z (Qg Z (Qz (YJ (by omega) (by omega)) Z Z (.inr Z) (Qi Z Z (Qb Z ?_)))))
  refine Qv (g := 11) Z (fun h2 => ?_) (fun h2 => ?_)
  ·try rw [h2]
   try simp only [qB] at h2
   refine Qg Z (Qh Z Z (Qg Z (QF (cs := [_, _, _, _, _, _, _]) Z Z Z Z (Qg Z (QF (cs := [_, _, _, _, _]) Z Z Z Z (Qg Z (Qz (QeL (by omega) (by omega) (by omega) (by omega)) Z Z (.inr Z) (Qi Z Z (Qb Z ?_)))))))))
   refine Qv (g := 17) Z (fun h3 => ?_) (fun h3 => ?_)
   ·try rw [h3]
    try simp only [qB] at h3
    refine Qg Z (Qh Z Z (Qg Z (QF (cs := [_, _, _, _, _, _, _]) Z Z Z Z (Qg Z (QF (cs := [_, _, _, _, _]) Z Z Z Z (Qg Z (Qz (QeL (by omega) (by omega) (by omega) (by omega)) Z Z (.inr Z) (Qg Z (ZM Z (Qi Z Z (Qb Z ?_)))))))))))
    refine hK _ _ (Qa (kp1 Z) ?_)
    refine Qr (Qm Z ?_)
    (repeat clear hK K); first | (simp [Qcq, h1, h2, h3]; done) | (simp_all [Qcq]; done)
   ·try rw [h3]
    try simp only [qB] at h3
    refine Qq Z (Qq Z (Qq Z (Qq Z (Qq Z (Qi Z Z (Qb Z (hK _ _ (Qa (kp1 Z) ?_))))))))
    refine Qr (Qm Z ?_)
    (repeat clear hK K); first | (simp [Qcq, h1, h2, h3]; done) | (simp_all [Qcq]; done)
  ·try rw [h2]
   try simp only [qB] at h2
   refine Qq Z (Qq Z (Qq Z (Qq Z (Qi Z Z (Qb Z (Qq Z (Qq Z (Qq Z (Qq Z (Qq Z (Qi Z Z ?_)))))))))))
   refine Qb Z (hK _ _ (Qa (kp1 Z) ?_))
   refine Qr (Qm Z ?_)
   (repeat clear hK K); first | (simp [Qcq, h1, h2]; done) | (simp_all [Qcq]; done)
 ·try rw [h1]
  try simp only [qB] at h1
  refine Qq Z (Qq Z (Qi Z Z (Qb Z (Qq Z (Qq Z (Qq Z (Qq Z (Qi Z Z (Qb Z (Qq Z (Qq Z ?_)))))))))))
  refine Qq Z (Qq Z (Qq Z (Qi Z Z (Qb Z (hK _ _ (Qa (kp1 Z) ?_))))))
  refine Qr (Qm Z ?_)
  (repeat clear hK K); first | (simp [Qcq, h1]; done) | (simp_all [Qcq]; done)
end Go.Proofs
namespace M3
open Go Go.Abs
end M3
namespace M3
open Go Go.Abs
end M3
namespace M3
open Go Go.Abs
end M3
namespace M25
open Go Go.Abs M3
def Qd1 (a b c : Int) : Bool := decide (a = 0) && decide (b = 0) && decide (c = 0)
def XV (a b c : Int) (p q : List UInt8) (part : Int) : Option (Int × Int × Int) :=
 if Qa8 a b c p q = false \/ part < 0 \/ 2 < part then none
 else
  let o := if part = 0 then (a + 1, 0, 0) else if part = 1 then (a, b + 1, 0) else (a, b, c + 1)
  if Qa8 o.1 o.2.1 o.2.2 [] [] = true then some o else none
def dOV (o : Option (Int × Int × Int)) : D := .tup [.agg [.int .i64 (o.getD (0, 0, 0)).1, .int .i64 (o.getD (0, 0, 0)).2.1, .int .i64 (o.getD (0, 0, 0)).2.2, .str [], .str []], .bool o.isSome]
def Xy (a b c : Int) (p q : List UInt8) : Nat -> Option (Int × Int × Int)
 | 0 => none
 | n + 1 => if (XV a b c p q n).isSome = true then XV a b c p q n else Xy a b c p q n
def QhX (a b c : Int) (p q : List UInt8) : Option (Int × Int × Int) :=
 if Qa8 a b c p q = false then none else if p ≠ [] then some (a, b, c) else Xy a b c p q 3
theorem Qb2 {a b c : Int} {p q : List UInt8} (h : Qa8 a b c p q = true) : (0 <= a /\ a <= 9999) /\ (0 <= b /\ b <= 9999) /\ (0 <= c /\ c <= 9999) := by
 simp only [Qa8, QfE, Bool.and_eq_true, decide_eq_true_eq] at h
 omega
theorem Qiw {a b c : Int} {p q : List UInt8} {m : Nat} (hm : 0 < m) (h : (XV a b c p q ((m : Int) - 1)).isSome = false) : Xy a b c p q m = Xy a b c p q (m - 1) := by
 obtain ⟨n, rfl⟩ : ∃ n, m = n + 1 := ⟨m - 1, by omega⟩
 rw [show ((n + 1 : Nat) : Int) - 1 = (n : Int) by omega] at h
 rw [Xy, if_neg (by rw [h]; simp)]; rfl
theorem Qhu {a b c : Int} {p q : List UInt8} {m : Nat} (hm : 0 < m) (h : (XV a b c p q ((m : Int) - 1)).isSome = true) : Xy a b c p q m = XV a b c p q ((m : Int) - 1) := by
 obtain ⟨n, rfl⟩ : ∃ n, m = n + 1 := ⟨m - 1, by omega⟩
 rw [show ((n + 1 : Nat) : Int) - 1 = (n : Int) by omega] at h ⊢
 rw [Xy, if_pos h]
def dCu (x : Cu) : List D := [.int .i64 x.e, .int .i64 x.a, .int .i64 x.b, .int .i64 x.c, .str x.p, .str x.q, .bool x.f]
def Qd9 (s : Cu × Cu) : List D := dCu s.1 ++ dCu s.2
def Zg (l : List (Cu × Cu)) : D := .sl (l.map Qd9)
def Qfw (s : List (Cu × Cu) × List (Cu × Cu)) : D := .agg [Zg s.1, Zg s.2]
def Qcm : Cu := ⟨-1, 0, 0, 0, [], [], false⟩
def QfD : Cu := ⟨1, 0, 0, 0, [], [], false⟩
def Qff (a b c : Int) : Cu := if Qd1 a b c = true then Qcm else ⟨0, a, b, c, [], [], false⟩
def Qdh (a b c : Int) : Cu := match QhX a b c [] [] with
 | none => QfD
 | some o => ⟨0, o.1, o.2.1, o.2.2, [], [], false⟩
def YZ (a b c : Int) (p q : List UInt8) : List (Cu × Cu) × List (Cu × Cu) :=
 if Qa8 a b c p q = false then ([], []) else if p ≠ [] then ([], [(⟨0, a, b, c, p, [], false⟩, ⟨0, a, b, c, p, [], true⟩)]) else ([(Qff a b c, Qdh a b c)], [])
def Qd3 (e a b c : Int) (p q : List UInt8) (f : Bool) : Bool := !decide (e = 0) || (!f && decide (p = []) && !Qd1 a b c)
def Cu.sm (x : Cu) : Prop := x.p.length <= 1000000 /\ x.q.length <= 1000000
def Sm (l : List (Cu × Cu)) : Prop := l.length <= 1000000 /\ ∀ s ∈ l, Cu.sm s.1 /\ Cu.sm s.2
theorem Sm.at {l : List (Cu × Cu)} (h : Sm l) {i : Nat} (hi : i < l.length) : (l[i].1.p.length <= 1000000 /\ l[i].1.q.length <= 1000000) /\ (l[i].2.p.length <= 1000000 /\ l[i].2.q.length <= 1000000) := h.2 _ (List.getElem_mem hi)
def Qcr (s : Cu × Cu) : Bool := QbK s.1.e s.1.a s.1.b s.1.c s.1.p s.1.q s.1.f s.2.e s.2.a s.2.b s.2.c s.2.p s.2.q s.2.f
def Qa7 (x y : Cu) : Int := Yr x.e x.a x.b x.c x.p x.q x.f y.e y.a y.b y.c y.p y.q y.f
def Qok (l : List (Cu × Cu)) (i : Nat) : Bool := match l[i]? with
 | none => true
 | some s => Qcr s && (decide (i = 0) || match l[i - 1]? with | none => true | some r => decide (Qa7 r.2 s.1 < 0))
theorem QiP {l : List (Cu × Cu)} {i : Nat} (h : i < l.length) : Qok l i = (Qcr l[i] && (decide (i = 0) || decide (Qa7 (l[i - 1]'(by omega)).2 l[i].1 < 0))) := by
 unfold Qok
 rw [List.getElem?_eq_getElem h, List.getElem?_eq_getElem (show i - 1 < l.length by omega)]
theorem QjL {l : List (Cu × Cu)} {i : Nat} (h : i < l.length) (h1 : Qcr l[i] = true) (h2 : i = 0 \/ Qa7 (l[i - 1]'(by omega)).2 l[i].1 < 0) : Qok l i = true := by
 rw [QiP h, h1]; simpa using h2
theorem Qbi {l : List (Cu × Cu)} {i : Nat} (h : i < l.length) (h1 : Qcr l[i] = false \/ (i ≠ 0 /\ 0 <= Qa7 (l[i - 1]'(by omega)).2 l[i].1)) : Qok l i = false := by
 rw [QiP h]
 rcases h1 with h1 | ⟨h1, h2⟩
 ·rw [h1]; rfl
 ·simp only [Bool.and_eq_false_iff, Bool.or_eq_false_iff, decide_eq_false_iff_not]
  exact .inr ⟨h1, by omega⟩
def Qbn (l : List (Cu × Cu)) : Bool := (List.range l.length).all (Qok l)
theorem Y4 {n i : Nat} {p : Nat -> Bool} (h : i < n) (hp : p i = false) : (List.range n).all p = false := by
 rw [Bool.eq_false_iff]; intro ha
 rw [List.all_eq_true] at ha
 rw [ha i (List.mem_range.2 h)] at hp; cases hp
theorem Qev {i : Nat} {p : Nat -> Bool} (h : (List.range i).all p = true) (hp : p i = true) : (List.range (i + 1)).all p = true := by
 rw [List.range_succ, List.all_append, h]; simp [hp]
theorem Qb5 {i : Nat} {p : Nat -> Bool} {n : Nat} (h : (List.range i).all p = true) (hn : n <= i) : (List.range n).all p = true := by
 rw [List.all_eq_true] at h ⊢
 exact fun x hx => h x (List.mem_range.2 (Nat.lt_of_lt_of_le (List.mem_range.1 hx) hn))
def QgP (s : Cu × Cu) (a b c : Int) (p q : List UInt8) : Bool := Qcq s.1.e s.1.a s.1.b s.1.c s.1.p s.1.q s.1.f s.2.e s.2.a s.2.b s.2.c s.2.p s.2.q s.2.f a b c p q
def QgO (l : List (Cu × Cu)) (a b c : Int) (p q : List UInt8) : Bool := Qbn l && l.any fun s => QgP s a b c p q
theorem QgC {l : List (Cu × Cu)} {a b c : Int} {p q : List UInt8} {i : Nat} (hi : l.length <= i) (h : (l.take i).any (fun s => QgP s a b c p q) = false) : QgO l a b c p q = false := by
 rw [List.take_of_length_le hi] at h; rw [QgO, h, Bool.and_false]
theorem QgD {l : List (Cu × Cu)} {a b c : Int} {p q : List UInt8} (h : Qbn l = false) : QgO l a b c p q = false := by rw [QgO, h]; rfl
theorem QgE {l : List (Cu × Cu)} {a b c : Int} {p q : List UInt8} {i : Nat} (h : Qbn l = true) (hi : i < l.length) (hp : QgP l[i] a b c p q = true) : QgO l a b c p q = true := by
 rw [QgO, h, Bool.true_and]; exact List.any_eq_true.2 ⟨_, List.getElem_mem hi, hp⟩
def inC (x y : Cu) (s : Cu × Cu) : Bool := decide (Qa7 s.1 x <= 0) && decide (Qa7 y s.2 <= 0)
theorem Qpg {x y : Cu} {s : Cu × Cu} (h1 : Qa7 s.1 x <= 0) (h2 : Qa7 y s.2 <= 0) : inC x y s = true := by simp [inC, h1, h2]
theorem Qpf {x y : Cu} {s : Cu × Cu} (h : ¬ Qa7 s.1 x <= 0 \/ ¬ Qa7 y s.2 <= 0) : inC x y s = false := by
 simp only [inC, Bool.and_eq_false_iff, decide_eq_false_iff_not]; exact h
def mIn (l : List (Cu × Cu)) (x y : Cu) : Bool := l.any (inC x y)
theorem QkD {α : Type} {s : List α} {p : α -> Bool} {i : Nat} (h : i < s.length) (hp : p s[i] = true) : s.any p = true := List.any_eq_true.2 ⟨_, List.getElem_mem h, hp⟩
theorem Qnd {α : Type} {s : List α} {p : α -> Bool} {i : Nat} (hi : s.length <= i) (h : (s.take i).any p = false) : s.any p = false := by rwa [List.take_of_length_le hi] at h
theorem QkC {α : Type} {s : List α} {p : α -> Bool} {i : Nat} (h : i < s.length) (ha : (s.take i).any p = false) (hp : p s[i] = false) : (s.take (i + 1)).any p = false := by
 rw [List.take_succ_eq_append_getElem h, List.any_append, ha]; simp [hp]
def Xb (x : Cu) : Bool := Qd3 x.e x.a x.b x.c x.p x.q x.f
def QcG (s : List (Cu × Cu) × List (Cu × Cu)) : Bool := Qbn s.1 && Qbn s.2 && s.1.all fun x => Xb x.1 && Xb x.2
def Qki (s : List (Cu × Cu) × List (Cu × Cu)) (a b c : Int) (p q : List UInt8) : Bool :=
 QcG s && Qa8 a b c p q && (if p = [] then QgO s.1 a b c p q else QgO s.2 a b c p q)
theorem Qaz {s : List (Cu × Cu) × List (Cu × Cu)} (h : Qbn s.1 = false \/ Qbn s.2 = false) : QcG s = false := by
 rw [QcG]; rcases h with h | h <;> simp [h]
theorem Qaa {s : List (Cu × Cu) × List (Cu × Cu)} {i : Nat} (hi : i < s.1.length) (h : Xb s.1[i].1 = false \/ Xb s.1[i].2 = false) : QcG s = false := by
 have : (s.1.all fun x => Xb x.1 && Xb x.2) = false := Yf hi (by rcases h with h | h <;> simp [h])
 rw [QcG, this, Bool.and_false]
theorem Qdl {s : List (Cu × Cu) × List (Cu × Cu)} {i : Nat} (h1 : Qbn s.1 = true) (h2 : Qbn s.2 = true) (hi : s.1.length <= i) (h : (s.1.take i).all (fun x => Xb x.1 && Xb x.2) = true) : QcG s = true := by
 rw [List.take_of_length_le hi] at h
 rw [QcG, h1, h2, h]; rfl
def Qgq (l : List Cu) : D := .sl (l.map dCu)
theorem Qib {l : List Cu} : ∀ r ∈ l.map dCu, r.length = 7 := fun r hr => by obtain ⟨x, _, rfl⟩ := List.mem_map.1 hr; rfl
theorem QmX {l : List Cu} {a b : Nat} : ∀ r ∈ ((l.map dCu).take a).drop b, r.length = 7 := fun r hr => Qib r (List.mem_of_mem_take (List.mem_of_mem_drop hr))
def QbJ : List Cu -> Cu -> List Cu
 | [], c => [c]
 | x :: r, c => if Qa7 x c < 0 then x :: QbJ r c else if Qa7 x c = 0 then x :: r else c :: x :: r
theorem Qlu {l : List Cu} {c : Cu} {k : Nat} (hk : k < l.length) (h : Qa7 l[k] c < 0) (hi : QbJ l c = l.take k ++ QbJ (l.drop k) c) : QbJ l c = l.take (k + 1) ++ QbJ (l.drop (k + 1)) c := by
 rw [hi, List.drop_eq_getElem_cons hk, QbJ, if_pos h, List.take_succ_eq_append_getElem hk, List.append_assoc]; rfl
theorem Qlt {l : List Cu} {c : Cu} {k : Nat} (hk : k < l.length) (h : Qa7 l[k] c = 0) (hi : QbJ l c = l.take k ++ QbJ (l.drop k) c) : QbJ l c = l := by
 rw [hi, List.drop_eq_getElem_cons hk, QbJ, if_neg (by omega), if_pos h, <- List.drop_eq_getElem_cons hk, List.take_append_drop]
theorem QjG {l : List Cu} {c : Cu} {k : Nat} (h : l.length <= k \/ ∃ hk : k < l.length, ¬ Qa7 l[k] c < 0 /\ Qa7 l[k] c ≠ 0) (hi : QbJ l c = l.take k ++ QbJ (l.drop k) c) : QbJ l c = l.take k ++ c :: l.drop k := by
 rw [hi]
 rcases h with h | ⟨hk, h1, h2⟩
 ·rw [List.drop_eq_nil_of_le h, QbJ]
 ·rw [List.drop_eq_getElem_cons hk, QbJ, if_neg h1, if_neg h2]
theorem Qep : ∀ (l : List Cu) (c : Cu), (QbJ l c).length <= l.length + 1
 | [], c => by simp [QbJ]
 | x :: r, c => by
  have := Qep r c
  simp only [QbJ]
  (repeat' split) <;> simp <;> omega
theorem QgR : ∀ {l : List Cu} {c : Cu}, (∀ x ∈ l, Cu.sm x) -> Cu.sm c -> ∀ x ∈ QbJ l c, Cu.sm x
 | [], c, _, hc, x, hx => by simp [QbJ] at hx; exact hx ▸ hc
 | y :: r, c, hl, hc, x, hx => by
  simp only [QbJ] at hx
  split at hx
  ·rcases List.mem_cons.1 hx with rfl | hx
   ·exact hl _ (by simp)
   ·exact QgR (fun z hz => hl z (by simp [hz])) hc x hx
  ·split at hx
   ·exact hl x hx
   ·rcases List.mem_cons.1 hx with rfl | hx
    ·exact hc
    ·exact hl x hx
def YN (l : List (Cu × Cu)) : List Cu := l.foldl (fun out s => QbJ (QbJ out s.1) s.2) [Qcm, QfD]
theorem QmH {l : List (Cu × Cu)} {i : Nat} (h : i < l.length) : YN (l.take (i + 1)) = QbJ (QbJ (YN (l.take i)) l[i].1) l[i].2 := by
 rw [List.take_succ_eq_append_getElem h, YN, List.foldl_append]; rfl
theorem Qf4 : ∀ (l : List (Cu × Cu)) (out : List Cu), (l.foldl (fun out s => QbJ (QbJ out s.1) s.2) out).length <= out.length + 2 * l.length
 | [], out => by simp
 | s :: l, out => by
  have h1 := Qep out s.1
  have h2 := Qep (QbJ out s.1) s.2
  have := Qf4 l (QbJ (QbJ out s.1) s.2)
  simp only [List.foldl_cons, List.length_cons]; omega
theorem QbG (l : List (Cu × Cu)) : (YN l).length <= 2 + 2 * l.length := Qf4 l _
theorem QhT : ∀ {l : List (Cu × Cu)} {out : List Cu}, (∀ s ∈ l, Cu.sm s.1 /\ Cu.sm s.2) -> (∀ x ∈ out, Cu.sm x) -> ∀ x ∈ l.foldl (fun out s => QbJ (QbJ out s.1) s.2) out, Cu.sm x
 | [], _, _, h => h
 | s :: l, out, hl, h => by
  rw [List.foldl_cons]
  exact QhT (fun t ht => hl t (by simp [ht])) (QgR (QgR h (hl s (by simp)).1) (hl s (by simp)).2)
theorem QjE {l : List (Cu × Cu)} (hl : ∀ s ∈ l, Cu.sm s.1 /\ Cu.sm s.2) : ∀ x ∈ YN l, Cu.sm x := QhT hl (by
 intro x hx
 simp only [List.mem_cons, List.not_mem_nil, or_false] at hx
 rcases hx with rfl | rfl <;> exact ⟨Nat.zero_le _, Nat.zero_le _⟩)
theorem Qen {l : List (Cu × Cu)} (hl : Sm l) (i : Nat) : (YN (l.take i)).length <= 2000002 /\ ∀ x ∈ YN (l.take i), Cu.sm x := by
 refine ⟨?_, QjE fun s hs => hl.2 s (List.mem_of_mem_take hs)⟩
 have := QbG (l.take i)
 have h2 : (l.take i).length <= l.length := List.length_take_le' ..
 have := hl.1
 omega
def QbI (l : List (Cu × Cu)) (x y : Cu) : List (Cu × Cu) := match l.getLast? with
 | some s => if Qa7 s.2 x = 0 then l.dropLast ++ [(s.1, y)] else l ++ [(x, y)]
 | none => l ++ [(x, y)]
theorem QhU {l : List (Cu × Cu)} {x y : Cu} {i : Nat} (hi : i + 1 = l.length) (h : Qa7 (l[i]'(by omega)).2 x = 0) : QbI l x y = l.set i ((l[i]'(by omega)).1, y) := by
 have hg : l.getLast? = some (l[i]'(by omega)) := by
  rw [List.getLast?_eq_getElem?, show l.length - 1 = i by omega, List.getElem?_eq_getElem]
 rw [QbI, hg]
 simp only [h, if_true]
 rw [List.dropLast_eq_take, show l.length - 1 = i by omega, List.set_eq_take_append_cons_drop, if_pos (by omega), List.drop_eq_nil_of_le (by omega)]
theorem Qdj {l : List (Cu × Cu)} {x y : Cu} (h : l = [] \/ ∃ i, ∃ hi : i + 1 = l.length, Qa7 (l[i]'(by omega)).2 x ≠ 0) : QbI l x y = l ++ [(x, y)] := by
 rcases h with rfl | ⟨i, hi, h⟩
 ·rfl
 ·have hg : l.getLast? = some (l[i]'(by omega)) := by
   rw [List.getLast?_eq_getElem?, show l.length - 1 = i by omega, List.getElem?_eq_getElem]
  rw [QbI, hg]
  simp only [if_neg h]
theorem QhV (l : List (Cu × Cu)) (x y : Cu) : (QbI l x y).length <= l.length + 1 := by
 unfold QbI
 split
 ·split
  ·simp
  ·simp
 ·simp
theorem QjF {l : List (Cu × Cu)} {x y : Cu} (hl : ∀ s ∈ l, Cu.sm s.1 /\ Cu.sm s.2) (hx : Cu.sm x) (hy : Cu.sm y) : ∀ s ∈ QbI l x y, Cu.sm s.1 /\ Cu.sm s.2 := by
 intro s hs
 unfold QbI at hs
 split at hs
 ·rename_i t ht
  have ht' := List.mem_of_getLast? ht
  split at hs
  ·rcases List.mem_append.1 hs with hs | hs
   ·exact hl s (List.dropLast_subset _ hs)
   ·simp at hs; subst hs; exact ⟨(hl t ht').1, hy⟩
  ·rcases List.mem_append.1 hs with hs | hs
   ·exact hl s hs
   ·simp at hs; subst hs; exact ⟨hx, hy⟩
 ·rcases List.mem_append.1 hs with hs | hs
  ·exact hl s hs
  ·simp at hs; subst hs; exact ⟨hx, hy⟩
theorem Qjx {α β : Type} {l : List α} {f : α -> β} {i : Nat} (h : i + 1 < l.length) : (l.map f)[((i : Int) + 1).toNat]? = some (f l[i + 1]) := by
 rw [show ((i : Int) + 1).toNat = i + 1 by omega, List.getElem?_map, List.getElem?_eq_getElem h]; rfl
def QbH (f : Cu -> Cu -> Bool) : List Cu -> List (Cu × Cu) -> List (Cu × Cu)
 | x :: y :: r, out => QbH f (y :: r) (if f x y = true then QbI out x y else out)
 | _, out => out
def QiN (l : List (Cu × Cu)) : List (Cu × Cu) := if l.all Qcr = true then QbH (mIn l) (YN l) [] else []
theorem Qf5 {f : Cu -> Cu -> Bool} {c : List Cu} {out : List (Cu × Cu)} {i : Nat} (h : i + 1 < c.length) : QbH f (c.drop i) out = QbH f (c.drop (i + 1)) (if f c[i] c[i + 1] = true then QbI out c[i] c[i + 1] else out) := by
 rw [List.drop_eq_getElem_cons (show i < c.length by omega), List.drop_eq_getElem_cons h, QbH]
theorem Qls {f : Cu -> Cu -> Bool} {c : List Cu} {out : List (Cu × Cu)} {i : Nat} (h : c.length <= i + 1) : QbH f (c.drop i) out = out := by
 have : (c.drop i).length <= 1 := by simp; omega
 match hd : c.drop i with
 | [] => rfl
 | [x] => rfl
 | x :: y :: r => rw [hd] at this; simp at this
def FillI (f : Cu -> Cu -> Bool) (c : List Cu) (i : Nat) (out : List (Cu × Cu)) : Prop :=
 out.length <= i /\ (∀ s ∈ out, Cu.sm s.1 /\ Cu.sm s.2) /\ QbH f c [] = QbH f (c.drop i) out
theorem FillI.zero {f : Cu -> Cu -> Bool} {c : List Cu} : FillI f c 0 [] := ⟨Nat.zero_le _, by simp, by simp⟩
theorem FillI.take {f : Cu -> Cu -> Bool} {c : List Cu} {i : Nat} {out : List (Cu × Cu)} (h : FillI f c i out) (hc : ∀ x ∈ c, Cu.sm x) (hi : i + 1 < c.length) (ht : f c[i] c[i + 1] = true) : FillI f c (i + 1) (QbI out c[i] c[i + 1]) := by
 obtain ⟨h1, h2, h3⟩ := h
 refine ⟨Nat.le_trans (QhV ..) (by omega), QjF h2 (hc _ (List.getElem_mem _)) (hc _ (List.getElem_mem _)), ?_⟩
 rw [h3, Qf5 hi, if_pos ht]
theorem FillI.skip {f : Cu -> Cu -> Bool} {c : List Cu} {i : Nat} {out : List (Cu × Cu)} (h : FillI f c i out) (hi : i + 1 < c.length) (ht : f c[i] c[i + 1] = false) : FillI f c (i + 1) out := by
 obtain ⟨h1, h2, h3⟩ := h
 exact ⟨by omega, h2, by rw [h3, Qf5 hi, if_neg (by rw [ht]; simp)]⟩
theorem FillI.done {f : Cu -> Cu -> Bool} {c : List Cu} {i : Nat} {out : List (Cu × Cu)} (h : FillI f c i out) (hi : c.length <= i + 1) : QbH f c [] = out := by rw [h.2.2, Qls hi]
theorem QpE {i : Nat} : ((i : Int) + 1).toNat = i + 1 := by omega
theorem Ys {l : List (Cu × Cu)} (hl : Sm l) : ∀ x ∈ YN l, Cu.sm x := QjE hl.2
def Qnp (a b : List (Cu × Cu)) : List (Cu × Cu) := if Qbn a = true /\ Qbn b = true then QiN (a ++ b) else []
def QiO (a : List (Cu × Cu)) : List (Cu × Cu) := if Qbn a = true then QbH (fun x y => !mIn a x y) (YN a) [] else []
theorem Qnv {l : List (Cu × Cu)} : ∀ r ∈ l.map Qd9, r.length = 14 := fun r hr => by obtain ⟨x, _, rfl⟩ := List.mem_map.1 hr; rfl
theorem Sm.app {a b : List (Cu × Cu)} (ha : Sm a) (hb : Sm b) (h : a.length + b.length <= 1000000) : Sm (a ++ b) := by
 refine ⟨by simp; omega, fun s hs => ?_⟩
 rcases List.mem_append.1 hs with hs | hs
 ·exact ha.2 s hs
 ·exact hb.2 s hs
theorem Qp6 {H : List (Nat × Box)} {S : Nat -> Bool} {k n : Nat} {b : Box} (hS : S k = true) (hb : lk H k = some b) (hp : b.pr = true) (hn : n = b.rows.length) : (D.osl k n).fz H S = .sl b.rows := by
 simp only [D.fz, D.fzS, hS, hb, if_true, hp, hn, and_self]
abbrev QeE := List (Cu × Cu) × List (Cu × Cu)
def Qnq (a b : QeE) : QeE := if QcG a = true /\ QcG b = true then (Qnp a.1 b.1, Qnp a.2 b.2) else ([], [])
def QgQ (a : QeE) : QeE := if QcG a = true then (QiO a.1, QiO a.2) else ([], [])
def mPl (v n : Int) : Int := if n < 1 then 0 else Qfg v n
theorem QhZ {v n : Int} : 0 <= mPl v n := by
 unfold mPl; split
 ·omega
 ·exact QmS (by omega)
theorem QhY {v n : Int} (h : 1 <= n) : mPl v n < n := by
 rw [mPl, if_neg (by omega)]; exact QmR (by omega)
def Ql7 (l : List Int) (i : Int) : Int := if i < 0 \/ (l.length : Int) <= i then i.tmod 3 else l.getD i.toNat 0
theorem Qlr {l : List Int} {i : Int} (h0 : 0 <= i) (h : i < l.length) : Ql7 l i = l[i.toNat]'(by omega) := by
 rw [Ql7, if_neg (by omega), List.getD_eq_getElem?_getD, List.getElem?_eq_getElem (by omega)]; rfl
def I64 (x : Int) : Prop := -9223372036854775808 <= x /\ x <= 9223372036854775807
theorem QmG {l : List Int} {i : Int} (hl : ∀ x ∈ l, I64 x) (hi : I64 i) : I64 (Ql7 l i) := by
 by_cases h : i < 0 \/ (l.length : Int) <= i
 ·rw [Ql7, if_pos h]
  have h1 := Int.tmod_lt_of_pos i (show (0 : Int) < 3 by omega)
  have h2 := Int.lt_tmod_of_pos i (show (0 : Int) < 3 by omega)
  exact ⟨by omega, by omega⟩
 ·rw [Qlr (by omega) (by omega)]
  exact hl _ (List.getElem_mem _)
theorem Qdw (x : Int) : I64 (IntKind.i64.wrap x) := by
 unfold IntKind.wrap I64
 simp only [IntKind.bits, IntKind.signed, Bool.true_and]
 split
 ·rename_i h
  have := of_decide_eq_true h
  omega
 ·rename_i h
  have : ¬ (x % 2 ^ 64 >= 2 ^ (64 - 1)) := fun hh => h (decide_eq_true hh)
  omega
theorem QdJ {α : Type} {k : Nat} {v : α} {l : List (Nat × α)} : lk ((k, v) :: l) k = some v := by rw [Qn, if_pos rfl]
theorem Qem {α : Type} {k : Nat} {v : α} {l : List (Nat × α)} : (lk ((k, v) :: l) k).isSome = true := by rw [QdJ]; rfl
def gB (L : List Int) (I : Int) (et : Nat) : Box := ⟨[[ZO L, .int .i64 I]], 2, et, true⟩
def nxI (I : Int) : Int := IntKind.i64.wrap (I + 1)
def nx (L : List Int) (I n : Int) : Int := mPl (Ql7 L (IntKind.i64.wrap (nxI I - 1))) n
def Qh1 (h m : Int) : Int := if Qa2 .and .i64 h m = h then 2 else if Qa2 .and .i64 h m = 0 then 0 else 1
def QgS (h m : Int) : Int := if Qa2 .andNot .i64 h m = 0 then 2 else if Qa2 .and .i64 h m = 0 then 0 else 1
theorem QiS {i : Nat} (h : i <= 62) : 1 <= (2 : Int) ^ i /\ (2 : Int) ^ i <= 4611686018427387904 := by
 have h1 : (2 : Nat) ^ i <= 2 ^ 62 := Nat.pow_le_pow_right (by omega) h
 have h2 : 1 <= (2 : Nat) ^ i := Nat.one_le_two_pow
 have h3 : ((2 ^ i : Nat) : Int) = (2 : Int) ^ i := by simp
 rw [<- h3]
 have h4 : (2 : Nat) ^ 62 = 4611686018427387904 := by decide
 omega
structure Vr where
 a : Int
 b : Int
 c : Int
 p : List UInt8
 q : List UInt8
def dVr (v : Vr) : List D := [.int .i64 v.a, .int .i64 v.b, .int .i64 v.c, .str v.p, .str v.q]
def Vr.sm (v : Vr) : Prop := v.p.length <= 100 /\ v.q.length <= 100
def versions : List Vr := [⟨1, 0, 0, [], []⟩, ⟨1, 2, 0, [], []⟩, ⟨2, 0, 0, [97, 46, 49], []⟩, ⟨2, 0, 0, [], []⟩]
theorem Qi6 : ∀ v ∈ versions, v.sm := by
 intro v hv
 simp only [versions, List.mem_cons, List.not_mem_nil, or_false] at hv
 rcases hv with rfl | rfl | rfl | rfl <;> exact ⟨by decide, by decide⟩
theorem XB {i : Nat} : ((i : Int) - 1).toNat = i - 1 := by omega
end M25
namespace Go.Proofs
open Go Go.Abs M3 M25
set_option linter.unusedVariables false
set_option linter.unusedSimpArgs false
theorem X0 {a b c : Int} {p q : List UInt8} : Ok Tryd.prog 71 [.agg [.int .i64 a, .int .i64 b, .int .i64 c, .str p, .str q]] (.agg [.int .i64 a, .int .i64 b, .int .i64 c, .str p, .str []]) := by
 refine Ok.ofT Z5 Tryd.func71 Qry (Nat.le_of_ble_eq_true Z) ?_
 show TW _ _ tf71.body _ _
 refine Qe fun K hK => ZL Z Z Z (ZG Z (hK _ _ (Qa (kp2 Z Z) ?_)))
 refine Qe fun K hK => Qh Z Z (QZ Z Z Z Z Z Z Z Z (hK _ _ (Qa (kp2 Z Z) ?_)))
 refine Qe fun K hK => QF (cs := [_, _, _, _, _]) Z Z Z Z (QZ Z Z Z Z Z Z Z Z (hK _ _ (Qa (kp1 Z) ?_)))
 refine Qr (Zx (cs := [_, _, _, _, _]) Z Z Z Z ?_)
 exact rfl
theorem YV  : Ok Tryd.prog 73 [] (.agg [.int .i64 (-1), .int .i64 0, .int .i64 0, .int .i64 0, .str [], .str [], .bool false]) := by
 refine Ok.ofT Z5 Tryd.func73 QrA (Nat.le_of_ble_eq_true Z) ?_
 show TW _ _ tf73.body _ _
 refine Qe fun K hK => ZG Z (hK _ _ (Qa (kp1 Z) ?_))
 refine Qe fun K hK => QY Z Z (QZ Z Z Z Z Z Z Z Z (hK _ _ (Qa (kp1 Z) ?_)))
 refine Qr (Zx (cs := [_, _, _, _, _, _, _]) Z Z Z Z ?_)
 exact rfl
theorem Y8  : Ok Tryd.prog 75 [] (.agg [.int .i64 1, .int .i64 0, .int .i64 0, .int .i64 0, .str [], .str [], .bool false]) := by
 refine Ok.ofT Z5 Tryd.func75 QrC (Nat.le_of_ble_eq_true Z) ?_
 show TW _ _ tf75.body _ _
 refine Qe fun K hK => ZG Z (hK _ _ (Qa (kp1 Z) ?_))
 refine Qe fun K hK => QY Z Z (QZ Z Z Z Z Z Z Z Z (hK _ _ (Qa (kp1 Z) ?_)))
 refine Qr (Zx (cs := [_, _, _, _, _, _, _]) Z Z Z Z ?_)
 exact rfl
theorem YC {a b c : Int} {p q : List UInt8} : Ok Tryd.prog 53 [.agg [.int .i64 a, .int .i64 b, .int .i64 c, .str p, .str q]] (.agg [.int .i64 0, .int .i64 a, .int .i64 b, .int .i64 c, .str p, .str [], .bool false]) := by
 refine Ok.ofT Z5 Tryd.func53 Qrh (Nat.le_of_ble_eq_true Z) ?_
 show TW _ _ tf53.body _ _
 refine Qe fun K hK => ZL Z Z Z (ZG Z (hK _ _ (Qa (kp2 Z Z) ?_)))
 refine Qe fun K hK => QF (cs := [_, _, _, _, _]) Z Z Z Z (Qz (X0) Z Z (.inl Z) (QY Z Z (QZ Z Z Z Z Z Z Z Z (hK _ _ (Qa (kp1 Z) ?_)))))
 refine Qr (Zx (cs := [_, _, _, _, _, _, _]) Z Z Z Z ?_)
 exact rfl
theorem Qbx {a b c : Int} {p q : List UInt8} : Ok Tryd.prog 54 [.agg [.int .i64 a, .int .i64 b, .int .i64 c, .str p, .str q]] (.agg [.int .i64 0, .int .i64 a, .int .i64 b, .int .i64 c, .str p, .str [], .bool true]) := by
 refine Ok.ofT Z5 Tryd.func54 Qri (Nat.le_of_ble_eq_true Z) ?_
 show TW _ _ tf54.body _ _
 refine Qe fun K hK => ZL Z Z Z (ZG Z (hK _ _ (Qa (kp2 Z Z) ?_)))
 refine Qe fun K hK => QF (cs := [_, _, _, _, _]) Z Z Z Z (Qz (X0) Z Z (.inl Z) (QY Z Z (QZ Z Z Z Z Z Z Z Z (hK _ _ (Qa (kp1 Z) ?_)))))
 refine Qr (Zx (cs := [_, _, _, _, _, _, _]) Z Z Z Z ?_)
 exact rfl
theorem XM {a b c : Int} {p q : List UInt8} : Ok Tryd.prog 72 [.agg [.int .i64 a, .int .i64 b, .int .i64 c, .str p, .str q]] (.bool (Qd1 a b c)) := by
 refine Ok.ofT Z5 Tryd.func72 Qrz (Nat.le_of_ble_eq_true Z) ?_
 show TW _ _ tf72.body _ _
 refine Qe fun K hK => ZL Z Z Z (Qb Z (hK _ _ (Qa (kp1 Z) ?_)))
 refine Qe fun K hK => Qh Z Z (QE Z Z Z (YH Z Z (Qb Z ?_)))
 refine Qv (g := 6) Z (fun h1 => ?_) (fun h1 => ?_)
 ·try rw [h1]
  try simp only [qB] at h1
  refine Qg Z (Qh Z Z (Qg Z (QE Z Z Z (Qg Z (YH Z Z (Qi Z Z (Qb Z ?_)))))))
  refine Qv (g := 11) Z (fun h2 => ?_) (fun h2 => ?_)
  ·try rw [h2]
   try simp only [qB] at h2
   refine Qg Z (Qh Z Z (Qg Z (QE Z Z Z (Qg Z (YH Z Z (Qi Z Z (Qb Z (hK _ _ (Qa (kp1 Z) ?_)))))))))
   refine Qr (Qm Z ?_)
   (repeat clear hK K); simp_all [Qd1]
  ·try rw [h2]
   try simp only [qB] at h2
   refine Qq Z (Qq Z (Qq Z (Qi Z Z (Qb Z (hK _ _ (Qa (kp1 Z) ?_))))))
   refine Qr (Qm Z ?_)
   (repeat clear hK K); simp_all [Qd1]
 ·try rw [h1]
  try simp only [qB] at h1
  refine Qq Z (Qq Z (Qq Z (Qi Z Z (Qb Z (Qq Z (Qq Z (Qq Z (Qi Z Z (Qb Z (hK _ _ (Qa (kp1 Z) ?_)))))))))))
  refine Qr (Qm Z ?_)
  (repeat clear hK K); simp_all [Qd1]
end Go.Proofs
namespace Go.Proofs
open Go Go.Abs M3 M25
set_option linter.unusedVariables false
set_option linter.unusedSimpArgs false
theorem Qcy {a b c : Int} {p q : List UInt8} (hp : p.length <= 1000000) (hq : q.length <= 1000000) {part : Int} : Ok Tryd.prog 91 [.agg [.int .i64 a, .int .i64 b, .int .i64 c, .str p, .str q], .int .i64 part] (dOV (XV a b c p q part)) := by
 refine Ok.ofT Z5 Tryd.func91 QrR (Nat.le_of_ble_eq_true Z) ?_
 show TW _ _ tf91.body _ _
 refine Qe fun K hK => ZL Z Z Z (ZG Z (Qb Z (hK _ _ (Qa (kp3 Z Z Z) ?_))))
 refine QG ?_ -- 0
 refine Qe fun K hK => QF (cs := [_, _, _, _, _]) Z Z Z Z (Qz (Zt (by omega) (by omega)) Z Z (.inr Z) (ZM Z (Qb Z ?_)))
 refine Qv (g := 10) Z (fun h1 => ?_) (fun h1 => ?_)
 ·try rw [h1]
  try simp only [qB] at h1
  refine Qq Z (Qq Z (Qi Z Z (Qb Z (Qq Z (Qq Z (Qi Z Z (hK _ _ (Qa (kp4 Z Z Z Z) ?_))))))))
  refine Zl Z (Qe fun K hK => QY Z Z (QZ Z Z Z Z Z Z Z Z (Qb Z (hK _ _ (Qa (kp2 Z Z) ?_)))))
  refine Qr (Qj (Post.eq (Xt (ds := [.int .i64 _, .int .i64 _, .int .i64 _, .str _, .str _]) (d' := .bool _) (cs := [_, _, _, _, _]) Z Z Z Z Z ⟨rfl, rfl⟩) ?_))
  (repeat clear hK K); first | (simp [XV, dOV, h1]; done) | (simp_all [XV, dOV]; done)
 ·try rw [h1]
  try simp only [qB] at h1
  refine Qg Z (Qb Z (Qg Z (YI Z Z (Qi Z Z (Qb Z ?_)))))
  refine Qv (g := 14) Z (fun h2 => ?_) (fun h2 => ?_)
  ·try rw [h2]
   try simp only [qB] at h2
   refine Qq Z (Qq Z (Qi Z Z (hK _ _ (Qa (kp4 Z Z Z Z) ?_))))
   refine Zl Z (Qe fun K hK => QY Z Z (QZ Z Z Z Z Z Z Z Z (Qb Z (hK _ _ (Qa (kp2 Z Z) ?_)))))
   refine Qr (Qj (Post.eq (Xt (ds := [.int .i64 _, .int .i64 _, .int .i64 _, .str _, .str _]) (d' := .bool _) (cs := [_, _, _, _, _]) Z Z Z Z Z ⟨rfl, rfl⟩) ?_))
   (repeat clear hK K); first | (simp [XV, dOV, h1, h2]; done) | (simp_all [XV, dOV]; done)
  ·try rw [h2]
   try simp only [qB] at h2
   refine Qg Z (Qb Z (Qg Z (Qdy Z Z (Qi Z Z (hK _ _ (Qa (kp4 Z Z Z Z) ?_))))))
   refine QA Z (fun h3 => ?_) (fun h3 => ?_)
   ·try rw [h3]
    try simp only [qB] at h3
    refine Qe fun K hK => QY Z Z (QZ Z Z Z Z Z Z Z Z (Qb Z (hK _ _ (Qa (kp2 Z Z) ?_))))
    refine Qr (Qj (Post.eq (Xt (ds := [.int .i64 _, .int .i64 _, .int .i64 _, .str _, .str _]) (d' := .bool _) (cs := [_, _, _, _, _]) Z Z Z Z Z ⟨rfl, rfl⟩) ?_))
    (repeat clear hK K); first | (simp [XV, dOV, h1, h2, h3]; done) | (simp_all [XV, dOV]; done)
   ·try rw [h3]
    try simp only [qB] at h3
    refine Qy (Qf (kp3 Z Z Z) (Qe fun K hK => ZG Z (hK _ _ (Qa (kp4 Z Z Z Z) ?_))))
    refine QG ?_ -- 1
    refine Qe fun K hK => Qb Z (hK _ _ (Qa (kp4 Z Z Z Z) ?_))
    refine QK (Qe fun K hK => YH Z Z (Qb Z (hK _ _ (Qa (kp5 Z Z Z Z Z) ?_))))
    refine QA Z (fun h4 => ?_) (fun h4 => ?_)
    ·try rw [h4]
     try simp only [qB] at h4
     refine Zb fun K hK => Qh Z Z (QE Z Z Z (Zh Z Z (Qt (by have := Qb2 (by simpa using h1); omega) (by have := Qb2 (by simpa using h1); omega)) (QY Z Z (QZ Z Z Z Z Z Z Z Z (hK _ ?_)))))
     refine Qk (Qf (kp2 Z Z) ?_)
     refine QG ?_ -- 2
     refine Qe fun K hK => QF (cs := [_, _, _, _, _]) Z Z Z Z (Qz (Zt (by simp) (by simp)) Z Z (.inr Z) (ZM Z (hK _ _ (Qa (kp3 Z Z Z) ?_))))
     refine QA Z (fun h5 => ?_) (fun h5 => ?_)
     ·try rw [h5]
      try simp only [qB] at h5
      refine Qe fun K hK => QY Z Z (QZ Z Z Z Z Z Z Z Z (Qb Z (hK _ _ (Qa (kp2 Z Z) ?_))))
      refine Qr (Qj (Post.eq (Xt (ds := [.int .i64 _, .int .i64 _, .int .i64 _, .str _, .str _]) (d' := .bool _) (cs := [_, _, _, _, _]) Z Z Z Z Z ⟨rfl, rfl⟩) ?_))
      (repeat clear hK K); first | (simp [XV, dOV, h1, h2, h3, h4, h5]; done) | (simp_all [XV, dOV]; done)
     ·try rw [h5]
      try simp only [qB] at h5
      refine Qy (Qf (kp2 Z Z) (Qe fun K hK => QF (cs := [_, _, _, _, _]) Z Z Z Z (QZ Z Z Z Z Z Z Z Z (Qb Z (hK _ _ (Qa (kp2 Z Z) ?_))))))
      refine Qr (Post.eq (Xt (ds := [.int .i64 _, .int .i64 _, .int .i64 _, .str _, .str _]) (d' := .bool _) (cs := [_, _, _, _, _]) Z Z Z Z Z ⟨rfl, rfl⟩) ?_)
      (repeat clear hK K); first | (simp [XV, dOV, h1, h2, h3, h4, h5]; done) | (simp_all [XV, dOV]; done)
    ·try rw [h4]
     try simp only [qB] at h4
     refine Qe fun K hK => YH Z Z (Qb Z (hK _ _ (Qa (kp4 Z Z Z Z) ?_)))
     refine QA Z (fun h6 => ?_) (fun h6 => ?_)
     ·try rw [h6]
      try simp only [qB] at h6
      refine Zb fun K hK => Qh Z Z (QE Z Z Z (Qh Z Z (QE Z Z Z (Zh Z Z (Qt (by have := Qb2 (by simpa using h1); omega) (by have := Qb2 (by simpa using h1); omega)) (QY Z Z (QZ Z Z Z Z Z Z Z Z (hK _ ?_)))))))
      refine Qk (Qf (kp2 Z Z) ?_)
      refine QG ?_ -- 2
      refine Qe fun K hK => QF (cs := [_, _, _, _, _]) Z Z Z Z (Qz (Zt (by simp) (by simp)) Z Z (.inr Z) (ZM Z (hK _ _ (Qa (kp3 Z Z Z) ?_))))
      refine QA Z (fun h7 => ?_) (fun h7 => ?_)
      ·try rw [h7]
       try simp only [qB] at h7
       refine Qe fun K hK => QY Z Z (QZ Z Z Z Z Z Z Z Z (Qb Z (hK _ _ (Qa (kp2 Z Z) ?_))))
       refine Qr (Qj (Post.eq (Xt (ds := [.int .i64 _, .int .i64 _, .int .i64 _, .str _, .str _]) (d' := .bool _) (cs := [_, _, _, _, _]) Z Z Z Z Z ⟨rfl, rfl⟩) ?_))
       (repeat clear hK K); first | (simp [XV, dOV, h1, h2, h3, h4, h6, h7]; done) | (simp_all [XV, dOV]; done)
      ·try rw [h7]
       try simp only [qB] at h7
       refine Qy (Qf (kp2 Z Z) (Qe fun K hK => QF (cs := [_, _, _, _, _]) Z Z Z Z (QZ Z Z Z Z Z Z Z Z (Qb Z (hK _ _ (Qa (kp2 Z Z) ?_))))))
       refine Qr (Post.eq (Xt (ds := [.int .i64 _, .int .i64 _, .int .i64 _, .str _, .str _]) (d' := .bool _) (cs := [_, _, _, _, _]) Z Z Z Z Z ⟨rfl, rfl⟩) ?_)
       (repeat clear hK K); first | (simp [XV, dOV, h1, h2, h3, h4, h6, h7]; done) | (simp_all [XV, dOV]; done)
     ·try rw [h6]
      try simp only [qB] at h6
      refine Zb fun K hK => Qh Z Z (QE Z Z Z (Qh Z Z (QE Z Z Z (Qh Z Z (QE Z Z Z (Zh Z Z (Qt (by have := Qb2 (by simpa using h1); omega) (by have := Qb2 (by simpa using h1); omega)) (QY Z Z (QZ Z Z Z Z Z Z Z Z (hK _ ?_)))))))))
      refine Qk (Qf (kp2 Z Z) ?_)
      refine QG ?_ -- 2
      refine Qe fun K hK => QF (cs := [_, _, _, _, _]) Z Z Z Z (Qz (Zt (by simp) (by simp)) Z Z (.inr Z) (ZM Z (hK _ _ (Qa (kp3 Z Z Z) ?_))))
      refine QA Z (fun h8 => ?_) (fun h8 => ?_)
      ·try rw [h8]
       try simp only [qB] at h8
       refine Qe fun K hK => QY Z Z (QZ Z Z Z Z Z Z Z Z (Qb Z (hK _ _ (Qa (kp2 Z Z) ?_))))
       refine Qr (Qj (Post.eq (Xt (ds := [.int .i64 _, .int .i64 _, .int .i64 _, .str _, .str _]) (d' := .bool _) (cs := [_, _, _, _, _]) Z Z Z Z Z ⟨rfl, rfl⟩) ?_))
       (repeat clear hK K); first | (simp [XV, dOV, h1, h2, h3, h4, h6, h8]; done) | (simp_all [XV, dOV]; done)
      ·try rw [h8]
       try simp only [qB] at h8
       refine Qy (Qf (kp2 Z Z) (Qe fun K hK => QF (cs := [_, _, _, _, _]) Z Z Z Z (QZ Z Z Z Z Z Z Z Z (Qb Z (hK _ _ (Qa (kp2 Z Z) ?_))))))
       refine Qr (Post.eq (Xt (ds := [.int .i64 _, .int .i64 _, .int .i64 _, .str _, .str _]) (d' := .bool _) (cs := [_, _, _, _, _]) Z Z Z Z Z ⟨rfl, rfl⟩) ?_)
       (repeat clear hK K); first | (simp [XV, dOV, h1, h2, h3, h4, h6, h8]; done) | (simp_all [XV, dOV]; done)
theorem Qcz {a b c : Int} {p q : List UInt8} (hp : p.length <= 1000000) (hq : q.length <= 1000000) : Ok Tryd.prog 74 [.agg [.int .i64 a, .int .i64 b, .int .i64 c, .str p, .str q]] (dOV (QhX a b c p q)) := by
 refine Ok.ofT Z5 Tryd.func74 QrB (Nat.le_of_ble_eq_true Z) ?_
 show TW _ _ tf74.body _ _
 refine Qe fun K hK => ZL Z Z Z (ZG Z (Qb Z (hK _ _ (Qa (kp2 Z Z) ?_))))
 refine QG ?_ -- 0
 refine Qe fun K hK => QF (cs := [_, _, _, _, _]) Z Z Z Z (Qz (Zt (by omega) (by omega)) Z Z (.inr Z) (ZM Z (hK _ _ (Qa (kp3 Z Z Z) ?_))))
 refine QA Z (fun h1 => ?_) (fun h1 => ?_)
 ·try rw [h1]
  try simp only [qB] at h1
  refine Qe fun K hK => QY Z Z (QZ Z Z Z Z Z Z Z Z (Qb Z (hK _ _ (Qa (kp2 Z Z) ?_))))
  refine Qr (Qj (Post.eq (Xt (ds := [.int .i64 _, .int .i64 _, .int .i64 _, .str _, .str _]) (d' := .bool _) (cs := [_, _, _, _, _]) Z Z Z Z Z ⟨rfl, rfl⟩) ?_))
  simp [QhX, dOV, h1]
 ·try rw [h1]
  try simp only [qB] at h1
  refine Qy (Qf (kp2 Z Z) ?_)
  refine QG ?_ -- 1
  refine Qe fun K hK => Qh Z Z (QE Z Z Z (Qj6 Z Z (hK _ _ (Qa (kp3 Z Z Z) ?_))))
  refine QA Z (fun h2 => ?_) (fun h2 => ?_)
  ·try rw [h2]
   try simp only [qB] at h2
   refine Qe fun K hK => Qh Z Z (QE Z Z Z (Qh Z Z (QE Z Z Z (Qh Z Z (QE Z Z Z (QY Z Z (QZ Z Z Z Z Z Z Z Z (Qb Z (hK _ _ (Qa (kp2 Z Z) ?_))))))))))
   refine Qr (Qj (Post.eq (Xt (ds := [.int .i64 _, .int .i64 _, .int .i64 _, .str _, .str _]) (d' := .bool _) (cs := [_, _, _, _, _]) Z Z Z Z Z ⟨rfl, rfl⟩) ?_))
   simp [QhX, dOV, h1, h2]
  ·try rw [h2]
   try simp only [qB] at h2
   refine Qy (Qf (kp2 Z Z) ?_)
   refine QG ?_ -- 2
   refine Qe fun K hK => Qb Z (hK _ _ (Qa (kp3 Z Z Z) ?_))
   refine QK ?_
   refine Z0 (ι := Nat) (fun m => ⟨[(1, .ref 1 0 0), (2, .ref 2 0 0), (4, .int .i64 ((m : Int) - 1))], [(1, ⟨[[.int .i64 a, .int .i64 b, .int .i64 c, .str p, .str q]], 5, 49, true⟩), (2, ⟨[[.int .i64 0, .int .i64 0, .int .i64 0, .str [], .str []]], 5, 49, true⟩)]⟩) (fun m => m <= 3 /\ Xy a b c p q 3 = Xy a b c p q m) (fun m => m) 3 ?_ ?_ ?_
   ·exact Zw (l := [1, 2, 4]) (lH := [1, 2]) (kp3 rfl rfl rfl) (Qu rfl (Qu rfl QB)) rfl rfl rfl
   ·exact ⟨by omega, rfl⟩
   intro m hI
   obtain ⟨hI1, hI2⟩ := hI
   try dsimp only
   refine QG ?_ -- 3
   refine Qe fun K hK => Qb Z (Qjd Z Z (hK _ _ (Qa (kp4 Z Z Z Z) ?_)))
   refine QA Z (fun h3 => ?_) (fun h3 => ?_)
   ·try rw [h3]
    try simp only [qB] at h3
    rcases Nat.eq_zero_or_pos m with hm | hm <;> first | omega | skip
    refine Qy (Qf (kp3 Z Z Z) ?_)
    refine QG ?_ -- 4
    refine QK (Qe fun K hK => QF (cs := [_, _, _, _, _]) Z Z Z Z (Qb Z (Qz (Qcy (by omega) (by omega)) Z Z (.inl Z) (Qb Z (Zd Z Z (Zd Z Z (ZG Z (QZ Z Z Z Z Z Z Z Z (Qb Z (hK _ _ (Qa (kp5 Z Z Z Z Z) ?_)))))))))))
    refine Qe fun K hK => Qb Z (hK _ _ (Qa (kp5 Z Z Z Z Z) ?_))
    refine QA Z (fun h4 => ?_) (fun h4 => ?_)
    ·try rw [h4]
     try simp only [qB] at h4
     refine Qe fun K hK => QF (cs := [_, _, _, _, _]) Z Z Z Z (QZ Z Z Z Z Z Z Z Z (Qb Z (hK _ _ (Qa (kp2 Z Z) ?_))))
     refine Qr (Qw (Qj (Q8 (Qw (Qj (Post.eq (Xt (ds := [.int .i64 _, .int .i64 _, .int .i64 _, .str _, .str _]) (d' := .bool _) (cs := [_, _, _, _, _]) Z Z Z Z Z ⟨rfl, rfl⟩) ?_))))))
     subst h2
     simp [QhX, dOV, h1, hI2, Qhu hm h4, h4]
    ·try rw [h4]
     try simp only [qB] at h4
     refine Qy (Qk (Qf (kp3 Z Z Z) (Zb fun K hK => Qb Z (Qct Z Z (by first | exact Qt (by omega) (by omega) | rfl) (Qb Z (hK _ ?_))))))
     refine Qp (m - 1) ?_ ?_ ?_
     ·refine Zw (l := [1, 2, 4]) (lH := [1, 2]) (kp3 Z Z Z) (Qu Z (Qu Z QB)) ?_ Z rfl; simp only [List.cons.injEq, Prod.mk.injEq, D.int.injEq, and_true, true_and]; omega
     ·exact ⟨by omega, by rw [hI2]; exact Qiw hm h4⟩
     ·show m - 1 < m; omega
   ·try rw [h3]
    try simp only [qB] at h3
    rcases Nat.eq_zero_or_pos m with hm | hm <;> first | omega | skip
    refine Zy (QO (QD (QJ (Qf (kp1 Z) (Qe fun K hK => QY Z Z (QZ Z Z Z Z Z Z Z Z (Qb Z (hK _ _ (Qa (kp2 Z Z) ?_)))))))))
    refine Qr (Post.eq (Xt (ds := [.int .i64 _, .int .i64 _, .int .i64 _, .str _, .str _]) (d' := .bool _) (cs := [_, _, _, _, _]) Z Z Z Z Z ⟨rfl, rfl⟩) ?_)
    subst h2
    subst hm
    have hb : Xy a b c [] q 3 = none := hI2
    simp [QhX, dOV, h1, hb]
end Go.Proofs
namespace Go.Proofs
open Go Go.Abs M3 M25
set_option linter.unusedVariables false
set_option linter.unusedSimpArgs false
theorem XN {e a b c : Int} {p q : List UInt8} {f : Bool} : Ok Tryd.prog 63 [.agg [.int .i64 e, .int .i64 a, .int .i64 b, .int .i64 c, .str p, .str q, .bool f]] (.bool (Qd3 e a b c p q f)) := by
 refine Ok.ofT Z5 Tryd.func63 Qrr (Nat.le_of_ble_eq_true Z) ?_
 show TW _ _ tf63.body _ _
 refine Qe fun K hK => ZL Z Z Z (Qb Z (hK _ _ (Qa (kp1 Z) ?_)))
 refine Qe fun K hK => Qh Z Z (QE Z Z Z (Yy Z Z (Qb Z ?_)))
 refine Qv (g := 6) Z (fun h1 => ?_) (fun h1 => ?_)
 ·try rw [h1]
  try simp only [qB] at h1
  refine Qq Z (Qq Z (Qq Z (Qq Z (QI Z (QI Z (QI Z (QI Z (Qq Z (Qq Z (QI Z (QI Z ?_)))))))))))
  refine QI Z (QI Z (Qq Z (Qi Z Z (Qb Z (hK _ _ (Qa (kp1 Z) ?_))))))
  refine Qr (Qm Z ?_)
  (repeat clear hK K); simp_all [Qd3]
 ·try rw [h1]
  try simp only [qB] at h1
  refine Qg Z (Qh Z Z (Qg Z (QE Z Z Z (Qg Z (ZM Z (Qg Z (Qb Z ?_)))))))
  refine Qv (g := 10) Z (fun h2 => ?_) (fun h2 => ?_)
  ·try rw [h2]
   try simp only [qB] at h2
   refine Qg Z (Qh Z Z (Qg Z (Qh Z Z (Qg Z (QE Z Z Z (Qg Z (Qb9 Z Z (Qg Z (Qi Z Z (Qg Z (Qb Z ?_)))))))))))
   refine Qv (g := 16) Z (fun h3 => ?_) (fun h3 => ?_)
   ·try rw [h3]
    try simp only [qB] at h3
    refine Qg Z (Qh Z Z (Qg Z (QF (cs := [_, _, _, _, _]) Z Z Z Z (Qg Z (Qz (XM) Z Z (.inr Z) (Qg Z (ZM Z (Qg Z (Qi Z Z (Qi Z Z (Qb Z ?_)))))))))))
    refine hK _ _ (Qa (kp1 Z) ?_)
    refine Qr (Qm Z ?_)
    (repeat clear hK K); simp_all [Qd3]
   ·try rw [h3]
    try simp only [qB] at h3
    refine Qq Z (Qq Z (Qq Z (Qq Z (Qg Z (Qi Z Z (Qi Z Z (Qb Z (hK _ _ (Qa (kp1 Z) ?_)))))))))
    refine Qr (Qm Z ?_)
    (repeat clear hK K); simp_all [Qd3]
  ·try rw [h2]
   try simp only [qB] at h2
   refine Qq Z (Qq Z (Qq Z (Qq Z (Qg Z (Qi Z Z (Qg Z (Qb Z (Qq Z (Qq Z (Qq Z (Qq Z ?_)))))))))))
   refine Qg Z (Qi Z Z (Qi Z Z (Qb Z (hK _ _ (Qa (kp1 Z) ?_)))))
   refine Qr (Qm Z ?_)
   (repeat clear hK K); simp_all [Qd3]
theorem Qcf {a b c : Int} {p q : List UInt8} : Ok Tryd.prog 55 [.agg [.int .i64 a, .int .i64 b, .int .i64 c, .str p, .str q]] (.agg (dCu (Qff a b c))) := by
 refine Ok.ofT Z5 Tryd.func55 Qrj (Nat.le_of_ble_eq_true Z) ?_
 show TW _ _ tf55.body _ _
 refine Qe fun K hK => ZL Z Z Z (ZG Z (hK _ _ (Qa (kp2 Z Z) ?_)))
 refine QG ?_ -- 0
 refine Qe fun K hK => QF (cs := [_, _, _, _, _]) Z Z Z Z (Qz (XM) Z Z (.inr Z) (hK _ _ (Qa (kp3 Z Z Z) ?_)))
 refine QA Z (fun h1 => ?_) (fun h1 => ?_)
 ·try rw [h1]
  try simp only [qB] at h1
  refine Qe fun K hK => Qz (YV) Z Z (.inl Z) (QZ Z Z Z Z Z Z Z Z (hK _ _ (Qa (kp1 Z) ?_)))
  refine Qr (Qj (Post.eq (Zx (ds := [.int .i64 _, .int .i64 _, .int .i64 _, .int .i64 _, .str _, .str _, .bool _]) (cs := [_, _, _, _, _, _, _]) Z Z Z Z Z) ?_))
  simp [Qff, dCu, Qcm, h1]
 ·try rw [h1]
  try simp only [qB] at h1
  refine Qy (Qf (kp2 Z Z) (Qe fun K hK => Qh Z Z (QE Z Z Z (Qh Z Z (QE Z Z Z (Qh Z Z (QE Z Z Z (QY Z Z (Qz (YC) Z Z (.inl Z) (QZ Z Z Z Z Z Z Z Z ?_))))))))))
  refine hK _ _ (Qa (kp1 Z) ?_)
  refine Qr (Post.eq (Zx (ds := [.int .i64 _, .int .i64 _, .int .i64 _, .int .i64 _, .str _, .str _, .bool _]) (cs := [_, _, _, _, _, _, _]) Z Z Z Z Z) ?_)
  simp [Qff, dCu, Qcm, h1]
theorem Qby {a b c : Int} {p q : List UInt8} : Ok Tryd.prog 56 [.agg [.int .i64 a, .int .i64 b, .int .i64 c, .str p, .str q]] (.agg (dCu (Qdh a b c))) := by
 refine Ok.ofT Z5 Tryd.func56 Qrk (Nat.le_of_ble_eq_true Z) ?_
 show TW _ _ tf56.body _ _
 refine Qe fun K hK => ZL Z Z Z (ZG Z (hK _ _ (Qa (kp2 Z Z) ?_)))
 refine Qe fun K hK => Qh Z Z (QE Z Z Z (Qh Z Z (QE Z Z Z (Qh Z Z (QE Z Z Z (QY Z Z (Qz (Qcz (by simp) (by simp)) Z Z (.inl Z) (Qb Z (Zd Z Z (Zd Z Z ?_))))))))))
 refine ZG Z (QZ Z Z Z Z Z Z Z Z (Qb Z (hK _ _ (Qa (kp3 Z Z Z) ?_))))
 refine QG ?_ -- 0
 refine Qe fun K hK => Qb Z (ZM Z (hK _ _ (Qa (kp3 Z Z Z) ?_)))
 refine QA Z (fun h1 => ?_) (fun h1 => ?_)
 ·try rw [h1]
  try simp only [qB] at h1
  refine Qe fun K hK => Qz (Y8) Z Z (.inl Z) (QZ Z Z Z Z Z Z Z Z (hK _ _ (Qa (kp1 Z) ?_)))
  refine Qr (Qj (Post.eq (Zx (ds := [.int .i64 _, .int .i64 _, .int .i64 _, .int .i64 _, .str _, .str _, .bool _]) (cs := [_, _, _, _, _, _, _]) Z Z Z Z Z) ?_))
  cases hn : QhX a b c [] [] <;> simp [Qdh, dCu, QfD, hn] at *
 ·try rw [h1]
  try simp only [qB] at h1
  refine Qy (Qf (kp2 Z Z) (Qe fun K hK => QF (cs := [_, _, _, _, _]) Z Z Z Z (Qz (YC) Z Z (.inl Z) (QZ Z Z Z Z Z Z Z Z (hK _ _ (Qa (kp1 Z) ?_))))))
  refine Qr (Post.eq (Zx (ds := [.int .i64 _, .int .i64 _, .int .i64 _, .int .i64 _, .str _, .str _, .bool _]) (cs := [_, _, _, _, _, _, _]) Z Z Z Z Z) ?_)
  cases hn : QhX a b c [] [] <;> simp [Qdh, dCu, QfD, hn] at *
theorem XO  : Ok Tryd.prog 92 [] (Zg [(Qcm, QfD)]) := by
 refine Ok.ofT Z5 Tryd.func92 QrS (Nat.le_of_ble_eq_true Z) ?_
 show TW _ _ tf92.body _ _
 refine Qe fun K hK => Qb Z (hK _ _ (Qa (QW) ?_))
 refine Qe fun K hK => Qz (YV) Z Z (.inl Z) (Qz (Y8) Z Z (.inl Z) (QY Z Z (QM Z Z (Qb Z (hK _ _ (Qa (kp1 Z) ?_))))))
 refine Qr (Z3 Z ?_)
 rfl
theorem Z1  : Ok Tryd.prog 48 [] (Qfw ([], [])) := by
 refine Ok.ofT Z5 Tryd.func48 Qrd (Nat.le_of_ble_eq_true Z) ?_
 show TW _ _ tf48.body _ _
 refine Qe fun K hK => ZG Z (hK _ _ (Qa (kp1 Z) ?_))
 refine Qe fun K hK => QY Z Z (QZ Z Z Z Z Z Z Z Z (hK _ _ (Qa (kp1 Z) ?_)))
 refine Qr (Post.eq (Zx (ds := [.sl _, .sl _]) (cs := [_, _]) Z Z Z Z Z) ?_)
 rfl
theorem Qc0  : Ok Tryd.prog 76 [] (Qfw ([(Qcm, QfD)], [(Qcm, QfD)])) := by
 refine Ok.ofT Z5 Tryd.func76 QrD (Nat.le_of_ble_eq_true Z) ?_
 show TW _ _ tf76.body _ _
 refine Qe fun K hK => ZG Z (hK _ _ (Qa (kp1 Z) ?_))
 refine Qe fun K hK => Qz (XO) Z Z (.inl Z) (Qz (XO) Z Z (.inl Z) (QY Z Z (QZ Z Z Z Z Z Z Z Z (hK _ _ (Qa (kp1 Z) ?_)))))
 refine Qr (Post.eq (Zx (ds := [.sl _, .sl _]) (cs := [_, _]) Z Z Z Z Z) ?_)
 rfl
theorem YW {a b c : Int} {p q : List UInt8} (hp : p.length <= 1000000) (hq : q.length <= 1000000) : Ok Tryd.prog 36 [.agg [.int .i64 a, .int .i64 b, .int .i64 c, .str p, .str q]] (Qfw (YZ a b c p q)) := by
 refine Ok.ofT Z5 Tryd.func36 Qq2 (Nat.le_of_ble_eq_true Z) ?_
 show TW _ _ tf36.body _ _
 refine Qe fun K hK => ZL Z Z Z (ZG Z (hK _ _ (Qa (kp2 Z Z) ?_)))
 refine QG ?_ -- 0
 refine Qe fun K hK => QF (cs := [_, _, _, _, _]) Z Z Z Z (Qz (Zt (by omega) (by omega)) Z Z (.inr Z) (ZM Z (hK _ _ (Qa (kp3 Z Z Z) ?_))))
 refine QA Z (fun h1 => ?_) (fun h1 => ?_)
 ·try rw [h1]
  try simp only [qB] at h1
  refine Qe fun K hK => Qz (Z1) Z Z (.inl Z) (QZ Z Z Z Z Z Z Z Z (hK _ _ (Qa (kp1 Z) ?_)))
  refine Qr (Qj (Post.eq (Zx (ds := [.sl _, .sl _]) (cs := [_, _]) Z Z Z Z Z) ?_))
  simp [YZ, Qfw, Zg, Qd9, dCu, h1]
 ·try rw [h1]
  try simp only [qB] at h1
  refine Qy (Qf (kp2 Z Z) ?_)
  refine QG ?_ -- 1
  refine Qe fun K hK => Qh Z Z (QE Z Z Z (Qj6 Z Z (hK _ _ (Qa (kp3 Z Z Z) ?_))))
  refine QA Z (fun h2 => ?_) (fun h2 => ?_)
  ·try rw [h2]
   try simp only [qB] at h2
   refine Qe fun K hK => QL (ds0 := [6, 3, 2, 1, 0]) (cs := [_, _, _, _, _]) Z Z Z Z Z Z (Q0 (ds0 := [3, 2, 1, 0]) (YC) Z Z (.inl Z) Z Z (QL (ds0 := [4, 3, 2, 1, 0]) (cs := [_, _, _, _, _]) Z Z Z Z Z Z (Q0 (ds0 := [3, 2, 1, 0]) (Qbx) Z Z (.inl Z) Z Z (QY Z Z (QM Z Z (QY Z Z (Xd (ds0 := []) Z Z Z Z Z Z Z Z Z Z (hK _ _ (Qa (kp1 Z) ?_)))))))))
   refine Qr (Qj (Post.eq (Zx (ds := [.sl _, .sl _]) (cs := [_, _]) Z Z Z Z Z) ?_))
   simp [YZ, Qfw, Zg, Qd9, dCu, h1, h2]
  ·try rw [h2]
   try simp only [qB] at h2
   refine Qy (Qf (kp2 Z Z) (Qe fun K hK => QL (ds0 := [6, 3, 2, 1, 0]) (cs := [_, _, _, _, _]) Z Z Z Z Z Z (Q0 (ds0 := [3, 2, 1, 0]) (Qcf) Z Z (.inl Z) Z Z (QL (ds0 := [4, 3, 2, 1, 0]) (cs := [_, _, _, _, _]) Z Z Z Z Z Z (Q0 (ds0 := [3, 2, 1, 0]) (Qby) Z Z (.inl Z) Z Z (QY Z Z (QM Z Z (QY Z Z (Xd (ds0 := []) Z Z Z Z Z Z Z Z Z Z (hK _ _ (Qa (kp1 Z) ?_)))))))))))
   refine Qr (Post.eq (Zx (ds := [.sl _, .sl _]) (cs := [_, _]) Z Z Z Z Z) ?_)
   subst h2
   simp [YZ, Qfw, Zg, Qd9, dCu, h1]
end Go.Proofs
namespace Go.Proofs
open Go Go.Abs M3 M25
set_option linter.unusedVariables false
set_option linter.unusedSimpArgs false
theorem Ya {l : List (Cu × Cu)} (hl : Sm l) : Ok Tryd.prog 62 [Zg l] (.bool (Qbn l)) := by
 refine Ok.ofT Z5 Tryd.func62 Qrq (Nat.le_of_ble_eq_true Z) ?_
 show TW _ _ tf62.body _ _
 have hn := hl.1
 refine Qe fun K hK => Qb Z (hK _ _ (Qa (kp1 Z) ?_))
 refine QG ?_ -- 0
 refine Qe fun K hK => Qb Z (hK _ _ (Qa (kp2 Z Z) ?_))
 refine QK ?_
 refine Z0 (ι := Nat) (fun i => ⟨[(0, Zg l), (3, .int .i64 i)], []⟩) (fun i => i <= l.length /\ (List.range i).all (Qok l) = true) (fun i => l.length - i) 0 ?_ ?_ ?_
 ·exact Q7 (kp2 rfl rfl)
 ·exact ⟨Nat.zero_le _, rfl⟩
 intro i hI
 try dsimp only
 refine QG ?_ -- 1
 refine Qe fun K hK => Qb Z (Qb Z (ZC Z Z (YI Z Z (hK _ _ (Qa (kp3 Z Z Z) ?_)))))
 refine QA Z (fun h1 => ?_) (fun h1 => ?_)
 ·try rw [h1]
  try simp only [qA] at h1
  refine Qy (Qf (kp2 Z Z) ?_)
  refine QG ?_ -- 2
  refine QK (Qe fun K hK => Qb Z (Qb Z (Q2 Z Z Z (by omega) (ZT (by omega)) Z (QL (ds0 := [20, 19, 18, 17, 16, 15, 14, 13, 12, 11, 10, 9, 8, 7, 6, 5, 4, 3, 2, 1, 0]) (cs := [_, _, _, _, _, _, _, _, _, _, _, _, _, _]) Z Z Z Z Z Z (Q0 (ds0 := [19, 18, 17, 16, 15, 14, 13, 12, 11, 10, 9, 8, 7, 6, 5, 4, 3, 2, 1, 0]) (Xp (hl.at (i := i) (by omega)).1.1 (hl.at (i := i) (by omega)).1.2 (hl.at (i := i) (by omega)).2.1 (hl.at (i := i) (by omega)).2.2) Z Z (.inr Z) Z Z (ZM Z (Qb Z ?_)))))))
  refine Qv (g := 16) Z (fun h2 => ?_) (fun h2 => ?_)
  ·try rw [h2]
   try simp only [qA] at h2
   refine Qq Z (Qq Z (Qq Z (QI Z (QI Z (QI Z (QI Z (QI Z (QI Z (QI Z (QI Z (QI Z ?_)))))))))))
   refine QI Z (QI Z (QI Z (QI Z (Qq Z (Qi Z Z (hK _ _ (Qa (kp3 Z Z Z) ?_)))))))
   refine Zl Z (Qe fun K hK => Qb Z (hK _ _ (Qa (kp1 Z) ?_)))
   refine Qr (Qw (Qj (Q8 (Qw (Qj (Qm Z ?_))))))
   first
    | exact (Qb5 hI.2 (by omega)).symm
    | exact (Y4 (i := i) (by omega) (Qbi (by omega) (.inl h2))).symm
    | (simp only [XB] at *; exact (Y4 (i := i) (by omega) (Qbi (by omega) (.inr ⟨by omega, h4⟩))).symm)
  ·try rw [h2]
   try simp only [qA] at h2
   refine Qg Z (Qb Z (Qg Z (Qdy Z Z (Qg Z (Qb Z ?_)))))
   refine Qv (g := 19) Z (fun h3 => ?_) (fun h3 => ?_)
   ·try rw [h3]
    try simp only [qA] at h3
    refine Qg Z (Qb Z (Qg Z (Qb Z (Qg Z (Qct Z Z (by first | exact Qt (by omega) (by omega) | rfl) (Qg Z (Q2 Z Z Z (by omega) (Yv (by omega) (by omega)) Z (Qg Z (Z6 Z Z (Qg Z (QL (ds0 := [3, 2, 1, 0]) (cs := [_, _, _, _, _, _, _]) Z Z Z Z Z Z ?_)))))))))))
    refine Qg Z (Qb Z (Qg Z (Qb Z (Qg Z (Q2 Z Z Z (by omega) (ZT (by omega)) Z (Qg Z (Z6 Z Z (Qg Z (QL (ds0 := [3, 2, 1, 0]) (cs := [_, _, _, _, _, _, _]) Z Z Z Z Z Z (Qg Z (Q0 (ds0 := [2, 1, 0]) (Zs (hl.at (i := ((i : Int) - 1).toNat) (by omega)).2.1 (hl.at (i := ((i : Int) - 1).toNat) (by omega)).2.2 (hl.at (i := i) (by omega)).1.1 (hl.at (i := i) (by omega)).1.2) Z Z (.inr Z) Z Z ?_)))))))))))
    refine Qg Z (Qjd Z Z (Qg Z (Qi Z Z (Qi Z Z (hK _ _ (Qa (kp3 Z Z Z) ?_))))))
    refine QA Z (fun h4 => ?_) (fun h4 => ?_)
    ·try rw [h4]
     try simp only [qA] at h4
     refine Qe fun K hK => Qb Z (hK _ _ (Qa (kp1 Z) ?_))
     refine Qr (Qw (Qj (Q8 (Qw (Qj (Qm Z ?_))))))
     first
      | exact (Qb5 hI.2 (by omega)).symm
      | exact (Y4 (i := i) (by omega) (Qbi (by omega) (.inl h2))).symm
      | (simp only [XB] at *; exact (Y4 (i := i) (by omega) (Qbi (by omega) (.inr ⟨by omega, h4⟩))).symm)
    ·try rw [h4]
     try simp only [qA] at h4
     refine Qy (Qk (Qf (kp2 Z Z) (Zb fun K hK => Qb Z (Zh Z Z (by first | exact Qt (by omega) (by omega) | rfl) (Qb Z (hK _ ?_))))))
     refine Qp (i + 1) ?_ ?_ ?_
     ·exact Q7 (kp2 rfl rfl)
     ·exact ⟨by omega, Qev hI.2 (QjL (by omega) h2 (by first | exact .inl (by omega) | (simp only [XB] at *; exact .inr (Int.not_le.1 h4))))⟩
     ·first | omega | (simp only; omega) | (dsimp only; omega)
   ·try rw [h3]
    try simp only [qA] at h3
    refine Qq Z (Qq Z (Qq Z (Qq Z (Qq Z (Qq Z (Qq Z (Qq Z (Qq Z (Qq Z (Qq Z (Qq Z ?_)))))))))))
    refine Qq Z (Qg Z (Qi Z Z (Qi Z Z (hK _ _ (Qa (kp3 Z Z Z) ?_)))))
    refine ZD Z (Qy (Qk (Qf (kp2 Z Z) (Zb fun K hK => Qb Z (Zh Z Z (by first | exact Qt (by omega) (by omega) | rfl) (Qb Z (hK _ ?_)))))))
    refine Qp (i + 1) ?_ ?_ ?_
    ·exact Q7 (kp2 rfl rfl)
    ·exact ⟨by omega, Qev hI.2 (QjL (by omega) h2 (by first | exact .inl (by omega) | (simp only [XB] at *; exact .inr (Int.not_le.1 h4))))⟩
    ·first | omega | (simp only; omega) | (dsimp only; omega)
 ·try rw [h1]
  try simp only [qA] at h1
  refine Zy (QO (QD (QJ (Qf (QW) (Qe fun K hK => Qb Z (hK _ _ (Qa (kp1 Z) ?_)))))))
  refine Qr (Qm Z ?_)
  first
   | exact (Qb5 hI.2 (by omega)).symm
   | exact (Y4 (i := i) (by omega) (Qbi (by omega) (.inl h2))).symm
   | (simp only [XB] at *; exact (Y4 (i := i) (by omega) (Qbi (by omega) (.inr ⟨by omega, h4⟩))).symm)
theorem QaF {l : List (Cu × Cu)} (hl : Sm l) {x y : Cu} (hx : Cu.sm x) (hy : Cu.sm y) : Ok Tryd.prog 69 [Zg l, .agg (dCu x), .agg (dCu y)] (.bool (mIn l x y)) := by
 refine Ok.ofT Z5 Tryd.func69 Qrw (Nat.le_of_ble_eq_true Z) ?_
 show TW _ _ tf69.body _ _
 have hn := hl.1
 refine Qe fun K hK => ZL Z Z Z (ZL Z Z Z (Qb Z (hK _ _ (Qa (kp3 Z Z Z) ?_))))
 refine QG ?_ -- 0
 refine Qe fun K hK => Qb Z (hK _ _ (Qa (kp4 Z Z Z Z) ?_))
 refine QK ?_
 refine Z0 (ι := Nat) (fun i => ⟨[(0, Zg l), (4, .ref 4 0 0), (5, .ref 5 0 0), (7, .int .i64 i)], [(4, ⟨[dCu x], 7, 90, true⟩), (5, ⟨[dCu y], 7, 90, true⟩)]⟩) (fun i => i <= l.length /\ (l.take i).any (inC x y) = false) (fun i => l.length - i) 0 ?_ ?_ ?_
 ·exact Zw (l := [0, 4, 5, 7]) (lH := [4, 5]) (kp4 rfl rfl rfl rfl) (Qu rfl (Qu rfl QB)) rfl rfl rfl
 ·exact ⟨Nat.zero_le _, by simp⟩
 intro i hI
 try dsimp only
 refine QG ?_ -- 1
 refine Qe fun K hK => Qb Z (Qb Z (ZC Z Z (YI Z Z (hK _ _ (Qa (kp5 Z Z Z Z Z) ?_)))))
 refine QA Z (fun h1 => ?_) (fun h1 => ?_)
 ·try rw [h1]
  try simp only [qA] at h1
  refine Qy (Qf (kp4 Z Z Z Z) ?_)
  refine QG ?_ -- 2
  refine QK (Qe fun K hK => Qb Z (Qb Z (Q2 Z Z Z (by omega) (ZT (by omega)) Z (Z6 Z Z (QL (ds0 := [11, 10, 9, 8, 7, 6, 5, 4, 3, 2, 1, 0]) (cs := [_, _, _, _, _, _, _]) Z Z Z Z Z Z (QL (ds0 := [11, 10, 9, 8, 7, 6, 5, 4, 3, 2, 1, 0]) (cs := [_, _, _, _, _, _, _]) Z Z Z Z Z Z (Q0 (ds0 := [10, 9, 8, 7, 6, 5, 4, 3, 2, 1, 0]) (Zs (hl.at (i := i) (by omega)).1.1 (hl.at (i := i) (by omega)).1.2 hx.1 hx.2) Z Z (.inr Z) Z Z (Qmc Z Z (Qb Z ?_)))))))))
  refine Qv (g := 22) Z (fun h2 => ?_) (fun h2 => ?_)
  ·try rw [h2]
   try simp only [qA] at h2
   refine Qg Z (QL (ds0 := [2, 1, 0]) (cs := [_, _, _, _, _, _, _]) Z Z Z Z Z Z (Qg Z (Qb Z (Qg Z (Qb Z (Qg Z (Q2 Z Z Z (by omega) (ZT (by omega)) Z (Qg Z (Z6 Z Z (Qg Z (QL (ds0 := [2, 1, 0]) (cs := [_, _, _, _, _, _, _]) Z Z Z Z Z Z ?_)))))))))))
   refine Qg Z (Q0 (ds0 := [1, 0]) (Zs hy.1 hy.2 (hl.at (i := i) (by omega)).2.1 (hl.at (i := i) (by omega)).2.2) Z Z (.inr Z) Z Z (Qg Z (Qmc Z Z (Qi Z Z (hK _ _ (Qa (kp5 Z Z Z Z Z) ?_))))))
   refine QA Z (fun h3 => ?_) (fun h3 => ?_)
   ·try rw [h3]
    try simp only [qA] at h3
    refine Qe fun K hK => Qb Z (hK _ _ (Qa (kp1 Z) ?_))
    refine Qr (Qw (Qj (Q8 (Qw (Qj (Qm Z ?_))))))
    first
     | exact (Qnd (i := i) (by omega) hI.2).symm
     | exact (QkD (i := i) (by omega) (Qpg h2 h3)).symm
   ·try rw [h3]
    try simp only [qA] at h3
    refine Qy (Qk (Qf (kp4 Z Z Z Z) (Zb fun K hK => Qb Z (Zh Z Z (by first | exact Qt (by omega) (by omega) | rfl) (Qb Z (hK _ ?_))))))
    refine Qp (i + 1) ?_ ?_ ?_
    ·exact Zw (l := [0, 4, 5, 7]) (lH := [4, 5]) (kp4 rfl rfl rfl rfl) (Qu rfl (Qu rfl QB)) rfl rfl rfl
    ·exact ⟨by omega, QkC (by omega) hI.2 (Qpf (by first | exact .inl h2 | exact .inr h3))⟩
    ·first | omega | (simp only; omega) | (dsimp only; omega)
  ·try rw [h2]
   try simp only [qA] at h2
   refine Qq Z (Qq Z (Qq Z (Qq Z (Qq Z (Qq Z (Qq Z (Qq Z (Qi Z Z (hK _ _ (Qa (kp5 Z Z Z Z Z) ?_))))))))))
   refine ZD Z (Qy (Qk (Qf (kp4 Z Z Z Z) (Zb fun K hK => Qb Z (Zh Z Z (by first | exact Qt (by omega) (by omega) | rfl) (Qb Z (hK _ ?_)))))))
   refine Qp (i + 1) ?_ ?_ ?_
   ·exact Zw (l := [0, 4, 5, 7]) (lH := [4, 5]) (kp4 rfl rfl rfl rfl) (Qu rfl (Qu rfl QB)) rfl rfl rfl
   ·exact ⟨by omega, QkC (by omega) hI.2 (Qpf (by first | exact .inl h2 | exact .inr h3))⟩
   ·first | omega | (simp only; omega) | (dsimp only; omega)
 ·try rw [h1]
  try simp only [qA] at h1
  refine Zy (QO (QD (QJ (Qf (QW) (Qe fun K hK => Qb Z (hK _ _ (Qa (kp1 Z) ?_)))))))
  refine Qr (Qm Z ?_)
  first
   | exact (Qnd (i := i) (by omega) hI.2).symm
   | exact (QkD (i := i) (by omega) (Qpg h2 h3)).symm
end Go.Proofs
namespace Go.Proofs
open Go Go.Abs M3 M25
set_option linter.unusedVariables false
set_option linter.unusedSimpArgs false
theorem Xh {s : List (Cu × Cu) × List (Cu × Cu)} (h1s : Sm s.1) (h2s : Sm s.2) : Ok Tryd.prog 45 [Qfw s] (.bool (QcG s)) := by
 refine Ok.ofT Z5 Tryd.func45 Qrb (Nat.le_of_ble_eq_true Z) ?_
 show TW _ _ tf45.body _ _
 have hn := h1s.1
 refine Qe fun K hK => ZL Z Z Z (Qb Z (hK _ _ (Qa (kp1 Z) ?_)))
 refine QG ?_ -- 0
 refine Qe fun K hK => Qh Z Z (QE Z Z Z (Qz (Ya h1s) Z Z (.inr Z) (ZM Z (Qb Z ?_))))
 refine Qv (g := 8) Z (fun h1 => ?_) (fun h1 => ?_)
 ·try rw [h1]
  try simp only [qA] at h1
  refine Qq Z (Qq Z (Qq Z (Qq Z (Qi Z Z (hK _ _ (Qa (kp2 Z Z) ?_))))))
  refine Zl Z (Qe fun K hK => Qb Z (hK _ _ (Qa (kp1 Z) ?_)))
  refine Qr (Qj (Qm Z ?_))
  first
   | exact (Qdl (i := i) h1 h2 (by omega) hI.2).symm
   | exact (Qaa (i := i) (by omega) (.inl h4)).symm
   | exact (Qaa (i := i) (by omega) (.inr h5)).symm
   | exact (Qaz (.inl h1)).symm
   | exact (Qaz (.inr h2)).symm
 ·try rw [h1]
  try simp only [qA] at h1
  refine Qg Z (Qh Z Z (Qg Z (QE Z Z Z (Qg Z (Qz (Ya h2s) Z Z (.inr Z) (Qg Z (ZM Z (Qi Z Z (hK _ _ (Qa (kp2 Z Z) ?_))))))))))
  refine QA Z (fun h2 => ?_) (fun h2 => ?_)
  ·try rw [h2]
   try simp only [qA] at h2
   refine Qe fun K hK => Qb Z (hK _ _ (Qa (kp1 Z) ?_))
   refine Qr (Qj (Qm Z ?_))
   first
    | exact (Qdl (i := i) h1 h2 (by omega) hI.2).symm
    | exact (Qaa (i := i) (by omega) (.inl h4)).symm
    | exact (Qaa (i := i) (by omega) (.inr h5)).symm
    | exact (Qaz (.inl h1)).symm
    | exact (Qaz (.inr h2)).symm
  ·try rw [h2]
   try simp only [qA] at h2
   refine Qy (Qf (kp1 Z) ?_)
   refine QG ?_ -- 1
   refine Qe fun K hK => Qb Z (hK _ _ (Qa (kp2 Z Z) ?_))
   refine QK ?_
   refine Z0 (ι := Nat) (fun i => ⟨[(1, .ref 1 0 0), (3, .int .i64 i)], [(1, ⟨[[Zg s.1, Zg s.2]], 2, 30, true⟩)]⟩) (fun i => i <= s.1.length /\ (s.1.take i).all (fun x => Xb x.1 && Xb x.2) = true) (fun i => s.1.length - i) 0 ?_ ?_ ?_
   ·exact Zw (l := [1, 3]) (lH := [1]) (kp2 rfl rfl) (Qu rfl QB) rfl rfl rfl
   ·exact ⟨Nat.zero_le _, by simp⟩
   intro i hI
   try dsimp only
   refine QG ?_ -- 2
   refine Qe fun K hK => Qb Z (Qh Z Z (QE Z Z Z (ZC Z Z (YI Z Z (hK _ _ (Qa (kp3 Z Z Z) ?_))))))
   refine QA Z (fun h3 => ?_) (fun h3 => ?_)
   ·try rw [h3]
    try simp only [qA] at h3
    refine Qy (Qf (kp2 Z Z) ?_)
    refine QG ?_ -- 3
    refine QK (Qe fun K hK => Qh Z Z (QE Z Z Z (Qb Z (Q2 Z Z Z (by omega) (ZT (by omega)) Z (Z6 Z Z (QF (cs := [_, _, _, _, _, _, _]) Z Z Z Z (Qz (XN) Z Z (.inr Z) (ZM Z (Qb Z ?_)))))))))
    refine Qv (g := 29) Z (fun h4 => ?_) (fun h4 => ?_)
    ·try rw [h4]
     try simp only [qA] at h4
     refine Qq Z (Qq Z (Qq Z (Qq Z (Qq Z (Qq Z (Qq Z (Qq Z (Qi Z Z (hK _ _ (Qa (kp3 Z Z Z) ?_))))))))))
     refine Zl Z (Qe fun K hK => Qb Z (hK _ _ (Qa (kp1 Z) ?_)))
     refine Qr (Qw (Qj (Q8 (Qw (Qj (Qm Z ?_))))))
     first
      | exact (Qdl (i := i) h1 h2 (by omega) hI.2).symm
      | exact (Qaa (i := i) (by omega) (.inl h4)).symm
      | exact (Qaa (i := i) (by omega) (.inr h5)).symm
      | exact (Qaz (.inl h1)).symm
      | exact (Qaz (.inr h2)).symm
    ·try rw [h4]
     try simp only [qA] at h4
     refine Qg Z (Qh Z Z (Qg Z (QE Z Z Z (Qg Z (Qb Z (Qg Z (Q2 Z Z Z (by omega) (ZT (by omega)) Z (Qg Z (Z6 Z Z (Qg Z (QF (cs := [_, _, _, _, _, _, _]) Z Z Z Z ?_)))))))))))
     refine Qg Z (Qz (XN) Z Z (.inr Z) (Qg Z (ZM Z (Qi Z Z (hK _ _ (Qa (kp3 Z Z Z) ?_))))))
     refine QA Z (fun h5 => ?_) (fun h5 => ?_)
     ·try rw [h5]
      try simp only [qA] at h5
      refine Qe fun K hK => Qb Z (hK _ _ (Qa (kp1 Z) ?_))
      refine Qr (Qw (Qj (Q8 (Qw (Qj (Qm Z ?_))))))
      first
       | exact (Qdl (i := i) h1 h2 (by omega) hI.2).symm
       | exact (Qaa (i := i) (by omega) (.inl h4)).symm
       | exact (Qaa (i := i) (by omega) (.inr h5)).symm
       | exact (Qaz (.inl h1)).symm
       | exact (Qaz (.inr h2)).symm
     ·try rw [h5]
      try simp only [qA] at h5
      refine Qy (Qk (Qf (kp2 Z Z) (Zb fun K hK => Qb Z (Zh Z Z (by first | exact Qt (by omega) (by omega) | rfl) (Qb Z (hK _ ?_))))))
      refine Qp (i + 1) ?_ ?_ ?_
      ·exact Zw (l := [1, 3]) (lH := [1]) (kp2 rfl rfl) (Qu rfl QB) rfl rfl rfl
      ·exact ⟨by omega, Zc (by omega) hI.2 (by rw [show Xb s.1[i].1 = true from h4, show Xb s.1[i].2 = true from h5]; rfl)⟩
      ·first | omega | (simp only; omega) | (dsimp only; omega)
   ·try rw [h3]
    try simp only [qA] at h3
    refine Zy (QO (QD (QJ (Qf (QW) (Qe fun K hK => Qb Z (hK _ _ (Qa (kp1 Z) ?_)))))))
    refine Qr (Qm Z ?_)
    first
     | exact (Qdl (i := i) h1 h2 (by omega) hI.2).symm
     | exact (Qaa (i := i) (by omega) (.inl h4)).symm
     | exact (Qaa (i := i) (by omega) (.inr h5)).symm
     | exact (Qaz (.inl h1)).symm
     | exact (Qaz (.inr h2)).symm
end Go.Proofs
namespace Go.Proofs
open Go Go.Abs M3 M25
set_option linter.unusedVariables false
set_option linter.unusedSimpArgs false
theorem Qak {l : List Cu} {c : Cu} (hl : l.length <= 3000000) (hs : ∀ x ∈ l, Cu.sm x) (hc : Cu.sm c) : Ok Tryd.prog 90 [Qgq l, .agg (dCu c)] (Qgq (QbJ l c)) := by
 refine Ok.ofT Z5 Tryd.func90 QrQ (Nat.le_of_ble_eq_true Z) ?_
 show TW _ _ tf90.body _ _
 refine Qe fun K hK => ZL Z Z Z (Qb Z (hK _ _ (Qa (kp2 Z Z) ?_)))
 refine Qe fun K hK => Qb Z (hK _ _ (Qa (kp3 Z Z Z) ?_))
 refine QG ?_ -- 0
 refine QK ?_
 refine Z0 (ι := Nat) (fun k => ⟨[(0, Qgq l), (3, .ref 3 0 0), (5, .int .i64 k)], [(3, ⟨[dCu c], 7, 90, true⟩)]⟩) (fun k => k <= l.length /\ QbJ l c = l.take k ++ QbJ (l.drop k) c) (fun k => l.length - k) 0 ?_ ?_ ?_
 ·exact Zw (l := [0, 3, 5]) (lH := [3]) (kp3 rfl rfl rfl) (Qu rfl QB) rfl rfl rfl
 ·exact ⟨Nat.zero_le _, by simp⟩
 intro k hI
 try dsimp only
 refine QG ?_ -- 1
 refine Qe fun K hK => Qb Z (Qb Z (ZC Z Z (YI Z Z (Qb Z ?_))))
 refine Qv (g := 10) Z (fun h1 => ?_) (fun h1 => ?_)
 ·try rw [h1]
  try simp only [qA] at h1
  refine Qg Z (Qb Z (Qg Z (Qb Z (Qg Z (Q2 Z Z Z (by omega) (ZT (by omega)) Z (Qg Z (QL (ds0 := [2, 1, 0]) (cs := [_, _, _, _, _, _, _]) Z Z Z Z Z Z (Qg Z (QL (ds0 := [2, 1, 0]) (cs := [_, _, _, _, _, _, _]) Z Z Z Z Z Z (Qg Z (Q0 (ds0 := [1, 0]) (Zs (hs _ (List.getElem_mem (by omega))).1 (hs _ (List.getElem_mem (by omega))).2 hc.1 hc.2) Z Z (.inr Z) Z Z ?_)))))))))))
  refine Qg Z (YI Z Z (Qi Z Z (hK _ _ (Qa (kp4 Z Z Z Z) ?_))))
  refine QA Z (fun h2 => ?_) (fun h2 => ?_)
  ·try rw [h2]
   try simp only [qA] at h2
   refine Qy (Qf (kp3 Z Z Z) (QK (Zb fun K hK => Qb Z (Zh Z Z (by first | exact Qt (by omega) (by omega) | rfl) (Qb Z (hK _ ?_))))))
   refine Qk ?_
   refine Qp (k + 1) ?_ ?_ ?_
   ·exact Zw (l := [0, 3, 5]) (lH := [3]) (kp3 rfl rfl rfl) (Qu rfl QB) rfl rfl rfl
   ·exact ⟨by omega, Qlu (by omega) h2 hI.2⟩
   ·first | omega | (simp only; omega) | (dsimp only; omega)
  ·try rw [h2]
   try simp only [qA] at h2
   refine Zy (QO (QD (QJ (Qf (kp3 Z Z Z) ?_))))
   refine QG ?_ -- 2
   refine Qe fun K hK => Qb Z (Qb Z (ZC Z Z (YI Z Z (Qb Z ?_))))
   refine Qv (g := 25) Z (fun h3 => ?_) (fun h3 => ?_)
   ·try rw [h3]
    try simp only [qA] at h3
    refine Qg Z (Qb Z (Qg Z (Qb Z (Qg Z (Q2 Z Z Z (by omega) (ZT (by omega)) Z (Qg Z (QL (ds0 := [2, 1, 0]) (cs := [_, _, _, _, _, _, _]) Z Z Z Z Z Z (Qg Z (QL (ds0 := [2, 1, 0]) (cs := [_, _, _, _, _, _, _]) Z Z Z Z Z Z (Qg Z (Q0 (ds0 := [1, 0]) (Zs (hs _ (List.getElem_mem (by omega))).1 (hs _ (List.getElem_mem (by omega))).2 hc.1 hc.2) Z Z (.inr Z) Z Z ?_)))))))))))
    refine Qg Z (YH Z Z (Qi Z Z (hK _ _ (Qa (kp4 Z Z Z Z) ?_))))
    refine QA Z (fun h4 => ?_) (fun h4 => ?_)
    ·try rw [h4]
     try simp only [qA] at h4
     refine Qe fun K hK => Qb Z (Qb Z (hK _ _ (Qa (kp1 Z) ?_)))
     refine Qr (Qj (Z3 Z ?_))
     rw [Qlt (k := k) (by omega) (by assumption) hI.2]; rfl
    ·try rw [h4]
     try simp only [qA] at h4
     refine Qy (Qf (kp3 Z Z Z) (Qe fun K hK => Qb Z (Qb Z (Qgh Z Z Z Z (by omega) (by omega) (by simp; omega) Qib Z (Qiq (ds0 := [5, 1, 0]) Z Z (fun _ h => ⟨QmX, h⟩) Z (.inl Z) (by simp) (by simp; omega) (by simp; omega) Z Z (QL (ds0 := [6, 5, 1, 0]) (cs := [_, _, _, _, _, _, _]) Z Z Z Z Z Z (QM Z Z (QeD (ds0 := [1, 0]) Z Z (by simp [D.ids, D.sid]) ⟨_, rfl, rfl, rfl, rfl, rfl⟩ Z Z (by simp) Z Z (by simp; omega) (by simp; omega) Z Z (Qb Z (Qb Z ?_))))))))))
     refine Qgh Z Z Z Z (by omega) (by simp; omega) (by simp) Qib Z (QeD (ds0 := [0]) Z Z (by simp [D.ids, D.sid]) ⟨rfl, QmX, rfl⟩ Z Z (by simp) Z Z (by simp; omega) (by simp; omega) Z Z (Qb Z (hK _ _ (Qa (kp1 Z) ?_))))
     refine Qr (Z3 Z ?_)
     rw [QjG (k := k) (by first | exact .inl (by omega) | exact .inr ⟨by omega, by assumption, by assumption⟩) hI.2]; simp [Qae, D.fz, D.fzS, Qdx, lk, D.can, D.canS, Qgq, D.sid, (show ∀ a b : Nat, a + 1 + b = a + (b + 1) from fun a b => by omega), List.take_of_length_le (show (l.map dCu).length <= l.length by simp)] <;> rfl
   ·try rw [h3]
    try simp only [qA] at h3
    exact absurd h1 h3
 ·try rw [h1]
  try simp only [qA] at h1
  refine Qq Z (Qq Z (Qq Z (Qq Z (Qq Z (Qq Z (Qq Z (Qi Z Z (hK _ _ (Qa (kp4 Z Z Z Z) ?_)))))))))
  refine ZD Z (Zy (QO (QD (QJ (Qf (kp3 Z Z Z) ?_)))))
  refine QG ?_ -- 2
  refine Qe fun K hK => Qb Z (Qb Z (ZC Z Z (YI Z Z (Qb Z ?_))))
  refine Qv (g := 25) Z (fun h5 => ?_) (fun h5 => ?_)
  ·try rw [h5]
   try simp only [qA] at h5
   exact absurd h5 h1
  ·try rw [h5]
   try simp only [qA] at h5
   refine Qq Z (Qq Z (Qq Z (Qq Z (Qq Z (Qq Z (Qq Z (Qi Z Z (hK _ _ (Qa (kp4 Z Z Z Z) ?_)))))))))
   refine ZD Z (Qy (Qf (kp3 Z Z Z) (Qe fun K hK => Qb Z (Qb Z (Qgh Z Z Z Z (by omega) (by omega) (by simp; omega) Qib Z (Qiq (ds0 := [5, 1, 0]) Z Z (fun _ h => ⟨QmX, h⟩) Z (.inl Z) (by simp) (by simp; omega) (by simp; omega) Z Z (QL (ds0 := [6, 5, 1, 0]) (cs := [_, _, _, _, _, _, _]) Z Z Z Z Z Z (QM Z Z (QeD (ds0 := [1, 0]) Z Z (by simp [D.ids, D.sid]) ⟨_, rfl, rfl, rfl, rfl, rfl⟩ Z Z (by simp) Z Z (by simp; omega) (by simp; omega) Z Z (Qb Z ?_))))))))))
   refine Qb Z (Qgh Z Z Z Z (by omega) (by simp; omega) (by simp) Qib Z (QeD (ds0 := [0]) Z Z (by simp [D.ids, D.sid]) ⟨rfl, QmX, rfl⟩ Z Z (by simp) Z Z (by simp; omega) (by simp; omega) Z Z (Qb Z (hK _ _ (Qa (kp1 Z) ?_)))))
   refine Qr (Z3 Z ?_)
   rw [QjG (k := k) (by first | exact .inl (by omega) | exact .inr ⟨by omega, by assumption, by assumption⟩) hI.2]; simp [Qae, D.fz, D.fzS, Qdx, lk, D.can, D.canS, Qgq, D.sid, (show ∀ a b : Nat, a + 1 + b = a + (b + 1) from fun a b => by omega), List.take_of_length_le (show (l.map dCu).length <= l.length by simp)] <;> rfl
theorem X2 {l : List (Cu × Cu)} (hl : Sm l) : Ok Tryd.prog 68 [Zg l] (Qgq (YN l)) := by
 refine Ok.ofT Z5 Tryd.func68 Qrv (Nat.le_of_ble_eq_true Z) ?_
 show TW _ _ tf68.body _ _
 have hn := hl.1
 refine Qe fun K hK => Qb Z (hK _ _ (Qa (kp1 Z) ?_))
 refine Qe fun K hK => Qz (YV) Z Z (.inl Z) (Qz (Y8) Z Z (.inl Z) (QM Z Z (Qb Z (hK _ _ (Qa (kp2 Z Z) ?_)))))
 refine QG ?_ -- 0
 refine Qe fun K hK => Qb Z (hK _ _ (Qa (kp3 Z Z Z) ?_))
 refine QK ?_
 refine Z0 (ι := Nat) (fun i => ⟨[(0, Zg l), (3, Qgq (YN (l.take i))), (4, .int .i64 i)], []⟩) (fun i => i <= l.length) (fun i => l.length - i) 0 ?_ ?_ ?_
 ·exact le_trans (Qlo 7 _ (by decide)) (Zw (l := [0, 3, 4]) (lH := []) (kp3 rfl rfl rfl) QB rfl rfl rfl)
 ·exact Nat.zero_le _
 intro i hI
 try dsimp only
 refine QG ?_ -- 1
 refine Qe fun K hK => Qb Z (Qb Z (ZC Z Z (YI Z Z (hK _ _ (Qa (kp4 Z Z Z Z) ?_)))))
 refine QA Z (fun h1 => ?_) (fun h1 => ?_)
 ·try rw [h1]
  try simp only [qA] at h1
  refine Qy (Qf (kp3 Z Z Z) ?_)
  refine QG ?_ -- 2
  refine QK (Zb fun K hK => Qb Z (Qb Z (Qb Z (Q2 Z Z Z (by omega) (ZT (by omega)) Z (Z6 Z Z (QL (ds0 := [7, 1, 0]) (cs := [_, _, _, _, _, _, _]) Z Z Z Z Z Z (Q0 (ds0 := [1, 0]) (Qak (Nat.le_trans (Qen hl i).1 (by omega)) (Qen hl i).2 (hl.2 _ (List.getElem_mem (by omega))).1) Z Z (.inl Z) Z Z (Qb Z (Qb Z (Q2 Z Z Z (by omega) (ZT (by omega)) Z ?_))))))))))
  refine Z6 Z Z (QL (ds0 := [1, 0]) (cs := [_, _, _, _, _, _, _]) Z Z Z Z Z Z (Q0 (ds0 := [0]) (Qak (Nat.le_trans (Qep _ _) (by have := (Qen hl i).1; omega)) (QgR (Qen hl i).2 (hl.2 _ (List.getElem_mem (by omega))).1) (hl.2 _ (List.getElem_mem (by omega))).2) Z Z (.inl Z) Z Z (Qb Z (hK _ ?_))))
  refine Qk (Qf (kp3 Z Z Z) (Zb fun K hK => Qb Z (Zh Z Z (by first | exact Qt (by omega) (by omega) | rfl) (Qb Z (hK _ ?_)))))
  refine Qp (i + 1) ?_ ?_ ?_
  ·exact Zw (l := [0, 3, 4]) (lH := []) (kp3 rfl rfl rfl) QB (by rw [QmH (by omega)]; rfl) rfl rfl
  ·omega
  ·first | omega | (simp only; omega) | (dsimp only; omega)
 ·try rw [h1]
  try simp only [qA] at h1
  refine Zy (QO (QD (QJ (Qf (kp1 Z) (Qe fun K hK => Qb Z (Qb Z (hK _ _ (Qa (kp1 Z) ?_))))))))
  refine Qr (Z3 Z ?_)
  rw [List.take_of_length_le (show l.length <= i by omega)]; rfl
end Go.Proofs
namespace Go.Proofs
open Go Go.Abs M3 M25
set_option linter.unusedVariables false
set_option linter.unusedSimpArgs false
theorem X3 {l : List (Cu × Cu)} {x y : Cu} (hn : l.length <= 3000000) (hl : ∀ s ∈ l, Cu.sm s.1 /\ Cu.sm s.2) (hx : Cu.sm x) (hy : Cu.sm y) : OkH Tryd.prog 70 [.osl 500000 l.length, .agg (dCu x), .agg (dCu y)] [(500000, ⟨l.map Qd9, 14, 93, true⟩)] (.osl 500000 (QbI l x y).length) [(500000, ⟨(QbI l x y).map Qd9, 14, 93, true⟩)] := by
 refine OkH.mv Z5 Tryd.func70 Qrx (Nat.le_of_ble_eq_true Z) Z ?_
 show TW _ _ tf70.body _ _
 refine Qe fun K hK => ZL Z Z Z (ZL Z Z Z (Qb Z (hK _ _ (Qa (kp3 Z Z Z) ?_))))
 refine QG ?_ -- 0
 refine Qe fun K hK => Qb Z (ZC Z Z (Qct Z Z (by first | exact Qt (by omega) (by omega) | rfl) (Qb Z (hK _ _ (Qa (kp4 Z Z Z Z) ?_)))))
 refine Qe fun K hK => Qb Z (Qjd Z Z (Qb Z ?_))
 refine Qv (g := 13) Z (fun h1 => ?_) (fun h1 => ?_)
 ·try rw [h1]
  try simp only [qA] at h1
  refine Qg Z (Qb Z (Qg Z (Qb Z (Qg Z (QcP (ds0 := [5, 4, 2, 1, 0]) Z Z Z (by simp) (by omega) (by omega) Z Z Z (Qg Z (Qh Z Z (Qg Z (QL (ds0 := [2, 1, 0]) (cs := [_, _, _, _, _, _, _]) Z (Yg Z (Yv (by omega) (by omega))) Z Z Z Z (Qg Z (QL (ds0 := [2, 1, 0]) (cs := [_, _, _, _, _, _, _]) Z Z Z Z Z Z ?_)))))))))))
  refine Qg Z (Q0 (ds0 := [1, 0]) (Zs (hl _ (List.getElem_mem (by omega))).2.1 (hl _ (List.getElem_mem (by omega))).2.2 hx.1 hx.2) Z Z (.inr Z) Z Z (Qg Z (YH Z Z (Qi Z Z (hK _ _ (Qa (kp5 Z Z Z Z Z) ?_))))))
  refine QA Z (fun h2 => ?_) (fun h2 => ?_)
  ·try rw [h2]
   try simp only [qA] at h2
   refine Qe fun K hK => Qb Z (Qb Z (QF (cs := [_, _, _, _, _, _, _]) Z Z Z Z (QaR Z Z Z (by simp) (by omega) (by omega) Z (Qh Z Z (QZ Z Z (Yv (by omega) (by omega)) Z Z Z Z Z (hK _ _ (Qa (kp1 Z) ?_)))))))
   refine Qe fun K hK => Qb Z (Qb Z (hK _ _ (Qa (kp1 Z) ?_)))
   refine Qr (Qj ?_)
   refine Qab Z ?_ (Qi0 ?_)
   ·rw [QhU (i := ((l.length : Int) - 1).toNat) (by omega) h2]; simp [Ql6, D.fz, D.fzS, QfJ, D.can, D.canS]
   ·rw [QhU (i := ((l.length : Int) - 1).toNat) (by omega) h2]; simp [lk, List.map_set, Qd9, dCu, setRow, D.sid]
  ·try rw [h2]
   try simp only [qA] at h2
   refine Qy (Qf (kp3 Z Z Z) (Qe fun K hK => Qb Z (QF (cs := [_, _, _, _, _, _, _]) Z Z Z Z (QF (cs := [_, _, _, _, _, _, _]) Z Z Z Z (QY Z Z (QM Z Z (Qbq Z Z (fun _ h => Qbj Z Z Z h) Z (by simp) Z Z Z (by simp; omega) (by simp; omega) (Qb Z (hK _ _ (Qa (kp1 Z) ?_))))))))))
   refine Qr ?_
   refine Qab Z ?_ (Qi0 ?_)
   ·rw [Qdj (.inr ⟨((l.length : Int) - 1).toNat, by omega, h2⟩)]; simp [Ql6, D.fz, D.fzS, QfJ, D.can, D.canS]
   ·rw [Qdj (.inr ⟨((l.length : Int) - 1).toNat, by omega, h2⟩)]; simp [lk, Qd9, dCu, D.sid]
 ·try rw [h1]
  try simp only [qA] at h1
  refine Qq Z (Qq Z (Qq Z (Qq Z (Qq Z (Qq Z (Qq Z (Qq Z (Qi Z Z (hK _ _ (Qa (kp5 Z Z Z Z Z) ?_))))))))))
  refine ZD Z (Qy (Qf (kp3 Z Z Z) (Qe fun K hK => Qb Z (QF (cs := [_, _, _, _, _, _, _]) Z Z Z Z (QF (cs := [_, _, _, _, _, _, _]) Z Z Z Z (QY Z Z (QM Z Z (Qbq Z Z (fun _ h => Qbj Z Z Z h) Z (by simp) Z Z Z (by simp; omega) (by simp; omega) (Qb Z (hK _ _ (Qa (kp1 Z) ?_)))))))))))
  refine Qr ?_
  have h0 : l = [] := List.eq_nil_of_length_eq_zero (by omega)
  refine Qab Z ?_ (Qi0 ?_)
  ·rw [Qdj (.inl h0)]; simp [Ql6, D.fz, D.fzS, QfJ, D.can, D.canS]
  ·rw [Qdj (.inl h0)]; simp [lk, Qd9, dCu, D.sid]
end Go.Proofs
namespace Go.Proofs
open Go Go.Abs M3 M25
set_option linter.unusedVariables false
set_option linter.unusedSimpArgs false
theorem QcB {l : List (Cu × Cu)} (hl : Sm l) : Ok Tryd.prog 67 [Zg l] (.tup [Zg (QiN l), .bool (l.all Qcr)]) := by
  refine Ok.ofT Z5 Tryd.func67 Qru (Nat.le_of_ble_eq_true Z) ?_
  show TW _ _ tf67.body _ _
  have hn := hl.1
  have hc1 := QbG l
  refine Qe fun K hK => Qb Z (Qb Z (hK _ _ (Qa (kp1 Z) ?_)))
  refine QG ?_ -- 0
  refine Qe fun K hK => Qb Z (hK _ _ (Qa (kp2 Z Z) ?_))
  refine QK ?_
  refine Z0 (ι := Nat) (fun i => ⟨[(0, Zg l), (4, .int .i64 i)], []⟩) (fun i => i <= l.length /\ (l.take i).all Qcr = true) (fun i => l.length - i) 0 ?_ ?_ ?_
  · exact Q7 (kp2 rfl rfl)
  · exact ⟨Nat.zero_le _, by simp⟩
  intro i hI
  try dsimp only
  refine QG ?_ -- 1
  refine Qe fun K hK => Qb Z (Qb Z (ZC Z Z (YI Z Z (hK _ _ (Qa (kp3 Z Z Z) ?_)))))
  refine QA Z (fun h1 => ?_) (fun h1 => ?_)
  · try rw [h1]
    try simp only [qA] at h1
    refine Qy (Qf (kp2 Z Z) ?_)
    refine QG ?_ -- 2
    refine QK (Qe fun K hK => Qb Z (Qb Z (Q2 Z Z Z (by omega) (ZT (by omega)) Z (QF (cs := [_, _, _, _, _, _, _, _, _, _, _, _, _, _]) Z Z Z Z (Qz (Xp (hl.at (i := i) (by omega)).1.1 (hl.at (i := i) (by omega)).1.2 (hl.at (i := i) (by omega)).2.1 (hl.at (i := i) (by omega)).2.2) Z Z (.inr Z) (ZM Z (hK _ _ (Qa (kp3 Z Z Z) ?_))))))))
    refine QA Z (fun h2 => ?_) (fun h2 => ?_)
    · try rw [h2]
      try simp only [qA] at h2
      refine Qe fun K hK => Qb Z (Qb Z (hK _ _ (Qa (kp2 Z Z) ?_)))
      refine Qr (Qw (Qj (Q8 (Qw (Qj ?_)))))
      first
        | exact ZR rfl rfl ⟨by rw [QiN, if_neg (by rw [Yf (i := i) (by omega) (by assumption)]; simp)]; rfl, by rw [Yf (i := i) (by omega) (by assumption)]; rfl⟩
        | (have ha : l.all Qcr = true := Y7 (by omega) hI.2
           exact ZR rfl rfl ⟨by rw [QiN, if_pos ha, hI2.done (by omega)]; simp [Qae, D.fz, D.fzS, Qdx, lk, D.can, D.canS, Zg], by rw [ha]; rfl⟩)
    · try rw [h2]
      try simp only [qA] at h2
      refine Qy (Qk (Qf (kp2 Z Z) (Zb fun K hK => Qb Z (Zh Z Z (by first | exact Qt (by omega) (by omega) | rfl) (Qb Z (hK _ ?_))))))
      refine Qp (i + 1) ?_ ?_ ?_
      · exact Q7 (kp2 rfl rfl)
      · exact ⟨by omega, Zc (by omega) hI.2 (by assumption)⟩
      · first | omega | (simp only; omega) | (dsimp only; omega)
  · try rw [h1]
    try simp only [qA] at h1
    refine Zy (QO (QD (QJ (Qf (kp1 Z) (Qe fun K hK => Qb Z (hK _ _ (Qa (kp2 Z Z) ?_)))))))
    refine Qe fun K hK => Qb Z (Qz (X2 hl) Z Z (.inl Z) (Qb Z (hK _ _ (Qa (kp3 Z Z Z) ?_))))
    refine QG ?_ -- 3
    refine Qe fun K hK => Qb Z (hK _ _ (Qa (kp4 Z Z Z Z) ?_))
    refine QK ?_
    refine Z0 (ι := Nat × List (Cu × Cu)) (fun ⟨i, out⟩ => ⟨[(0, Zg l), (5, .osl 5 out.length), (6, Qgq (YN l)), (7, .int .i64 i)], [(5, ⟨out.map Qd9, 14, 93, true⟩)]⟩) (fun ⟨i, out⟩ => i <= (YN l).length /\ FillI (mIn l) (YN l) i out) (fun ⟨i, out⟩ => (YN l).length - i) (0, []) ?_ ?_ ?_
    · exact le_trans (XF 5 5 14 93 rfl rfl) (Zw (l := [0, 5, 6, 7]) (lH := [5]) (kp4 rfl rfl rfl rfl) (Qu rfl QB) rfl rfl rfl)
    · exact ⟨Nat.zero_le _, FillI.zero⟩
    intro ⟨i, out⟩ hI
    obtain ⟨hI1, hI2⟩ := hI
    have hI3 := hI2.1
    try dsimp only
    refine QG ?_ -- 4
    refine Qe fun K hK => Qb Z (Zh Z Z (by first | exact Qt (by omega) (by omega) | rfl) (Qb Z (ZC Z Z (YI Z Z (hK _ _ (Qa (kp5 Z Z Z Z Z) ?_))))))
    refine QA Z (fun h3 => ?_) (fun h3 => ?_)
    · try rw [h3]
      try simp only [qA] at h3
      refine Qy (Qf (kp4 Z Z Z Z) ?_)
      refine QG ?_ -- 5
      refine QK (Qe fun K hK => Qb Z (Qb Z (Qb Z (Q2 Z Z Z (by omega) (ZT (by omega)) Z (QL (ds0 := [0]) (cs := [_, _, _, _, _, _, _]) Z Z Z Z Z Z (Qb Z (Qb Z (Zh Z Z (by first | exact Qt (by omega) (by omega) | rfl) (Q2 Z Z Z (by omega) (Qjx (by omega)) Z (QL (ds0 := [0]) (cs := [_, _, _, _, _, _, _]) Z Z Z Z Z Z ?_))))))))))
      refine Q0 (ds0 := []) (QaF hl (Ys hl _ (List.getElem_mem (by omega))) (Ys hl _ (List.getElem_mem (by omega)))) Z Z (.inr Z) Z Z (hK _ _ (Qa (kp5 Z Z Z Z Z) ?_))
      refine QA Z (fun h4 => ?_) (fun h4 => ?_)
      · try rw [h4]
        try simp only [qA] at h4
        refine Zb fun K hK => Qb rfl (Qb rfl (Qb rfl (Q2 rfl rfl rfl (by omega) (ZT (by omega)) rfl (QL (ds0 := [1, 0]) (cs := [_, _, _, _, _, _, _]) rfl rfl rfl rfl rfl rfl (Qb rfl (Qb rfl (Zh rfl rfl (by first | exact Qt (by omega) (by omega) | rfl) (Q2 rfl rfl rfl (by omega) (Qjx (by omega)) rfl (QL (ds0 := [1, 0]) (cs := [_, _, _, _, _, _, _]) rfl rfl rfl rfl rfl rfl (Qjc (ds0 := [0]) (Qnh (k := 5) rfl rfl rfl (by decide) rfl (by decide) (by simp [D.ids, D.sid, dCu]) ⟨.osl 5 out.length, by simp, by simp [D.ids, D.sid]⟩ rfl rfl (X3 (by omega) hI2.2.1 (Ys hl _ (List.getElem_mem (by omega))) (Ys hl _ (List.getElem_mem (by omega))))) (fun _ h => by cases h) rfl rfl ?_))))))))))
        refine Qb Z (hK _ ?_)
        refine Qk (Qf (kp4 Z Z Z Z) (Zb fun K hK => Qb Z (Zh Z Z (by first | exact Qt (by omega) (by omega) | rfl) (Qb Z (hK _ ?_)))))
        refine Qp (i + 1, QbI out (YN l)[i] (YN l)[i + 1]) ?_ ?_ ?_
        · exact le_trans (Qlm (l := [0, 6, 7]) (t := 50) (u := 5) 5 (kp3 rfl rfl rfl) rfl rfl rfl rfl) (Zw (l := [0, 5, 6, 7]) (lH := [5]) (kp4 rfl rfl rfl rfl) (Qu rfl QB) rfl rfl rfl)
        · exact ⟨by omega, hI2.take (Ys hl) (by omega) (by assumption)⟩
        · show (YN l).length - (i + 1) < (YN l).length - i; omega
      · try rw [h4]
        try simp only [qA] at h4
        refine Qy (Qk (Qf (kp4 Z Z Z Z) (Zb fun K hK => Qb Z (Zh Z Z (by first | exact Qt (by omega) (by omega) | rfl) (Qb Z (hK _ ?_))))))
        refine Qp (i + 1, out) ?_ ?_ ?_
        · exact Zw (l := [0, 5, 6, 7]) (lH := [5]) (kp4 rfl rfl rfl rfl) (Qu rfl QB) rfl rfl rfl
        · exact ⟨by omega, hI2.skip (by omega) (by assumption)⟩
        · show (YN l).length - (i + 1) < (YN l).length - i; omega
    · try rw [h3]
      try simp only [qA] at h3
      refine Zy (QO (QD (QJ (Qf (kp1 Z) (Qe fun K hK => Qb Z (Qb Z (Qb Z (hK _ _ (Qa (kp2 Z Z) ?_)))))))))
      refine Qr ?_
      first
        | exact ZR rfl rfl ⟨by rw [QiN, if_neg (by rw [Yf (i := i) (by omega) (by assumption)]; simp)]; rfl, by rw [Yf (i := i) (by omega) (by assumption)]; rfl⟩
        | (have ha : l.all Qcr = true := Y7 (by omega) hI.2
           exact ZR rfl rfl ⟨by rw [QiN, if_pos ha, hI2.done (by omega)]; simp [Qae, D.fz, D.fzS, Qdx, lk, D.can, D.canS, Zg], by rw [ha]; rfl⟩)
end Go.Proofs
namespace Go.Proofs
open Go Go.Abs M3 M25
set_option linter.unusedVariables false
set_option linter.unusedSimpArgs false
theorem QaE {a b : List (Cu × Cu)} (ha : Sm a) (hb : Sm b) (hab : a.length + b.length <= 1000000) : Ok Tryd.prog 49 [Zg a, Zg b] (Zg (Qnp a b)) := by
 refine Ok.ofT Z5 Tryd.func49 Qre (Nat.le_of_ble_eq_true Z) ?_
 show TW _ _ tf49.body _ _
 refine Qe fun K hK => Qb Z (hK _ _ (Qa (kp2 Z Z) ?_))
 refine QG ?_ -- 0
 refine Qe fun K hK => Qb Z (Qz (Ya ha) Z Z (.inr Z) (ZM Z (Qb Z ?_)))
 refine Qv (g := 10) Z (fun h1 => ?_) (fun h1 => ?_)
 ·try rw [h1]
  try simp only [qB] at h1
  refine Qq Z (Qq Z (Qq Z (Qi Z Z (hK _ _ (Qa (kp3 Z Z Z) ?_)))))
  refine Zl Z (Qe fun K hK => Qb Z (hK _ _ (Qa (kp1 Z) ?_)))
  refine Qr (Qj (Z3 Z ?_))
  rw [Qnp, if_neg (by simp [h1])]; rfl
 ·try rw [h1]
  try simp only [qB] at h1
  refine Qg Z (Qb Z (Qg Z (Qz (Ya hb) Z Z (.inr Z) (Qg Z (ZM Z (Qi Z Z (hK _ _ (Qa (kp3 Z Z Z) ?_))))))))
  refine QA Z (fun h2 => ?_) (fun h2 => ?_)
  ·try rw [h2]
   try simp only [qB] at h2
   refine Qe fun K hK => Qb Z (hK _ _ (Qa (kp1 Z) ?_))
   refine Qr (Qj (Z3 Z ?_))
   rw [Qnp, if_neg (by simp [h1, h2])]; rfl
  ·try rw [h2]
   try simp only [qB] at h2
   refine Qy (Qf (kp2 Z Z) (Qe fun K hK => Qb Z (QoS Z Z (fun _ h => QnA Qnv h) Z (.inl Z) (by simp) (by simp; omega) (by simp; omega) (Qb Z (Qbq Z Z (fun _ h => QnA Qnv h) Z (by simp) Z Z Z (by simp; omega) (by simp; omega) ?_)))))
   apply QnJ [17] (by simp)
   ·simp [St.freezeL, St.freeze, rem, D.fz, D.fzS, Box.fz, lk, D.scrub]; exact ⟨rfl, rfl⟩
   ·exact QcB (ha.app hb hab)
   ·rfl
   ·simp [Qae, D.fz, D.fzS, Qdx, D.can, D.canS, Zg]
   ·exact .inl rfl
   refine Qb Z (Zd Z Z (Zd Z Z (Qb Z (Qb Z (hK _ _ (Qa (kp1 Z) ?_))))))
   refine Qe fun K hK => Qb Z (Qb Z (hK _ _ (Qa (kp1 Z) ?_)))
   refine Qr (Z3 Z ?_)
   rw [Qnp, if_pos ⟨h1, h2⟩]; rfl
theorem Qaj {a : List (Cu × Cu)} (ha : Sm a) : Ok Tryd.prog 51 [Zg a] (Zg (QiO a)) := by
 refine Ok.ofT Z5 Tryd.func51 Qrf (Nat.le_of_ble_eq_true Z) ?_
 show TW _ _ tf51.body _ _
 have hn := ha.1
 have hc1 := QbG a
 refine Qe fun K hK => Qb Z (hK _ _ (Qa (kp1 Z) ?_))
 refine QG ?_ -- 0
 refine Qe fun K hK => Qb Z (Qz (Ya ha) Z Z (.inr Z) (ZM Z (hK _ _ (Qa (kp2 Z Z) ?_))))
 refine QA Z (fun h1 => ?_) (fun h1 => ?_)
 ·try rw [h1]
  try simp only [qA] at h1
  refine Qe fun K hK => Qb Z (hK _ _ (Qa (kp1 Z) ?_))
  refine Qr (Qj (Z3 Z ?_))
  rw [QiO, if_neg (by simp [h1])]; rfl
 ·try rw [h1]
  try simp only [qA] at h1
  refine Qy (Qf (kp1 Z) (Qe fun K hK => Qb Z (hK _ _ (Qa (kp2 Z Z) ?_))))
  refine Qe fun K hK => Qb Z (Qz (X2 ha) Z Z (.inl Z) (Qb Z (hK _ _ (Qa (kp3 Z Z Z) ?_))))
  refine QG ?_ -- 1
  refine Qe fun K hK => Qb Z (hK _ _ (Qa (kp4 Z Z Z Z) ?_))
  refine QK ?_
  refine Z0 (ι := Nat × List (Cu × Cu)) (fun ⟨i, out⟩ => ⟨[(0, Zg a), (3, .osl 3 out.length), (4, Qgq (YN a)), (5, .int .i64 i)], [(3, ⟨out.map Qd9, 14, 93, true⟩)]⟩) (fun ⟨i, out⟩ => i <= (YN a).length /\ FillI (fun x y => !mIn a x y) (YN a) i out) (fun ⟨i, out⟩ => (YN a).length - i) (0, []) ?_ ?_ ?_
  ·exact le_trans (XF 3 3 14 93 rfl rfl) (Zw (l := [0, 3, 4, 5]) (lH := [3]) (kp4 rfl rfl rfl rfl) (Qu rfl QB) rfl rfl rfl)
  ·exact ⟨Nat.zero_le _, FillI.zero⟩
  intro ⟨i, out⟩ hI
  obtain ⟨hI1, hI2⟩ := hI
  have hI3 := hI2.1
  try dsimp only
  refine QG ?_ -- 2
  refine Qe fun K hK => Qb Z (Zh Z Z (by first | exact Qt (by omega) (by omega) | rfl) (Qb Z (ZC Z Z (YI Z Z (hK _ _ (Qa (kp5 Z Z Z Z Z) ?_))))))
  refine QA Z (fun h2 => ?_) (fun h2 => ?_)
  ·try rw [h2]
   try simp only [qA] at h2
   refine Qy (Qf (kp4 Z Z Z Z) ?_)
   refine QG ?_ -- 3
   refine QK (Qe fun K hK => Qb Z (Qb Z (Qb Z (Q2 Z Z Z (by omega) (ZT (by omega)) Z (QL (ds0 := [1, 0]) (cs := [_, _, _, _, _, _, _]) Z Z Z Z Z Z (Qb Z (Qb Z (Zh Z Z (by first | exact Qt (by omega) (by omega) | rfl) (Q2 Z Z Z (by omega) (Qjx (by omega)) Z (QL (ds0 := [1, 0]) (cs := [_, _, _, _, _, _, _]) Z Z Z Z Z Z ?_))))))))))
   refine Q0 (ds0 := [0]) (QaF ha (Ys ha _ (List.getElem_mem (by omega))) (Ys ha _ (List.getElem_mem (by omega)))) Z Z (.inr Z) Z Z (ZM Z (hK _ _ (Qa (kp5 Z Z Z Z Z) ?_)))
   refine QA Z (fun h3 => ?_) (fun h3 => ?_)
   ·try rw [h3]
    try simp only [qA] at h3
    refine Zb fun K hK => Qb rfl (Qb rfl (Qb rfl (Q2 rfl rfl rfl (by omega) (ZT (by omega)) rfl (QL (ds0 := [1, 0]) (cs := [_, _, _, _, _, _, _]) rfl rfl rfl rfl rfl rfl (Qb rfl (Qb rfl (Zh rfl rfl (by first | exact Qt (by omega) (by omega) | rfl) (Q2 rfl rfl rfl (by omega) (Qjx (by omega)) rfl (QL (ds0 := [1, 0]) (cs := [_, _, _, _, _, _, _]) rfl rfl rfl rfl rfl rfl (Qjc (ds0 := [0]) (Qnh (k := 3) rfl rfl rfl (by decide) rfl (by decide) (by simp [D.ids, D.sid, dCu]) ⟨.osl 3 out.length, by simp, by simp [D.ids, D.sid]⟩ rfl rfl (X3 (by omega) hI2.2.1 (Ys ha _ (List.getElem_mem (by omega))) (Ys ha _ (List.getElem_mem (by omega))))) (fun _ h => by cases h) rfl rfl ?_))))))))))
    refine Qb Z (hK _ ?_)
    refine Qk (Qf (kp4 Z Z Z Z) (Zb fun K hK => Qb Z (Zh Z Z (by first | exact Qt (by omega) (by omega) | rfl) (Qb Z (hK _ ?_)))))
    refine Qp (i + 1, QbI out (YN a)[i] (YN a)[i + 1]) ?_ ?_ ?_
    ·exact le_trans (Qlm (l := [0, 4, 5]) (t := 40) (u := 3) 3 (kp3 rfl rfl rfl) rfl rfl rfl rfl) (Zw (l := [0, 3, 4, 5]) (lH := [3]) (kp4 rfl rfl rfl rfl) (Qu rfl QB) rfl rfl rfl)
    ·exact ⟨by omega, hI2.take (Ys ha) (by omega) (by simp; assumption)⟩
    ·show (YN a).length - (i + 1) < (YN a).length - i; omega
   ·try rw [h3]
    try simp only [qA] at h3
    refine Qy (Qk (Qf (kp4 Z Z Z Z) (Zb fun K hK => Qb Z (Zh Z Z (by first | exact Qt (by omega) (by omega) | rfl) (Qb Z (hK _ ?_))))))
    refine Qp (i + 1, out) ?_ ?_ ?_
    ·exact Zw (l := [0, 3, 4, 5]) (lH := [3]) (kp4 rfl rfl rfl rfl) (Qu rfl QB) rfl rfl rfl
    ·exact ⟨by omega, hI2.skip (by omega) (by simp; assumption)⟩
    ·show (YN a).length - (i + 1) < (YN a).length - i; omega
  ·try rw [h2]
   try simp only [qA] at h2
   refine Zy (QO (QD (QJ (Qf (kp1 Z) (Qe fun K hK => Qb Z (Qb Z (hK _ _ (Qa (kp1 Z) ?_))))))))
   refine Qr (Z3 Z ?_)
   rw [QiO, if_pos h1, hI2.done (by omega)]; simp [Qae, D.fz, D.fzS, Qdx, lk, D.can, D.canS, Zg]
end Go.Proofs
namespace Go.Proofs
open Go Go.Abs M3 M25
set_option linter.unusedVariables false
set_option linter.unusedSimpArgs false
theorem QdA {a b : QeE} (h1a : Sm a.1) (h2a : Sm a.2) (h1b : Sm b.1) (h2b : Sm b.2) (hl1 : a.1.length + b.1.length <= 1000000) (hl2 : a.2.length + b.2.length <= 1000000) : Ok Tryd.prog 27 [Qfw a, Qfw b] (Qfw (Qnq a b)) := by
 refine Ok.ofT Z5 Tryd.func27 QqU (Nat.le_of_ble_eq_true Z) ?_
 show TW _ _ tf27.body _ _
 refine Qe fun K hK => ZL Z Z Z (ZL Z Z Z (ZG Z (hK _ _ (Qa (kp3 Z Z Z) ?_))))
 refine QG ?_ -- 0
 refine Qe fun K hK => QF (cs := [_, _]) Z Z Z Z (Qz (Xh h1a h2a) Z Z (.inr Z) (ZM Z (Qb Z ?_)))
 refine Qv (g := 8) Z (fun h1 => ?_) (fun h1 => ?_)
 ·try rw [h1]
  try simp only [qB] at h1
  refine Qq Z (Qq Z (Qq Z (Qi Z Z (hK _ _ (Qa (kp4 Z Z Z Z) ?_)))))
  refine Zl Z (Qe fun K hK => Qz (Z1) Z Z (.inl Z) (QZ Z Z Z Z Z Z Z Z (hK _ _ (Qa (kp1 Z) ?_))))
  refine Qr (Qj (Post.eq (Zx (ds := [.sl _, .sl _]) (cs := [_, _]) Z Z Z Z Z) ?_))
  rw [Qnq, if_neg (by simp [h1])]; rfl
 ·try rw [h1]
  try simp only [qB] at h1
  refine Qg Z (QF (cs := [_, _]) Z Z Z Z (Qg Z (Qz (Xh h1b h2b) Z Z (.inr Z) (Qg Z (ZM Z (Qi Z Z (hK _ _ (Qa (kp4 Z Z Z Z) ?_))))))))
  refine QA Z (fun h2 => ?_) (fun h2 => ?_)
  ·try rw [h2]
   try simp only [qB] at h2
   refine Qe fun K hK => Qz (Z1) Z Z (.inl Z) (QZ Z Z Z Z Z Z Z Z (hK _ _ (Qa (kp1 Z) ?_)))
   refine Qr (Qj (Post.eq (Zx (ds := [.sl _, .sl _]) (cs := [_, _]) Z Z Z Z Z) ?_))
   rw [Qnq, if_neg (by simp [h1, h2])]; rfl
  ·try rw [h2]
   try simp only [qB] at h2
   refine Qy (Qf (kp3 Z Z Z) (Qe fun K hK => Qh Z Z (Zm (ds0 := [7, 1, 0]) Z Z Z Z Z (Qh Z Z (Zm (ds0 := [7, 1, 0]) Z Z Z Z Z (Q0 (ds0 := [1, 0]) (QaE h1a h1b hl1) Z Z (.inl Z) Z Z (Qh Z Z (Zm (ds0 := [2, 1, 0]) Z Z Z Z Z (Qh Z Z (Zm (ds0 := [2, 1, 0]) Z Z Z Z Z ?_))))))))))
   refine Q0 (ds0 := [1, 0]) (QaE h2a h2b hl2) Z Z (.inl Z) Z Z (QY Z Z (Xd (ds0 := []) Z Z Z Z Z Z Z Z Z Z (hK _ _ (Qa (kp1 Z) ?_))))
   refine Qr (Post.eq (Zx (ds := [.sl _, .sl _]) (cs := [_, _]) Z Z Z Z Z) ?_)
   rw [Qnq, if_pos ⟨h1, h2⟩]; rfl
theorem Qc1 {a : QeE} (h1a : Sm a.1) (h2a : Sm a.2) : Ok Tryd.prog 29 [Qfw a] (Qfw (QgQ a)) := by
 refine Ok.ofT Z5 Tryd.func29 QqV (Nat.le_of_ble_eq_true Z) ?_
 show TW _ _ tf29.body _ _
 refine Qe fun K hK => ZL Z Z Z (ZG Z (hK _ _ (Qa (kp2 Z Z) ?_)))
 refine QG ?_ -- 0
 refine Qe fun K hK => QF (cs := [_, _]) Z Z Z Z (Qz (Xh h1a h2a) Z Z (.inr Z) (ZM Z (hK _ _ (Qa (kp3 Z Z Z) ?_))))
 refine QA Z (fun h1 => ?_) (fun h1 => ?_)
 ·try rw [h1]
  try simp only [qB] at h1
  refine Qe fun K hK => Qz (Z1) Z Z (.inl Z) (QZ Z Z Z Z Z Z Z Z (hK _ _ (Qa (kp1 Z) ?_)))
  refine Qr (Qj (Post.eq (Zx (ds := [.sl _, .sl _]) (cs := [_, _]) Z Z Z Z Z) ?_))
  rw [QgQ, if_neg (by simp [h1])]; rfl
 ·try rw [h1]
  try simp only [qB] at h1
  refine Qy (Qf (kp2 Z Z) (Qe fun K hK => Qh Z Z (Zm (ds0 := [5, 1, 0]) Z Z Z Z Z (Q0 (ds0 := [1, 0]) (Qaj h1a) Z Z (.inl Z) Z Z (Qh Z Z (Zm (ds0 := [2, 1, 0]) Z Z Z Z Z (Q0 (ds0 := [1, 0]) (Qaj h2a) Z Z (.inl Z) Z Z (QY Z Z (Xd (ds0 := []) Z Z Z Z Z Z Z Z Z Z (hK _ _ (Qa (kp1 Z) ?_)))))))))))
  refine Qr (Post.eq (Zx (ds := [.sl _, .sl _]) (cs := [_, _]) Z Z Z Z Z) ?_)
  rw [QgQ, if_pos h1]; rfl
end Go.Proofs
namespace Go.Proofs
open Go Go.Abs M3 M25
set_option linter.unusedVariables false
set_option linter.unusedSimpArgs false
theorem YS {v n : Int} (hn : n <= 9223372036854775807) (hv : I64 v) : Ok Tryd.prog 11 [.int .i64 v, .int .i64 n] (.int .i64 (mPl v n)) := by
 refine Ok.ofT Z5 Tryd.func11 QqK (Nat.le_of_ble_eq_true Z) ?_
 show TW _ _ tf11.body _ _
 refine Qe fun K hK => Qb Z (hK _ _ (Qa (kp2 Z Z) ?_))
 refine QG ?_ -- 0
 refine Qe fun K hK => Qb Z (YI Z Z (hK _ _ (Qa (kp3 Z Z Z) ?_)))
 refine QA Z (fun h1 => ?_) (fun h1 => ?_)
 ·try rw [h1]
  try simp only [qB] at h1
  refine Qe fun K hK => Qb Z (hK _ _ (Qa (kp1 Z) ?_))
  refine Qr (Qj (Qs Z ?_))
  rw [mPl, if_pos h1]
 ·try rw [h1]
  try simp only [qB] at h1
  refine Qy (Qf (kp2 Z Z) (Qe fun K hK => Qb Z (Qb Z (Qmd Z Z (by omega) (Qb Z (hK _ _ (Qa (kp2 Z Z) ?_)))))))
  refine QG ?_ -- 1
  refine Qe fun K hK => Qb Z (YI Z Z (hK _ _ (Qa (kp3 Z Z Z) ?_)))
  refine QA Z (fun h2 => ?_) (fun h2 => ?_)
  ·try rw [h2]
   try simp only [qB] at h2
   refine Qe fun K hK => Qb Z (Qb Z (Zh Z Z (Qt (by have := Int.lt_tmod_of_pos v (show 0 < n by omega); omega) (by have := Int.tmod_lt_of_pos v (show 0 < n by omega); omega)) (Qb Z (hK _ _ (Qa (kp1 Z) ?_)))))
   refine Qr (Qj (Qs Z ?_))
   rw [mPl, if_neg h1, Qfg, if_pos h2]
  ·try rw [h2]
   try simp only [qB] at h2
   refine Qy (Qf (kp1 Z) (Qe fun K hK => Qb Z (Qb Z (hK _ _ (Qa (kp1 Z) ?_)))))
   refine Qr (Qs Z ?_)
   rw [mPl, if_neg h1, Qfg, if_neg h2]
theorem Qdz {l : List Int} {i : Int} : Ok Tryd.prog 57 [ZO l, .int .i64 i] (.int .i64 (Ql7 l i)) := by
 refine Ok.ofT Z5 Tryd.func57 Qrl (Nat.le_of_ble_eq_true Z) ?_
 show TW _ _ tf57.body _ _
 refine Qe fun K hK => Qb Z (hK _ _ (Qa (kp2 Z Z) ?_))
 refine QG ?_ -- 0
 refine Qe fun K hK => Qb Z (YI Z Z (Qb Z ?_))
 refine Qv (g := 7) Z (fun h1 => ?_) (fun h1 => ?_)
 ·try rw [h1]
  try simp only [qA] at h1
  refine Qq Z (Qq Z (Qq Z (Qq Z (Qi Z Z (hK _ _ (Qa (kp3 Z Z Z) ?_))))))
  refine Zl Z (Qe fun K hK => Qb Z (Qmd Z Z (by omega) (Qb Z (hK _ _ (Qa (kp1 Z) ?_)))))
  refine Qr (Qj (Qs Z ?_))
  rw [Ql7, if_pos (by omega)]
 ·try rw [h1]
  try simp only [qA] at h1
  refine Qg Z (Qb Z (Qg Z (Qb Z (Qg Z (ZC Z Z (Qg Z (Qjd Z Z (Qi Z Z (hK _ _ (Qa (kp3 Z Z Z) ?_))))))))))
  refine QA Z (fun h2 => ?_) (fun h2 => ?_)
  ·try rw [h2]
   try simp only [qA] at h2
   refine Qe fun K hK => Qb Z (Qmd Z Z (by omega) (Qb Z (hK _ _ (Qa (kp1 Z) ?_))))
   refine Qr (Qj (Qs Z ?_))
   rw [Ql7, if_pos (by omega)]
  ·try rw [h2]
   try simp only [qA] at h2
   refine Qy (Qf (kp2 Z Z) (Qe fun K hK => Qb Z (Qb Z (Q2 Z Z Z (by omega) (Yv (by omega) (by omega)) Z (QE Z Z Z (Qb Z (hK _ _ (Qa (kp1 Z) ?_))))))))
   refine Qr (Qs Z ?_)
   exact (Qlr (by omega) (by omega)).symm
theorem XE {k : Nat} {L : List Int} {I n : Int} (hk : 1000000 <= k) (hL : ∀ x ∈ L, I64 x) (hn : n <= 9223372036854775807) (et : Nat) : OkH Tryd.prog 37 [.ref k 0 0, .int .i64 n] [(k, gB L I et)] (.int .i64 (nx L I n)) ((k, gB L (nxI I) et) :: [(k, gB L I et)]) := by
 refine OkH.lent hk Z5 Tryd.func37 Qq3 (Nat.le_of_ble_eq_true Z) Z ?_
 show TW _ _ tf37.body _ _
 refine Qe fun K hK => Qb Z (hK _ _ (Qa (kp2 Z Z) ?_))
 refine Qe fun K hK => Qb Z (Z9 Z Z (Qh Z Qem (QE Z (Yg QdJ Z) Z (Zh Z Z Z (Z9 Z Z (Qh Z Qem (QZ Z QdJ Z Z Z Z Z Z (hK _ _ (Qa (kp2 Z Z) ?_)))))))))
 refine Qe fun K hK => Qb Z (Z9 Z Z (Qh Z Qem (Zm (ds0 := [3, 1, 0]) Z (Yg QdJ Z) Z Z Z (Qb Z (Z9 Z Z (Qh Z Qem (Zm (ds0 := [4, 3, 1, 0]) Z (Yg QdJ Z) Z Z Z (Qct Z Z Z (Q0 (ds0 := [1, 0]) (Qdz) Z Z (.inr Z) Z Z (Qb Z ?_))))))))))
 refine Q0 (ds0 := [0]) (YS hn (QmG hL (Qdw _))) Z Z (.inr Z) Z Z (Qb Z (hK _ _ (Qa (kp1 Z) ?_)))
 refine Qr ?_
 exact Qab rfl rfl (Qos QdJ)
end Go.Proofs
namespace Go.Proofs
open Go Go.Abs M3 M25
set_option linter.unusedVariables false
set_option linter.unusedSimpArgs false
theorem Qcx {v : Int} (h0 : 0 <= v) (h1v : v <= 61) : Ok Tryd.prog 41 [.int .i64 v] (.int .i64 (2 ^ v.toNat)) := by
 refine Ok.ofT Z5 Tryd.func41 Qq7 (Nat.le_of_ble_eq_true Z) ?_
 show TW _ _ tf41.body _ _
 refine Qe fun K hK => Qb Z (hK _ _ (Qa (kp1 Z) ?_))
 refine Qe fun K hK => Qb Z (hK _ _ (Qa (kp2 Z Z) ?_))
 refine QG ?_ -- 0
 refine Qe fun K hK => Qb Z (hK _ _ (Qa (kp3 Z Z Z) ?_))
 refine QK ?_
 refine Z0 (ι := Nat) (fun i => ⟨[(0, .int .i64 v), (3, .int .i64 (2 ^ i)), (4, .int .i64 i)], []⟩) (fun i => (i : Int) <= v) (fun i => v.toNat - i) 0 ?_ ?_ ?_
 ·exact Q7 (kp3 rfl rfl rfl)
 ·exact h0
 intro i hI
 have hp := QiS (i := i + 1) (by omega)
 rw [Int.pow_succ] at hp
 try dsimp only
 refine QG ?_ -- 1
 refine Qe fun K hK => Qb Z (Qb Z (YI Z Z (hK _ _ (Qa (kp4 Z Z Z Z) ?_))))
 refine QA Z (fun h1 => ?_) (fun h1 => ?_)
 ·try rw [h1]
  try simp only [qB] at h1
  refine Qy (Qf (kp3 Z Z Z) ?_)
  refine QG ?_ -- 2
  refine QK (Zb fun K hK => Qb rfl (Qkv rfl rfl (Qt (by obtain ⟨p1, p2⟩ := hp; generalize (2 : Int) ^ i = z at *; omega) (by obtain ⟨p1, p2⟩ := hp; generalize (2 : Int) ^ i = z at *; omega)) (Qb rfl (hK _ ?_))))
  refine Qk (Qf (kp3 Z Z Z) (Zb fun K hK => Qb Z (Zh Z Z (Qt (by omega) (by omega)) (Qb Z (hK _ ?_)))))
  refine Qp (i + 1) ?_ ?_ ?_
  ·exact Zw (l := [0, 3, 4]) (lH := []) (kp3 rfl rfl rfl) QB (by rw [Int.pow_succ]; rfl) rfl rfl
  ·show ((i + 1 : Nat) : Int) <= v; omega
  ·first | omega | (simp only; omega) | (dsimp only; omega)
 ·try rw [h1]
  try simp only [qB] at h1
  refine Zy (QO (QD (QJ (Qf (kp1 Z) (Qe fun K hK => Qb Z (Qb Z (hK _ _ (Qa (kp1 Z) ?_))))))))
  refine Qr (Qs Z ?_)
  rw [show v.toNat = i by omega]
theorem QdX {h m : Int} : Ok Tryd.prog 18 [.int .i64 h, .int .i64 m] (.int .i64 (QgS h m)) := by
 refine Ok.ofT Z5 Tryd.func18 QqP (Nat.le_of_ble_eq_true Z) ?_
 show TW _ _ tf18.body _ _
 refine Qe fun K hK => Qb Z (hK _ _ (Qa (kp2 Z Z) ?_))
 refine QG ?_ -- 0
 refine QK (Qe fun K hK => Qb Z (Qb Z (Qee Z Z (YH Z Z (Qb Z (hK _ _ (Qa (kp3 Z Z Z) ?_)))))))
 refine QA Z (fun h1 => ?_) (fun h1 => ?_)
 ·try rw [h1]
  try simp only [qB] at h1
  refine Qe fun K hK => Qb Z (hK _ _ (Qa (kp1 Z) ?_))
  refine Qr (Qw (Qj (Qs Z ?_)))
  rw [QgS, if_pos h1]
 ·try rw [h1]
  try simp only [qB] at h1
  refine Qe fun K hK => Qb Z (Qb Z (Qhj Z Z (YH Z Z (Qb Z (hK _ _ (Qa (kp1 Z) ?_))))))
  refine QA Z (fun h2 => ?_) (fun h2 => ?_)
  ·try rw [h2]
   try simp only [qB] at h2
   refine Qe fun K hK => Qb Z (hK _ _ (Qa (kp1 Z) ?_))
   refine Qr (Qw (Qj (Qs Z ?_)))
   rw [QgS, if_neg h1, if_pos h2]
  ·try rw [h2]
   try simp only [qB] at h2
   refine Qy (Qk (Qf (QW) (Qe fun K hK => Qb Z (hK _ _ (Qa (kp1 Z) ?_)))))
   refine Qr (Qs Z ?_)
   rw [QgS, if_neg h1, if_neg h2]
end Go.Proofs
namespace Go.Proofs
open Go Go.Abs M3 M25
set_option linter.unusedVariables false
set_option linter.unusedSimpArgs false
theorem Xf  : Ok Tryd.prog 52 [] (.sl (versions.map dVr)) := by
 refine Ok.ofT Z5 Tryd.func52 Qrg (Nat.le_of_ble_eq_true Z) ?_
 show TW _ _ tf52.body _ _
 refine Qe fun K hK => Qb Z (hK _ _ (Qa (QW) ?_))
 refine Qe fun K hK => QY Z Z (QY Z Z (QY Z Z (QY Z Z (QM Z Z (Qb Z (hK _ _ (Qa (kp1 Z) ?_)))))))
 refine Qr (Z3 Z ?_)
 rfl
end Go.Proofs
namespace M25
open Go Go.Abs M3
structure WantT where
 u : Int
 s : QeE
structure CandT where
 v : Vr
 sh : Int
 ns : List (List WantT)
 bs : List WantT
structure Qit where
 n : List UInt8
 f : List UInt8
 cs : List CandT
abbrev QR := List Qit
def Qea (x : WantT) : List D := [.int .i64 x.u, Zg x.s.1, Zg x.s.2]
def Q3 (l : List WantT) : D := .sl (l.map Qea)
def QS (l : List (List WantT)) : D := .sl (l.map fun r => [Q3 r])
def Qp4 (c : CandT) : List D := [.int .i64 c.v.a, .int .i64 c.v.b, .int .i64 c.v.c, .str c.v.p, .str c.v.q, .int .i64 c.sh, QS c.ns, Q3 c.bs]
def QkR (l : List CandT) : D := .sl (l.map Qp4)
def Qcg (u : Qit) : List D := [.str u.n, .str u.f, QkR u.cs]
def X4 (w : QR) : D := .agg [.sl (w.map Qcg)]
structure TermT where
 u : Int
 m : Int
 deriving DecidableEq
structure QaS where
 u : Int
 m : Int
 l : Int
 c : Int
 deriving DecidableEq
structure RowT where
 k : Int
 u : Int
 a : Int
 b : Int
 t : List TermT
def QeS (t : TermT) : List D := [.int .i64 t.u, .int .i64 t.m]
abbrev QcR (a b : Int) : Int := Qa2 .and .i64 a b
abbrev bor (a b : Int) : Int := Qa2 .or .i64 a b
abbrev QbV (a b : Int) : Int := Qa2 .andNot .i64 a b
def uAt (w : QR) (u : Int) : Option Qit := if u < 0 then none else w[u.toNat]?
theorem Qfu {w : QR} {u : Int} (h0 : 0 <= u) (h : u < w.length) : uAt w u = some (w[u.toNat]'(by omega)) := by
 rw [uAt, if_neg (by omega), List.getElem?_eq_getElem (by omega)]
theorem Qg4 {w : QR} {u : Int} (h : u < 0 \/ (w.length : Int) <= u) : uAt w u = none := by
 unfold uAt
 split
 ·rfl
 ·rw [List.getElem?_eq_none]; omega
def ZJ (w : QR) (u : Int) : Int := match uAt w u with
 | none => 0
 | some x => 2 ^ (min x.cs.length 16 + 1) - 1
theorem Qeo {w : QR} {u : Int} (h0 : 0 <= u) (h : u < w.length) : ZJ w u = 2 ^ (min (w[u.toNat]'(by omega)).cs.length 16 + 1) - 1 := by
 rw [ZJ, Qfu h0 h]
theorem Qdi {w : QR} {u : Int} (h : u < 0 \/ (w.length : Int) <= u) : ZJ w u = 0 := by rw [ZJ, Qg4 h]
theorem QgN (w : QR) (u : Int) : 0 <= ZJ w u /\ ZJ w u <= 131071 := by
 unfold ZJ
 split
 ·omega
 ·rename_i x _
  have h1 : (2 : Nat) ^ (min x.cs.length 16 + 1) <= 2 ^ 17 := Nat.pow_le_pow_right (by omega) (by omega)
  have h2 : 1 <= (2 : Nat) ^ (min x.cs.length 16 + 1) := Nat.one_le_two_pow
  have h3 : ((2 ^ (min x.cs.length 16 + 1) : Nat) : Int) = (2 : Int) ^ (min x.cs.length 16 + 1) := by simp
  rw [<- h3]
  have h4 : (2 : Nat) ^ 17 = 131072 := by decide
  omega
def Qfv (v : Vr) : Prop := v.p.length <= 1000000 /\ v.q.length <= 1000000
structure WSm (w : QR) : Prop where
 len : w.length <= 48
 cs : ∀ u ∈ w, u.cs.length <= 16
 vs : ∀ u ∈ w, ∀ c ∈ u.cs, Qfv c.v
 ns : ∀ u ∈ w, ∀ c ∈ u.cs, c.ns.length <= 1000 /\ c.bs.length <= 1000
 nl : ∀ u ∈ w, ∀ c ∈ u.cs, ∀ r ∈ c.ns, r.length <= 1000
 nw : ∀ u ∈ w, ∀ c ∈ u.cs, ∀ r ∈ c.ns, ∀ x ∈ r, Sm x.s.1 /\ Sm x.s.2
 bw : ∀ u ∈ w, ∀ c ∈ u.cs, ∀ x ∈ c.bs, Sm x.s.1 /\ Sm x.s.2
def QoG (s : QeE) (v : Vr) : Bool := Qki s v.a v.b v.c v.p v.q
def Qdm (s : QeE) (l : List CandT) : Nat -> Int
 | 0 => 0
 | n + 1 => Qdm s l n + match l[n]? with
  | some c => if QoG s c.v = true then 2 ^ (n + 1) else 0
  | none => 0
theorem QjK (s : QeE) (l : List CandT) : ∀ n, 0 <= Qdm s l n /\ Qdm s l n <= 2 ^ (n + 1) - 2
 | 0 => by simp [Qdm]
 | n + 1 => by
  obtain ⟨h1, h2⟩ := QjK s l n
  have h3 : (2 : Int) ^ (n + 1 + 1) = 2 ^ (n + 1) * 2 := Int.pow_succ ..
  have h4 : (0 : Int) < 2 ^ (n + 1) := Int.pow_pos (by omega)
  rw [Qdm, h3]
  generalize (2 : Int) ^ (n + 1) = z at *
  split
  ·split <;> omega
  ·omega
theorem Qlx {s : QeE} {l : List CandT} {i : Nat} (h : i < l.length) (hp : QoG s l[i].v = true) : Qdm s l (i + 1) = Qdm s l i + 2 ^ (i + 1) := by
 rw [Qdm, List.getElem?_eq_getElem h]; simp only [hp, if_true]
theorem QmP {s : QeE} {l : List CandT} {i : Nat} (h : i < l.length) (hp : QoG s l[i].v = false) : Qdm s l (i + 1) = Qdm s l i := by
 rw [Qdm, List.getElem?_eq_getElem h]; simp only [hp, Bool.false_eq_true, if_false, Int.add_zero]
def Qod (w : QR) (x : WantT) : Int := match uAt w x.u with
 | none => 0
 | some un => Qdm x.s un.cs (min un.cs.length 16)
theorem Qoe {w : QR} {x : WantT} (h0 : 0 <= x.u) (h : x.u < w.length) : Qod w x = Qdm x.s (w[x.u.toNat]'(by omega)).cs (min (w[x.u.toNat]'(by omega)).cs.length 16) := by
 rw [Qod, Qfu h0 h]
theorem QmJ {w : QR} {x : WantT} (h : x.u < 0 \/ (w.length : Int) <= x.u) : Qod w x = 0 := by rw [Qod, Qg4 h]
theorem Qqc {n : Nat} (h : n <= 17) : 1 <= (2 : Int) ^ n /\ (2 : Int) ^ n <= 131072 := by
 have h1 : (2 : Nat) ^ n <= 2 ^ 17 := Nat.pow_le_pow_right (by omega) h
 have h2 : 1 <= (2 : Nat) ^ n := Nat.one_le_two_pow
 have h3 : ((2 ^ n : Nat) : Int) = (2 : Int) ^ n := by simp
 rw [<- h3]
 have h4 : (2 : Nat) ^ 17 = 131072 := by decide
 omega
def Qbh (w : QR) (c : List Int) (u : Int) : Int := match uAt w u with
 | none => 0
 | some x => if (c.length : Int) <= u then 0 else if c.getD u.toNat 0 < -1 \/ ((min x.cs.length 16 : Nat) : Int) <= c.getD u.toNat 0 then 0 else 2 ^ (c.getD u.toNat 0 + 1).toNat
def QhW (w : QR) (t : TermT) : Bool := !decide (t.m = 0) && decide (QcR t.m (ZJ w t.u) = t.m) && !decide (t.m = ZJ w t.u)
def Yq (m : Int) : Nat -> List Int
 | 0 => []
 | n + 1 => Yq m n ++ if QcR m (2 ^ n) = 0 then [] else [(n : Int) - 1]
def Xs (m : Int) : List Int := Yq m 17
def inW (w : QR) (u : Int) : Bool := decide (0 <= u) && decide (u < w.length)
/-! ### Trails -/
def QfF (w : QR) (l : List QaS) (u : Int) : Int := l.foldl (fun a s => if s.u = u /\ inW w u = true then s.m else a) (ZJ w u)
def Qpo (l : List QaS) : Int := match l.getLast? with
 | none => 0
 | some s => s.l
def QmI (l : List QaS) (u : Int) : Bool := l.any fun s => decide (s.u = u) && decide (s.c = -1)
def Qp9 (w : QR) (l : List QaS) (inc : List TermT) : Bool := inc.all fun t => decide (Qh1 (QfF w l t.u) t.m = 2)
def QgU (have_ : Int -> Int) : List TermT -> Int -> Int
 | [], at_ => at_
 | t :: r, at_ => if Qh1 (have_ t.u) t.m = 0 then -1 else if Qh1 (have_ t.u) t.m = 1 then (if 0 <= at_ then -1 else QgU have_ r t.u) else QgU have_ r at_
def Qpp (w : QR) (l : List QaS) (inc : List TermT) : Int := QgU (QfF w l) inc (-1)
def QjT (w : QR) (l : List QaS) : Nat -> List (List TermT) -> Int × Int
 | _, [] => (-1, -1)
 | i, x :: r => if Qp9 w l x = true then (i, -1) else if 0 <= Qpp w l x then (i, Qpp w l x) else QjT w l (i + 1) r
def Qp8 (w : QR) (db : List (List TermT)) (l : List QaS) : Int × Int := QjT w l 0 db
end M25
namespace M25
open Go Go.Abs M3
section
variable {fr : List (Nat × D)} {H : List (Nat × Box)} {t u : Nat}
theorem Qmh {k n : Nat} {b : Box} {d : D} (hb : lk H k = some b) (hp : b.pr = true) (hn : n = b.rows.length) (hd : .sl b.rows = d) : Qae ⟨fr, H⟩ (.osl k n) = d := by
 unfold Qae; rw [Qp6 (S := Qdx) rfl hb hp hn]; exact hd
theorem QmT {e : AExit} {k n : Nat} {b : Box} {d : D} (h : lk fr t = some (.osl k n)) (hb : lk H k = some b) (hp : b.pr = true) (hn : n = b.rows.length) (hd : .sl b.rows = d) (he : e = .ret \/ e = .normal := by first | exact .inl rfl | exact .inr rfl) : Post [.tmp t] d e ⟨fr, H⟩ :=
 Z3 h (Qmh hb hp hn hd) he
end
theorem Qqa (n : Nat) : (min (n : Int) 16 + 1).toNat = min n 16 + 1 := by omega
theorem Qil {n : Nat} (h : n <= 62) : IntKind.i64.wrap ((2 : Int) ^ n - 1) = 2 ^ n - 1 := by
 have := QiS h; exact Qt (by omega) (by omega)
theorem QaK {w : QR} {c : List Int} {u : Int} (h : (u < 0 \/ (w.length : Int) <= u) \/ (c.length : Int) <= u) : Qbh w c u = 0 := by
 unfold Qbh
 split
 ·rfl
 ·rename_i x hx
  rcases h with h | h
  ·rw [Qg4 h] at hx; cases hx
  ·rw [if_pos h]
theorem QaI {w : QR} {c : List Int} {u : Int} (h0 : 0 <= u) (h1 : u < w.length) (h2 : u < c.length) (h : c[u.toNat]'(by omega) < -1 \/ min (((w[u.toNat]'(by omega)).cs.length : Nat) : Int) 16 <= c[u.toNat]'(by omega)) : Qbh w c u = 0 := by
 rw [Qbh, Qfu h0 h1]
 simp only []
 rw [if_neg (by omega), List.getD_eq_getElem?_getD, List.getElem?_eq_getElem (by omega)]
 simp only [Option.getD_some]
 rw [if_pos]
 rcases h with h | h
 ·exact .inl h
 ·right; omega
theorem QaJ {w : QR} {c : List Int} {u : Int} (h0 : 0 <= u) (h1 : u < w.length) (h2 : u < c.length) (h : ¬ c[u.toNat]'(by omega) < -1) (h' : ¬ min (((w[u.toNat]'(by omega)).cs.length : Nat) : Int) 16 <= c[u.toNat]'(by omega)) : Qbh w c u = 2 ^ (c[u.toNat]'(by omega) + 1).toNat := by
 rw [Qbh, Qfu h0 h1]
 simp only []
 rw [if_neg (by omega), List.getD_eq_getElem?_getD, List.getElem?_eq_getElem (by omega)]
 simp only [Option.getD_some]
 rw [if_neg]
 omega
theorem Qjn {m : Int} {n : Nat} (h : ¬ QcR m (2 ^ n) = 0) : Yq m (n + 1) = Yq m n ++ [(n : Int) - 1] := by rw [Yq, if_neg h]
theorem QkY {m : Int} {n : Nat} (h : QcR m (2 ^ n) = 0) : Yq m (n + 1) = Yq m n := by rw [Yq, if_pos h, List.append_nil]
theorem Qph {w : QR} {u : Int} (h0 : 0 <= u) (h : u < w.length) : inW w u = true := by simp [inW, h0, h]
theorem Qlh {w : QR} {u : Int} (h : u < 0 \/ (w.length : Int) <= u) : inW w u = false := by
 simp only [inW, Bool.and_eq_false_iff, decide_eq_false_iff_not]; omega
theorem Qe4 {w : QR} {u : Int} : inW w u = true ↔ 0 <= u /\ u < w.length := by simp [inW]
theorem QlZ {x y : TermT} : QaD [0, 0] (QeS x) (QeS y) = some (decide (x = y)) := by
 obtain ⟨a, b⟩ := x
 obtain ⟨c, d⟩ := y
 simp only [QeS, QaD, if_true, Option.map_some, Bool.and_true, Option.some.injEq]
 rw [Bool.eq_iff_iff]
 simp only [Bool.and_eq_true, decide_eq_true_eq, TermT.mk.injEq]
theorem Qj1 {e : Int} (h1 : 0 <= e) (h2 : e <= 18446744073709551615) : IntKind.u64.wrap e = e := by
 unfold IntKind.wrap
 simp only [IntKind.bits, IntKind.signed, Bool.false_and, Bool.false_eq_true, if_false]
 omega
end M25
namespace Go.Proofs
open Go Go.Abs M3 M25
set_option linter.unusedVariables false
set_option linter.unusedSimpArgs false
theorem XL {w : QR} (hw : WSm w) {u : Int} : Ok Tryd.prog 14 [X4 w, .int .i64 u] (.int .i64 (ZJ w u)) := by
 refine Ok.ofT Z5 Tryd.func14 QqM (Nat.le_of_ble_eq_true Z) ?_
 show TW _ _ tf14.body _ _
 refine Qe fun K hK => ZL Z Z Z (Qb Z (hK _ _ (Qa (kp2 Z Z) ?_)))
 refine QG ?_ -- 0
 refine Qe fun K hK => Qb Z (YI Z Z (Qb Z ?_))
 refine Qv (g := 7) Z (fun h1 => ?_) (fun h1 => ?_)
 ·try rw [h1]
  try simp only [qA] at h1
  refine Qq Z (Qq Z (Qq Z (Qq Z (Qq Z (Qi Z Z (hK _ _ (Qa (kp3 Z Z Z) ?_)))))))
  refine Zl Z (Qe fun K hK => Qb Z (hK _ _ (Qa (kp1 Z) ?_)))
  refine Qr (Qj (Qs Z ?_))
  rw [Qdi (by omega)]
 ·try rw [h1]
  try simp only [qA] at h1
  refine Qg Z (Qb Z (Qg Z (Qh Z Z (Qg Z (QE Z Z Z (Qg Z (ZC Z Z (Qg Z (Qjd Z Z (Qi Z Z (hK _ _ (Qa (kp3 Z Z Z) ?_))))))))))))
  refine QA Z (fun h2 => ?_) (fun h2 => ?_)
  ·try rw [h2]
   try simp only [qA] at h2
   refine Qe fun K hK => Qb Z (hK _ _ (Qa (kp1 Z) ?_))
   refine Qr (Qj (Qs Z ?_))
   rw [Qdi (by omega)]
  ·try rw [h2]
   try simp only [qA] at h2
   refine Qy (Qf (kp2 Z Z) (Qe fun K hK => Qh Z Z (QE Z Z Z (Qb Z (Q2 Z Z Z (by omega) (Yv (by omega) (by omega)) Z (Z6 Z Z (QE Z Z Z (ZC Z Z (QpT Z Z (Zh Z Z (by first | exact Qt (by omega) (by omega) | rfl) ?_))))))))))
   refine Qz (Qcx (by omega) (by omega)) Z Z (.inr Z) (Qct Z Z (Qil (by omega)) (Qb Z (hK _ _ (Qa (kp1 Z) ?_))))
   refine Qr (Qs Z ?_)
   rw [Qeo (by omega) (by omega), List.length_map, Qqa]
end Go.Proofs
namespace M25
open Go Go.Abs M3
theorem WSm.csLen {w : QR} (hw : WSm w) {u : Nat} (hu : u < w.length) : w[u].cs.length <= 16 := hw.cs _ (List.getElem_mem _)
end M25
namespace M25
open Go Go.Abs M3
/-! ### Bits of numbers -/
theorem Qg8 (e : Int) : IntKind.i64.wrap e = (BitVec.ofInt 64 e).toInt := by
 have hb : (BitVec.ofInt 64 e).toInt = if e % 18446744073709551616 < 9223372036854775808 then e % 18446744073709551616 else e % 18446744073709551616 - 18446744073709551616 := by
  rw [BitVec.toInt_ofInt]; rfl
 rw [hb]
 unfold IntKind.wrap
 simp only [IntKind.bits, IntKind.signed, Bool.true_and]
 split
 ·rename_i h
  have := of_decide_eq_true h
  split <;> omega
 ·rename_i h
  have : ¬ (e % 2 ^ 64 >= 2 ^ (64 - 1)) := fun hh => h (decide_eq_true hh)
  split <;> omega
theorem QcJ (b : BitVec 64) : BitVec.ofInt 64 (b.toNat : Int) = b := by
 rw [BitVec.ofInt_natCast, BitVec.ofNat_toNat, BitVec.setWidth_eq]
theorem Qo5 (x y : Int) : BitVec.ofInt 64 (QcR x y) = BitVec.ofInt 64 x &&& BitVec.ofInt 64 y := by
 show BitVec.ofInt 64 (IntKind.i64.wrap ((BitVec.ofInt 64 x &&& BitVec.ofInt 64 y).toNat : Int)) = _
 rw [Qg8, BitVec.ofInt_toInt, QcJ]
theorem Qp1 (x y : Int) : BitVec.ofInt 64 (bor x y) = BitVec.ofInt 64 x ||| BitVec.ofInt 64 y := by
 show BitVec.ofInt 64 (IntKind.i64.wrap ((BitVec.ofInt 64 x ||| BitVec.ofInt 64 y).toNat : Int)) = _
 rw [Qg8, BitVec.ofInt_toInt, QcJ]
theorem Qo6 (x y : Int) : BitVec.ofInt 64 (QbV x y) = BitVec.ofInt 64 x &&& ~~~ BitVec.ofInt 64 y := by
 show BitVec.ofInt 64 (IntKind.i64.wrap ((BitVec.ofInt 64 x &&& ~~~ BitVec.ofInt 64 y).toNat : Int)) = _
 rw [Qg8, BitVec.ofInt_toInt, QcJ]
theorem Qmy {x : Int} (h : I64 x) : IntKind.i64.wrap x = x := Qt h.1 h.2
theorem Qng {x : Int} (h : I64 x) : (BitVec.ofInt 64 x).toInt = x := by rw [<- Qg8, Qmy h]
theorem Qlg (x y : Int) : I64 (QcR x y) := Qdw _
theorem Qpd (x y : Int) : I64 (bor x y) := Qdw _
theorem QgG (x y : Int) : I64 (QbV x y) := Qdw _
def tb (x : Int) (i : Nat) : Bool := (BitVec.ofInt 64 x).getLsbD i
theorem QlU (x y : Int) (i : Nat) : tb (QcR x y) i = (tb x i && tb y i) := by rw [tb, Qo5, BitVec.getLsbD_and]; rfl
theorem Qqg (x y : Int) (i : Nat) : tb (bor x y) i = (tb x i || tb y i) := by rw [tb, Qp1, BitVec.getLsbD_or]; rfl
theorem Qd6 (x y : Int) {i : Nat} : tb (QbV x y) i = (tb x i && !tb y i) := by
 rw [tb, Qo6, BitVec.getLsbD_and, BitVec.getLsbD_not]
 by_cases h : i < 64
 ·simp [h, tb]
 ·simp [tb, BitVec.getLsbD_of_ge _ i (by omega : 64 <= i)]
theorem QlW (x : Int) {i : Nat} (h : 64 <= i) : tb x i = false := BitVec.getLsbD_of_ge _ i h
theorem Qgc {x y : Int} (hx : I64 x) (hy : I64 y) (h : ∀ i, tb x i = tb y i) : x = y := by
 rw [<- Qng hx, <- Qng hy]
 congr 1
 exact BitVec.eq_of_getLsbD_eq fun i _ => h i
theorem QlX (i : Nat) : tb 0 i = false := by
 show (BitVec.ofInt 64 0).getLsbD i = false
 rw [show BitVec.ofInt 64 0 = 0#64 from rfl, BitVec.getLsbD_zero]
theorem QcD {x : Int} (hx : I64 x) : x = 0 ↔ ∀ i, tb x i = false := by
 constructor
 ·rintro rfl i; exact QlX i
 ·intro h; exact Qgc hx ⟨by omega, by omega⟩ fun i => by rw [h i, QlX]
theorem QjX (n : Nat) {i : Nat} (h : i < 64) : tb (n : Int) i = n.testBit i := by
 rw [tb, BitVec.ofInt_natCast, BitVec.getLsbD_ofNat]; simp [h]
theorem QjY {k : Nat} (hk : k < 64) (i : Nat) : tb ((2 : Int) ^ k) i = decide (i = k) := by
 have e : ((2 ^ k : Nat) : Int) = (2 : Int) ^ k := by simp
 by_cases h : i < 64
 ·rw [<- e, QjX _ h, Nat.testBit_two_pow]
  exact decide_eq_decide.2 eq_comm
 ·rw [QlW _ (by omega)]; exact (decide_eq_false (by omega)).symm
theorem Qmg {x m : Int} : QcR x m = 0 ↔ ∀ i, tb x i = true -> tb m i = false := by
 rw [QcD (Qlg x m)]
 refine forall_congr' fun i => ?_
 rw [QlU]; cases tb x i <;> cases tb m i <;> simp
theorem QgT {x m : Int} : QbV x m = 0 ↔ ∀ i, tb x i = true -> tb m i = true := by
 rw [QcD (QgG x m)]
 refine forall_congr' fun i => ?_
 rw [Qd6]; cases tb x i <;> cases tb m i <;> simp
theorem QdV {x m : Int} (hx : I64 x) : QcR x m = x ↔ ∀ i, tb x i = true -> tb m i = true := by
 constructor
 ·intro h i hi
  have := congrArg (fun z => tb z i) h
  simp only [QlU, hi, Bool.true_and] at this
  exact this
 ·intro h
  refine Qgc (Qlg x m) hx fun i => ?_
  rw [QlU]
  cases hx2 : tb x i
  ·rfl
  ·rw [h i hx2]; rfl
theorem Qh2 {x m : Int} (hx : I64 x) : QbV x m = x ↔ ∀ i, tb x i = true -> tb m i = false := by
 constructor
 ·intro h i hi
  have := congrArg (fun z => tb z i) h
  simp only [Qd6, hi, Bool.true_and] at this
  simpa using this
 ·intro h
  refine Qgc (QgG x m) hx fun i => ?_
  rw [Qd6]
  cases hx2 : tb x i
  ·rfl
  ·rw [h i hx2]; rfl
def Lo (x : Int) : Prop := 0 <= x /\ x < 131072
theorem Lo.i64 {x : Int} (h : Lo x) : I64 x := ⟨by have := h.1; omega, by have := h.2; omega⟩
theorem Qoc (w : QR) (u : Int) : Lo (ZJ w u) := ⟨(QgN w u).1, by have := (QgN w u).2; omega⟩
theorem Qgm {x : Int} {k : Nat} (hk : k < 64) : QcR x (2 ^ k) = 0 ↔ tb x k = false := by
 rw [Qmg]
 constructor
 ·intro h
  cases hx : tb x k
  ·rfl
  ·have := h k hx; rw [QjY hk] at this; simp at this
 ·intro h i hi
  rw [QjY hk]
  by_cases e : i = k
  ·subst e; rw [h] at hi; cases hi
  ·exact decide_eq_false e
end M25
namespace M25
open Go Go.Abs M3
/-! ### Trails: the loops' laws -/
theorem Qk7 {w : QR} {u : Int} : ZJ w u = 0 ↔ inW w u = false := by
 constructor
 ·intro h
  cases hw : inW w u
  ·rfl
  ·rw [Qe4] at hw
   rw [Qeo hw.1 hw.2] at h
   have h2 : 2 <= (2 : Int) ^ (min (w[u.toNat]'(by omega)).cs.length 16 + 1) := by
    rw [Int.pow_succ]
    have := Qqc (n := min (w[u.toNat]'(by omega)).cs.length 16) (by omega)
    omega
   omega
 ·intro h
  refine Qdi (Classical.byContradiction fun hn => ?_)
  rw [Qph (by omega) (by omega)] at h; cases h
def QoR (w : QR) (l : List QaS) : Prop := ∀ s ∈ l, Lo s.m
end M25
namespace M25
open Go Go.Abs M3
def Qkn : List Qit -> Int -> Int
 | [], n => n
 | u :: r, n => if n < 1000000 then Qkn r (n * ((u.cs.length : Int) + 1)) else n
def QmK (w : QR) : Int := Qkn w 1
theorem Qqf {w : QR} {i : Nat} {n : Int} (h : i < w.length) (hn : n < 1000000) : Qkn (w.drop i) n = Qkn (w.drop (i + 1)) (n * ((w[i].cs.length : Int) + 1)) := by
 rw [List.drop_eq_getElem_cons h, Qkn, if_pos hn]
theorem QpC {w : QR} {i : Nat} {n : Int} (h : w.length <= i) : Qkn (w.drop i) n = n := by rw [List.drop_eq_nil_of_le h, Qkn]
theorem QpB {w : QR} {i : Nat} {n : Int} (hn : ¬ n < 1000000) : Qkn (w.drop i) n = n := by
 cases h : w.drop i with
 | nil => rfl
 | cons u r => rw [Qkn, if_neg hn]
theorem Qm3 {n : Int} {k : Nat} (h0 : 1 <= n) (h1 : n < 1000000) (hk : k <= 16) : 1 <= n * ((k : Int) + 1) /\ n * ((k : Int) + 1) <= 17000000 := by
 obtain ⟨m, rfl⟩ := Int.eq_ofNat_of_zero_le (show 0 <= n by omega)
 have h2 : m * (k + 1) <= 1000000 * 17 := Nat.mul_le_mul (by omega) (by omega)
 have h3 : 1 * 1 <= m * (k + 1) := Nat.mul_le_mul (by omega) (by omega)
 have e : (m : Int) * ((k : Int) + 1) = ((m * (k + 1) : Nat) : Int) := by simp
 rw [e]; omega
def chN (w : QR) (n : Int) : Nat -> Int
 | 0 => n
 | i + 1 => match w[i]? with
  | some u => (chN w n i).tdiv ((u.cs.length : Int) + 1)
  | none => chN w n i
def chL (w : QR) (n : Int) : Nat -> List Int
 | 0 => []
 | i + 1 => match w[i]? with
  | some u => chL w n i ++ [(chN w n i).tmod ((u.cs.length : Int) + 1) - 1]
  | none => chL w n i
def QiM (w : QR) (n : Int) : List Int := chL w n w.length
theorem Qo8 {w : QR} {n : Int} {i : Nat} (h : i < w.length) : chN w n (i + 1) = (chN w n i).tdiv ((w[i].cs.length : Int) + 1) := by rw [chN, List.getElem?_eq_getElem h]
theorem QkN {w : QR} {n : Int} {i : Nat} (h : i < w.length) : chL w n (i + 1) = chL w n i ++ [(chN w n i).tmod ((w[i].cs.length : Int) + 1) - 1] := by rw [chL, List.getElem?_eq_getElem h]
theorem QlY {a : Int} {k : Nat} (h0 : 0 <= a) : 0 <= a.tdiv ((k : Int) + 1) /\ a.tdiv ((k : Int) + 1) <= a := by
 obtain ⟨m, rfl⟩ := Int.eq_ofNat_of_zero_le h0
 have : ((m : Int)).tdiv ((k : Int) + 1) = ((m / (k + 1) : Nat) : Int) := by
  rw [show (k : Int) + 1 = ((k + 1 : Nat) : Int) by simp, Int.ofNat_tdiv]
 rw [this]
 have := Nat.div_le_self m (k + 1)
 exact ⟨Int.natCast_nonneg _, Int.ofNat_le.2 this⟩
theorem QkO {w : QR} {n : Int} (h0 : 0 <= n) : ∀ i, 0 <= chN w n i /\ chN w n i <= n
 | 0 => ⟨h0, Int.le_refl _⟩
 | i + 1 => by
  obtain ⟨h1, h2⟩ := QkO (w := w) h0 i
  rw [chN]
  split
  ·rename_i u _
   have := QlY (k := u.cs.length) h1
   omega
  ·exact ⟨h1, h2⟩
theorem QkL (w : QR) (n : Int) : ∀ i, (chL w n i).length <= i
 | 0 => Nat.le_refl _
 | i + 1 => by
  have := QkL w n i
  rw [chL]; split <;> simp <;> omega
theorem QoA {a : Int} {k : Nat} (hk : k <= 16) : IntKind.i64.wrap (a.tmod ((k : Int) + 1) - 1) = a.tmod ((k : Int) + 1) - 1 := by
 have h1 := Int.lt_tmod_of_pos a (show (0 : Int) < (k : Int) + 1 by omega)
 have h2 := Int.tmod_lt_of_pos a (show (0 : Int) < (k : Int) + 1 by omega)
 exact Qt (by omega) (by omega)
theorem Qoz {a : Int} {k : Nat} (h0 : 0 <= a) (h1 : a <= 9223372036854775807) : IntKind.i64.wrap (a.tdiv ((k : Int) + 1)) = a.tdiv ((k : Int) + 1) := by
 have := QlY (k := k) h0
 exact Qt (by omega) (by omega)
theorem Ql5 {v : Int} (h : (v + 1).toNat <= 61) : IntKind.i64.wrap ((1 : Int) * 2 ^ min (v + 1).toNat IntKind.i64.bits) = 2 ^ (v + 1).toNat := by
 rw [show min (v + 1).toNat IntKind.i64.bits = (v + 1).toNat from by simp only [IntKind.bits]; omega, Int.one_mul]
 have := QiS (i := (v + 1).toNat) (by omega)
 exact Qt (by omega) (by omega)
end M25
namespace Go.Proofs
open Go Go.Abs M3 M25
set_option linter.unusedVariables false
set_option linter.unusedSimpArgs false
theorem Qcu {w : QR} (hw : WSm w) : Ok Tryd.prog 24 [X4 w] (.int .i64 (QmK w)) := by
 refine Ok.ofT Z5 Tryd.func24 QqS (Nat.le_of_ble_eq_true Z) ?_
 show TW _ _ tf24.body _ _
 have hn := hw.len
 refine Qe fun K hK => ZL Z Z Z (Qb Z (hK _ _ (Qa (kp1 Z) ?_)))
 refine Qe fun K hK => Qb Z (hK _ _ (Qa (kp2 Z Z) ?_))
 refine QG ?_ -- 0
 refine Qe fun K hK => Qb Z (hK _ _ (Qa (kp3 Z Z Z) ?_))
 refine QK ?_
 refine Z0 (ι := Nat × Int) (fun ⟨i, n⟩ => ⟨[(1, .ref 1 0 0), (3, .int .i64 n), (4, .int .i64 i)], [(1, ⟨[[.sl ((w).map Qcg)]], 1, 25, true⟩)]⟩) (fun ⟨i, n⟩ => i <= w.length /\ 1 <= n /\ QmK w = Qkn (w.drop i) n) (fun ⟨i, n⟩ => w.length - i) (0, 1) ?_ ?_ ?_
 ·exact Zw (l := [1, 3, 4]) (lH := [1]) (kp3 rfl rfl rfl) (Qu rfl QB) rfl rfl rfl
 ·exact ⟨Nat.zero_le _, Int.le_refl _, rfl⟩
 intro ⟨i, n⟩ hI
 obtain ⟨hI1, hI2, hI3⟩ := hI
 try dsimp only at hI1 hI2 hI3
 try dsimp only
 refine QG ?_ -- 1
 refine Qe fun K hK => Qb Z (Qh Z Z (QE Z Z Z ?_))
 first | refine ZC rfl Yd ?_ | refine ZC rfl rfl ?_
 refine YI Z Z (Qb Z ?_)
 refine Qv (g := 10) Z (fun h1 => ?_) (fun h1 => ?_)
 ·try rw [h1]
  try simp only [qA] at h1
  refine Qg Z (Qb Z (Qg Z (YI Z Z (Qi Z Z (hK _ _ (Qa (kp4 Z Z Z Z) ?_))))))
  refine QA Z (fun h2 => ?_) (fun h2 => ?_)
  ·try rw [h2]
   try simp only [qA] at h2
   refine Qy (Qf (kp3 Z Z Z) ?_)
   refine QG ?_ -- 2
   refine QK (Zb fun K hK => Qb Z (Qh Z Z (QE Z Z Z (Qb Z (Q2 Z Z Z (by omega) (ZT (by omega)) Z (Z6 Z Z (QE Z Z Z ?_)))))))
   first | refine ZC rfl Yd ?_ | refine ZC rfl rfl ?_
   refine Zh Z Z (Qt (by have := hw.csLen (show i < w.length by omega); omega) (by have := hw.csLen (show i < w.length by omega); omega)) (Qkv Z Z (Qt (by have := Qm3 hI2 h2 (hw.csLen (show i < w.length by omega)); omega) (by have := Qm3 hI2 h2 (hw.csLen (show i < w.length by omega)); omega)) (Qb Z (hK _ ?_)))
   refine Qk (Qf (kp3 Z Z Z) (Zb fun K hK => Qb Z (Zh Z Z (by first | exact Qt (by omega) (by omega) | rfl) (Qb Z (hK _ ?_)))))
   refine Qp (i + 1, n * (((w[i]'(by omega)).cs.length : Int) + 1)) ?_ ?_ ?_
   ·exact Zw (l := [1, 3, 4]) (lH := [1]) (kp3 rfl rfl rfl) (Qu rfl QB) rfl rfl rfl
   ·exact ⟨by omega, (Qm3 hI2 h2 (hw.csLen (by omega))).1, by rw [hI3, Qqf (by omega) h2]⟩
   ·show w.length - (i + 1) < w.length - i; omega
  ·try rw [h2]
   try simp only [qA] at h2
   refine Zy (QO (QD (QJ (Qf (kp1 Z) (Qe fun K hK => Qb Z (Qb Z (hK _ _ (Qa (kp1 Z) ?_))))))))
   refine Qr (Qs Z ?_)
   rw [hI3, QpB (by omega)]
 ·try rw [h1]
  try simp only [qA] at h1
  refine Qq Z (Qq Z (Qi Z Z (hK _ _ (Qa (kp4 Z Z Z Z) ?_))))
  refine ZD Z (Zy (QO (QD (QJ (Qf (kp1 Z) (Qe fun K hK => Qb Z (Qb Z (hK _ _ (Qa (kp1 Z) ?_)))))))))
  refine Qr (Qs Z ?_)
  rw [hI3, QpC (by omega)]
theorem Qbw {w : QR} (hw : WSm w) {n : Int} (h0n : 0 <= n) (h1n : n <= 9223372036854775807) : Ok Tryd.prog 23 [X4 w, .int .i64 n] (ZO (QiM w n)) := by
 refine Ok.ofT Z5 Tryd.func23 QqR (Nat.le_of_ble_eq_true Z) ?_
 show TW _ _ tf23.body _ _
 have hn := hw.len
 refine Qe fun K hK => ZL Z Z Z (Qb Z (hK _ _ (Qa (kp2 Z Z) ?_)))
 refine Qe fun K hK => Qb Z (hK _ _ (Qa (kp3 Z Z Z) ?_))
 refine QG ?_ -- 0
 refine Qe fun K hK => Qb Z (hK _ _ (Qa (kp4 Z Z Z Z) ?_))
 refine QK ?_
 refine Z0 (ι := Nat) (fun i => ⟨[(1, .int .i64 (chN w n i)), (2, .ref 2 0 0), (5, .osl 5 (chL w n i).length), (6, .int .i64 i)], [(2, ⟨[[.sl ((w).map Qcg)]], 1, 25, true⟩), (5, ⟨(chL w n i).map (fun x => [.int .i64 x]), 1, 3, true⟩)]⟩) (fun i => i <= w.length) (fun i => w.length - i) 0 ?_ ?_ ?_
 ·exact le_trans (XF 5 5 1 3 rfl rfl) (Zw (l := [1, 2, 5, 6]) (lH := [2, 5]) (kp4 rfl rfl rfl rfl) (Qu rfl (Qu rfl QB)) rfl rfl rfl)
 ·exact Nat.zero_le _
 intro i hI
 have hlen := QkL w n i
 have hbd := QkO (w := w) h0n i
 try dsimp only
 refine QG ?_ -- 1
 refine Qe fun K hK => Qb Z (Qh Z Z (QE Z Z Z ?_))
 first | refine ZC rfl Yd ?_ | refine ZC rfl rfl ?_
 refine YI Z Z (hK _ _ (Qa (kp5 Z Z Z Z Z) ?_))
 refine QA Z (fun h1 => ?_) (fun h1 => ?_)
 ·try rw [h1]
  try simp only [qA] at h1
  refine Qy (Qf (kp4 Z Z Z Z) ?_)
  refine QG ?_ -- 2
  refine QK (Qe fun K hK => Qh Z Z (QE Z Z Z (Qb Z (Q2 Z Z Z (by omega) (ZT (by omega)) Z (Z6 Z Z (QE Z Z Z ?_))))))
  first | refine ZC rfl Yd ?_ | refine ZC rfl rfl ?_
  refine Zh Z Z (Qt (by omega) (by have := hw.csLen (show i < w.length by omega); omega)) (Qb Z (hK _ _ (Qa (kp5 Z Z Z Z Z) ?_)))
  refine Qe fun K hK => Qb Z (Qb Z (Qb Z (Qmd Z Z (by omega) (Qct Z Z (QoA (hw.csLen (by omega))) (QM Z Z (Qbq Z Z (fun _ h => Qbj Z Z Z h) Z (by simp) Z Z Z (by simp; omega) (by simp; omega) (Qb Z (hK _ _ (Qa (kp5 Z Z Z Z Z) ?_)))))))))
  refine Zb fun K hK => Qb Z (Qb Z (QpU Z Z (by omega) (Qoz hbd.1 (by omega)) (Qb Z (hK _ ?_))))
  refine Qk (Qf (kp4 Z Z Z Z) (Zb fun K hK => Qb Z (Zh Z Z (by first | exact Qt (by omega) (by omega) | rfl) (Qb Z (hK _ ?_)))))
  refine Qp (i + 1) ?_ ?_ ?_
  ·exact Zw (l := [1, 2, 5, 6]) (lH := [2, 5]) (kp4 rfl rfl rfl rfl) (Qu rfl (Qu rfl QB)) (by rw [QkN (by omega), Qo8 (by omega), List.length_append]; rfl) (by rw [QkN (by omega), List.map_append]; rfl) rfl
  ·omega
  ·first | omega | (simp only; omega) | (dsimp only; omega)
 ·try rw [h1]
  try simp only [qA] at h1
  refine Zy (QO (QD (QJ (Qf (kp1 Z) (Qe fun K hK => Qb Z (Qb Z (hK _ _ (Qa (kp1 Z) ?_))))))))
  refine Qr ?_
  exact QmT rfl rfl rfl (by simp) (by rw [QiM, show w.length = i by omega]; rfl)
theorem QbW {v : Int} (h0 : -1 <= v) (h1v : v <= 60) : Ok Tryd.prog 40 [.int .i64 v] (.int .i64 (2 ^ (v + 1).toNat)) := by
 refine Ok.ofT Z5 Tryd.func40 Qq6 (Nat.le_of_ble_eq_true Z) ?_
 show TW _ _ tf40.body _ _
 refine Qe fun K hK => Qb Z (hK _ _ (Qa (kp1 Z) ?_))
 refine Qe fun K hK => Qb Z (Zh Z Z (by first | exact Qt (by omega) (by omega) | rfl) (QpV Z Z (by omega) (Ql5 (by omega)) (Qb Z (hK _ _ (Qa (kp1 Z) ?_)))))
 refine Qr (Qs Z ?_)
 rfl
theorem QfM {w : QR} (hw : WSm w) {u : Int} : Ok Tryd.prog 39 [X4 w, .int .i64 u] (.bool (inW w u)) := by
 refine Ok.ofT Z5 Tryd.func39 Qq5 (Nat.le_of_ble_eq_true Z) ?_
 show TW _ _ tf39.body _ _
 refine Qe fun K hK => ZL Z Z Z (Qb Z (hK _ _ (Qa (kp2 Z Z) ?_)))
 refine Qe fun K hK => Qb Z (Qjd Z Z (Qb Z ?_))
 refine Qv (g := 7) Z (fun h1 => ?_) (fun h1 => ?_)
 ·try rw [h1]
  try simp only [qA] at h1
  refine Qg Z (Qb Z (Qg Z (Qh Z Z (Qg Z (QE Z Z Z (Qg Z ?_))))))
  first | refine ZC rfl Yd ?_ | refine ZC rfl rfl ?_
  refine Qg Z (YI Z Z (Qi Z Z (Qb Z (hK _ _ (Qa (kp1 Z) ?_)))))
  refine Qr (Qm Z ?_)
  first | rfl | (rw [Qlh (by omega)]; done) | (rw [inW, decide_eq_true h1, Bool.true_and])
 ·try rw [h1]
  try simp only [qA] at h1
  refine Qq Z (Qq Z (Qq Z (Qq Z (Qq Z (Qi Z Z (Qb Z (hK _ _ (Qa (kp1 Z) ?_))))))))
  refine Qr (Qm Z ?_)
  first | rfl | (rw [Qlh (by omega)]; done) | (rw [inW, decide_eq_true h1, Bool.true_and])
theorem QaU {w : QR} (hw : WSm w) {u : Int} : Ok Tryd.prog 13 [X4 w, .int .i64 u] (.int .i64 (ZJ w u)) := by
 refine Ok.ofT Z5 Tryd.func13 QqL (Nat.le_of_ble_eq_true Z) ?_
 show TW _ _ tf13.body _ _
 refine Qe fun K hK => ZL Z Z Z (Qb Z (hK _ _ (Qa (kp2 Z Z) ?_)))
 refine QG ?_ -- 0
 refine Qe fun K hK => QF (cs := [_]) Z Z Z Z (Qb Z (Qz (QfM hw) Z Z (.inr Z) (ZM Z (hK _ _ (Qa (kp3 Z Z Z) ?_)))))
 refine QA Z (fun h1 => ?_) (fun h1 => ?_)
 ·try rw [h1]
  try simp only [qA] at h1
  try have h1b := Qe4.1 h1
  refine Qe fun K hK => Qb Z (hK _ _ (Qa (kp1 Z) ?_))
  refine Qr (Qj (Qs Z ?_))
  rw [Qk7.2 h1]
 ·try rw [h1]
  try simp only [qA] at h1
  try have h1b := Qe4.1 h1
  refine Qy (Qf (kp2 Z Z) (Qe fun K hK => Qh Z Z (QE Z Z Z (Qb Z (Q2 Z Z Z (by omega) (Yv (by omega) (by omega)) Z (Z6 Z Z (QE Z Z Z ?_)))))))
  first | refine ZC rfl Yd ?_ | refine ZC rfl rfl ?_
  refine Qz (QbW (by omega) (by have := hw.cs _ (List.getElem_mem (show u.toNat < w.length by omega)); omega)) Z Z (.inr Z) (Qct Z Z (Qil (by have := hw.cs _ (List.getElem_mem (show u.toNat < w.length by omega)); omega)) (Qb Z (hK _ _ (Qa (kp1 Z) ?_))))
  refine Qr (Qs Z ?_)
  rw [Qeo h1b.1 h1b.2, show min (w[u.toNat]'(by omega)).cs.length 16 = (w[u.toNat]'(by omega)).cs.length from Nat.min_eq_left (hw.cs _ (List.getElem_mem _)), QpE]
end Go.Proofs
namespace M25
open Go Go.Abs M3
/-! ### prop: what is left of each unit, scans -/
structure QoQ (w : QR) (db : List (List TermT)) (l : List QaS) (a : Nat) (k : Nat) : Prop where
  ha : a < db.length
  hk : k < db[a].length
  eq : Qp8 w db l = ((a : Int), db[a][k].u)
  one : Qh1 (QfF w l db[a][k].u) db[a][k].m = 1
  two : ∀ j, ∀ hj : j < db[a].length, j ≠ k -> Qh1 (QfF w l db[a][j].u) db[a][j].m = 2
def QqE (w : QR) (l : List QaS) (t : TermT) (c : Int) : QaS := ⟨t.u, QbV (QfF w l t.u) t.m, Qpo l, c⟩
end M25
namespace M25
open Go Go.Abs M3
/-! ### Sets that are made: moderate sizes -/
theorem Qmx (l : List (Cu × Cu)) (x y : Cu) : (QbI l x y).length <= l.length + 1 := QhV l x y
theorem Qgv (f : Cu -> Cu -> Bool) : ∀ (c : List Cu) (out : List (Cu × Cu)), (∀ x ∈ c, Cu.sm x) -> (∀ s ∈ out, Cu.sm s.1 /\ Cu.sm s.2) -> (QbH f c out).length <= out.length + c.length /\ ∀ s ∈ QbH f c out, Cu.sm s.1 /\ Cu.sm s.2
 | [], out, _, h => ⟨by simp [QbH], by simpa [QbH] using h⟩
 | [x], out, _, h => ⟨by simp [QbH], by simpa [QbH] using h⟩
 | x :: y :: r, out, hc, h => by
  rw [QbH]
  have hxy := Qmx out x y
  split
  ·obtain ⟨h1, h2⟩ := Qgv f (y :: r) (QbI out x y) (fun z hz => hc z (by simp at hz ⊢; exact .inr hz)) (QjF h (hc x (by simp)) (hc y (by simp)))
   exact ⟨by simp only [List.length_cons] at h1 ⊢; omega, h2⟩
  ·obtain ⟨h1, h2⟩ := Qgv f (y :: r) out (fun z hz => hc z (by simp at hz ⊢; exact .inr hz)) h
   exact ⟨by simp only [List.length_cons] at h1 ⊢; omega, h2⟩
def SmN (n : Nat) (l : List (Cu × Cu)) : Prop := l.length <= n /\ ∀ s ∈ l, Cu.sm s.1 /\ Cu.sm s.2
theorem SmN.sm {n : Nat} {l : List (Cu × Cu)} (h : SmN n l) (hn : n <= 1000000) : Sm l := ⟨Nat.le_trans h.1 hn, h.2⟩
theorem SmN.up {n m : Nat} {l : List (Cu × Cu)} (h : SmN n l) (hn : n <= m) : SmN m l := ⟨Nat.le_trans h.1 hn, h.2⟩
theorem SmN.nil (n : Nat) : SmN n [] := ⟨Nat.zero_le _, by simp⟩
theorem Qnt {a b : List (Cu × Cu)} {n m : Nat} (ha : SmN n a) (hb : SmN m b) (h : n + m <= 1000000) : SmN (2 + 2 * (n + m)) (Qnp a b) := by
 unfold Qnp
 split
 ·have hab : Sm (a ++ b) := (ha.sm (by omega)).app (hb.sm (by omega)) (by have := ha.1; have := hb.1; omega)
  unfold QiN
  split
  ·obtain ⟨h1, h2⟩ := Qgv (mIn (a ++ b)) (YN (a ++ b)) [] (Ys hab) (by simp)
   have := QbG (a ++ b)
   have := ha.1
   have := hb.1
   exact ⟨by simp only [List.length_nil, List.length_append] at *; omega, h2⟩
  ·exact SmN.nil _
 ·exact SmN.nil _
theorem Qly {a : List (Cu × Cu)} {n : Nat} (ha : SmN n a) (h : n <= 1000000) : SmN (2 + 2 * n) (QiO a) := by
 unfold QiO
 split
 ·obtain ⟨h1, h2⟩ := Qgv (fun x y => !mIn a x y) (YN a) [] (Ys (ha.sm h)) (by simp)
  have := QbG a
  have := ha.1
  exact ⟨by simp only [List.length_nil] at *; omega, h2⟩
 ·exact SmN.nil _
def Qj7 (n : Nat) (s : QeE) : Prop := SmN n s.1 /\ SmN n s.2
theorem Qpt {a b : QeE} {n m : Nat} (ha : Qj7 n a) (hb : Qj7 m b) (h : n + m <= 1000000) : Qj7 (2 + 2 * (n + m)) (Qnq a b) := by
 unfold Qnq
 split
 ·exact ⟨Qnt ha.1 hb.1 h, Qnt ha.2 hb.2 h⟩
 ·exact ⟨SmN.nil _, SmN.nil _⟩
theorem Qlz {a : QeE} {n : Nat} (ha : Qj7 n a) (h : n <= 1000000) : Qj7 (2 + 2 * n) (QgQ a) := by
 unfold QgQ
 split
 ·exact ⟨Qly ha.1 h, Qly ha.2 h⟩
 ·exact ⟨SmN.nil _, SmN.nil _⟩
theorem Qb8 (e a b c : Int) (f : Bool) : Cu.sm ⟨e, a, b, c, [], [], f⟩ := ⟨Nat.zero_le _, Nat.zero_le _⟩
theorem QaY {a b c : Int} {p q : List UInt8} (hp : p.length <= 1000000) : Qj7 1 (YZ a b c p q) := by
 unfold YZ
 split
 ·exact ⟨SmN.nil _, SmN.nil _⟩
 ·split
  ·refine ⟨SmN.nil _, ⟨Nat.le_refl _, fun s hs => ?_⟩⟩
   simp only [List.mem_singleton] at hs; subst hs
   exact ⟨⟨hp, Nat.zero_le _⟩, ⟨hp, Nat.zero_le _⟩⟩
  ·refine ⟨⟨Nat.le_refl _, fun s hs => ?_⟩, SmN.nil _⟩
   simp only [List.mem_singleton] at hs; subst hs
   constructor
   ·unfold Qff; split
    ·exact Qb8 ..
    ·exact Qb8 ..
   ·unfold Qdh; split
    ·exact Qb8 ..
    ·exact Qb8 ..
def QkB : QeE := ([(Qcm, QfD)], [(Qcm, QfD)])
theorem Qnc : Qj7 1 QkB := by
 have h : SmN 1 [(Qcm, QfD)] := ⟨Nat.le_refl _, fun s hs => by simp only [List.mem_singleton] at hs; subst hs; exact ⟨Qb8 .., Qb8 ..⟩⟩
 exact ⟨h, h⟩
def bnd (i : Nat) : Nat := 4 * 2 ^ i
theorem Qnf {i : Nat} (h : i <= 16) : bnd i <= 262144 := by
 have : 2 ^ i <= 2 ^ 16 := Nat.pow_le_pow_right (by omega) h
 have e : (2 : Nat) ^ 16 = 65536 := by decide
 unfold bnd; omega
theorem Qpy {s : QeE} {i : Nat} (h : Qj7 (bnd i - 4) s) {a b c : Int} {p q : List UInt8} (hp : p.length <= 1000000) (hi : i <= 16) : Qj7 (bnd (i + 1) - 4) (Qnq s (YZ a b c p q)) := by
 have h1 := Qnf hi
 have h4 : 4 <= bnd i := by unfold bnd; have := Nat.one_le_two_pow (n := i); omega
 have := Qpt h (QaY (a := a) (b := b) (c := c) (q := q) hp) (by omega)
 have e : bnd (i + 1) = 2 * bnd i := by unfold bnd; rw [Nat.pow_succ]; omega
 exact ⟨this.1.up (by omega), this.2.up (by omega)⟩
theorem QmZ {s : QeE} {i : Nat} (h : Qj7 (bnd i - 4) s) : Qj7 (bnd (i + 1) - 4) s := by
 have e : bnd (i + 1) = 2 * bnd i := by unfold bnd; rw [Nat.pow_succ]; omega
 exact ⟨h.1.up (by omega), h.2.up (by omega)⟩
def SetOk (s : QeE) : Prop := Qj7 600000 s
theorem SetOk.sm {s : QeE} (h : SetOk s) : Sm s.1 /\ Sm s.2 := ⟨h.1.sm (by omega), h.2.sm (by omega)⟩
structure CR where
 v : Vr
 x : D
 y : D
 z : D
def dCR (r : CR) : List D := [.int .i64 r.v.a, .int .i64 r.v.b, .int .i64 r.v.c, .str r.v.p, .str r.v.q, r.x, r.y, r.z]
def CR.ren (r : CR) : CR := ⟨r.v, r.x.renS upN, r.y.renS upN, r.z.renS upN⟩
theorem QkQ (l : List CR) : (l.map dCR).map (fun r => r.map (D.renS upN)) = (l.map CR.ren).map dCR := by
 rw [List.map_map, List.map_map]; rfl
structure UR where
 n : List UInt8
 f : List UInt8
 k : Nat
 cs : List CR
def dUR (u : UR) : List D := [.str u.n, .str u.f, .osl u.k u.cs.length]
def UR.ren (u : UR) : UR := ⟨u.n, u.f, upN u.k, u.cs.map CR.ren⟩
theorem Qn4 (l : List UR) : (l.map dUR).map (fun r => r.map (D.renS upN)) = (l.map UR.ren).map dUR := by
 rw [List.map_map, List.map_map]
 refine List.map_congr_left fun u _ => ?_
 simp [dUR, UR.ren, D.renS]
structure Fam (H : List (Nat × Box)) (kg ku eu ec : Nat) (us : List UR) : Prop where
 ne : ku ≠ kg
 u : ∃ pr, lk H ku = some ⟨us.map dUR, 3, eu, pr⟩
 c : ∀ y ∈ us, y.k ≠ kg /\ ∃ pr, lk H y.k = some ⟨y.cs.map dCR, 8, ec, pr⟩
 v : ∀ y ∈ us, y.cs.length <= 16 /\ ∀ z ∈ y.cs, Qfv z.v
theorem Fam.up {H : List (Nat × Box)} {kg ku eu ec : Nat} {us : List UR} (h : Fam H kg ku eu ec us) : Fam (upH H) (upN kg) (upN ku) eu ec (us.map UR.ren) := by
 obtain ⟨h1, ⟨pu, h2⟩, h3, h4⟩ := h
 refine ⟨fun e => h1 (Qi4 e), ⟨pu, ?_⟩, fun y hy => ?_, fun y hy => ?_⟩
 ·rw [Qao, h2, Option.map_some, Box.ren, Qn4]
 ·obtain ⟨u, hu, rfl⟩ := List.mem_map.1 hy
  obtain ⟨q1, pr, q2⟩ := h3 u hu
  refine ⟨fun e => q1 (Qi4 e), pr, ?_⟩
  show lk (upH H) (upN u.k) = _
  rw [Qao, q2, Option.map_some, Box.ren, QkQ]; rfl
 ·obtain ⟨u, hu, rfl⟩ := List.mem_map.1 hy
  obtain ⟨q1, q2⟩ := h4 u hu
  refine ⟨by simpa [UR.ren] using q1, fun z hz => ?_⟩
  obtain ⟨z0, hz0, rfl⟩ := List.mem_map.1 hz
  exact q2 z0 hz0
theorem Fam.cons {H : List (Nat × Box)} {kg ku eu ec : Nat} {us : List UR} (h : Fam H kg ku eu ec us) {b : Box} : Fam ((kg, b) :: H) kg ku eu ec us := by
 obtain ⟨h1, ⟨pu, h2⟩, h3, h4⟩ := h
 exact ⟨h1, ⟨pu, Ql (Ne.symm h1) h2⟩, fun y hy => let ⟨q1, pr, q2⟩ := h3 y hy; ⟨q1, pr, Ql (Ne.symm q1) q2⟩, h4⟩
def WantIn (n : Nat) (x : WantT) : Prop := 1 <= x.u /\ x.u < n /\ SetOk x.s
def Qhn (n : Nat) (r : List WantT) : Prop := r.length <= 2 /\ ∀ x ∈ r, WantIn n x
def QeB (n : Nat) (m : Int) (ns : List (List WantT)) : Prop := (ns.length : Int) <= m /\ ∀ r ∈ ns, Qhn n r
theorem Qon {n : Nat} {x : WantT} (h : WantIn n x) : Qhn n [x] := ⟨by simp, by intro y hy; simp only [List.mem_singleton] at hy; subst hy; exact h⟩
theorem Qoo {n : Nat} {x y : WantT} (h : WantIn n x) (h' : WantIn n y) : Qhn n [x, y] := ⟨by simp, by
 intro z hz
 simp only [List.mem_cons, List.not_mem_nil, or_false] at hz
 rcases hz with rfl | rfl
 ·exact h
 ·exact h'⟩
theorem QlM {n : Nat} {ns : List (List WantT)} {r : List WantT} (h : ∀ r ∈ ns, Qhn n r) (hr : Qhn n r) : ∀ x ∈ ns ++ [r], Qhn n x := fun x hx => by
 rcases List.mem_append.1 hx with hx | hx
 ·exact h x hx
 ·simp only [List.mem_singleton] at hx; subst hx; exact hr
end M25
namespace M25
open Go Go.Abs M3
/-! ### The boxes of a world under way -/
def fbx (ec : Nat) (us : List UR) : List (Nat × Box) := us.map fun u => (u.k, ⟨u.cs.map dCR, 8, ec, true⟩)
def Z7 (us : List UR) : Prop := ∀ j, ∀ h : j < us.length, us[j].k = 500001 + j
theorem QhP {us : List UR} {u : UR} (h : Z7 us) (hu : u.k = 500001 + us.length) : Z7 (us ++ [u]) := fun j hj => by
 rw [List.length_append, List.length_singleton] at hj
 by_cases e : j < us.length
 ·rw [List.getElem_append_left e]; exact h j e
 ·have : j = us.length := by omega
  subst this
  rw [List.getElem_append_right (Nat.le_refl _)]; simpa using hu
theorem QeW (ec : Nat) (us : List UR) : Qma (fbx ec us) := fun p hp => by
 obtain ⟨u, _, rfl⟩ := List.mem_map.1 hp; rfl
theorem Qf3 {ec : Nat} : ∀ {us : List UR} {k : Nat} {b : Box}, lk (fbx ec us) k = some b -> ∃ u ∈ us, k = u.k /\ b = ⟨u.cs.map dCR, 8, ec, true⟩
 | [], _, _, h => by cases h
 | u :: us, k, b, h => by
  simp only [fbx, List.map_cons] at h
  rw [Qn] at h
  split at h
  ·rename_i e; cases h; exact ⟨u, by simp, e.symm, rfl⟩
  ·obtain ⟨v, hv, q⟩ := Qf3 (us := us) h
   exact ⟨v, by simp [hv], q⟩
theorem Qa4 {us : List UR} (h : Z7 us) {u : UR} (hu : u ∈ us) : 500001 <= u.k /\ u.k < 500001 + us.length := by
 obtain ⟨j, hj, rfl⟩ := List.getElem_of_mem hu
 have := h j hj
 omega
theorem Qgt {ec : Nat} {us : List UR} (h : Z7 us) : Qqy 500001 (fbx ec us) := fun k b hk => by
 obtain ⟨u, hu, rfl, _⟩ := Qf3 hk
 exact (Qa4 h hu).1
theorem YL {ec : Nat} {us : List UR} (h : Z7 us) {k : Nat} (hk : k < 500001 \/ 500001 + us.length <= k) : lk (fbx ec us) k = none := by
 cases hh : lk (fbx ec us) k with
 | none => rfl
 | some b =>
  obtain ⟨u, hu, rfl, _⟩ := Qf3 hh
  have := Qa4 h hu
  omega
theorem Qk3 {ec : Nat} : ∀ {us : List UR} {n : Nat}, (∀ j, ∀ h : j < us.length, us[j].k = n + j) -> ∀ j, ∀ h : j < us.length, lk (fbx ec us) (n + j) = some ⟨us[j].cs.map dCR, 8, ec, true⟩
 | [], _, _, j, hj => by simp at hj
 | u :: us, n, hk, 0, _ => by
  have := hk 0 (by simp)
  simp only [List.getElem_cons_zero, Nat.add_zero] at this
  simp only [fbx, List.map_cons, Nat.add_zero]
  rw [Qn, if_pos this]; rfl
 | u :: us, n, hk, j + 1, hj => by
  have h0 := hk 0 (by simp)
  simp only [List.getElem_cons_zero, Nat.add_zero] at h0
  simp only [fbx, List.map_cons]
  rw [Qn, if_neg (by omega)]
  have := Qk3 (ec := ec) (us := us) (n := n + 1) (fun i hi => by
   have := hk (i + 1) (by simpa using hi)
   simp only [List.getElem_cons_succ] at this
   omega) j (by simpa using hj)
  rw [show n + 1 + j = n + (j + 1) by omega] at this
  simp only [List.getElem_cons_succ]
  exact this
theorem Qk2 {ec : Nat} {us : List UR} (h : Z7 us) {j : Nat} (hj : j < us.length) : lk (fbx ec us) (500001 + j) = some ⟨us[j].cs.map dCR, 8, ec, true⟩ := Qk3 h j hj
theorem Qjq (ec : Nat) (us : List UR) (u : UR) : fbx ec (us ++ [u]) = fbx ec us ++ [(u.k, ⟨u.cs.map dCR, 8, ec, true⟩)] := by simp [fbx]
theorem Qmq {ec : Nat} {us : List UR} (h : Z7 us) {kg : Nat} {x y : Box} {u : UR} (hu : u.k = 500001 + us.length) (hkg : u.k ≠ kg) (k : Nat) :
  lk ((u.k, ⟨u.cs.map dCR, 8, ec, true⟩) :: (500000, x) :: (kg, y) :: fbx ec us) k = lk ((500000, x) :: (kg, y) :: fbx ec (us ++ [u])) k := by
 rw [Qjq]
 by_cases e : u.k = k
 ·subst e
  rw [Qx, Qn, if_neg (by omega), Qn, if_neg (Ne.symm hkg), YM (YL h (.inr (by omega))), Qx]
 ·rw [Qn, if_neg e, Qn, Qn, Qn, Qn]
  split
  ·rfl
  ·split
   ·rfl
   ·rw [ZQ]
    cases h2 : lk (fbx ec us) k with
    | some v => rfl
    | none => rw [Qn, if_neg e]; rfl
def zr (v : Vr) (sh : Int) : CR := ⟨v, .int .i64 sh, .fsl [], .fsl []⟩
def QoN (u : UR) : Prop := u.cs.length <= 4 /\ ∀ z ∈ u.cs, ∃ v sh, z = zr v sh /\ Qfv v
theorem Qnl {u : UR} : (dUR u).flatMap D.sid = [u.k] := by simp [dUR, D.sid]
theorem Qbe {us : List UR} {e et : Nat} {k : Nat} (h : k ∈ (Box.ids ⟨us.map dUR, e, et, false⟩)) : ∃ u ∈ us, k = u.k := by
 simp only [Box.ids, Bool.false_eq_true, if_false, List.mem_flatMap, List.mem_map] at h
 obtain ⟨r, ⟨u, hu, rfl⟩, hk⟩ := h
 have : k ∈ (dUR u).flatMap D.sid := List.mem_flatMap.2 hk
 rw [Qnl] at this
 exact ⟨u, hu, by simpa using this⟩
theorem Qov {us : List UR} (h : Z7 us) : ∀ r ∈ us.map dUR, ∀ d ∈ r, 500000 ∉ d.sid := fun r hr d hd hk => by
 obtain ⟨u, hu, rfl⟩ := List.mem_map.1 hr
 have : 500000 ∈ (dUR u).flatMap D.sid := List.mem_flatMap.2 ⟨d, hd, hk⟩
 rw [Qnl] at this
 have h2 := Qa4 h hu
 simp only [List.mem_singleton] at this
 omega
theorem Qgi {B F : List (Nat × Box)} {j : Nat} (h : (lk F j).isSome = true) : (lk (B ++ F) j).isSome = true := by
 rw [ZQ]; split
 ·rfl
 ·exact h
theorem Qc9 {ec : Nat} {us : List UR} (h : Z7 us) {u : UR} (hu : u ∈ us) : (lk (fbx ec us) u.k).isSome = true := by
 obtain ⟨j, hj, rfl⟩ := List.getElem_of_mem hu
 rw [h j hj, Qk2 h hj]; rfl
theorem Qgu {ec : Nat} {us : List UR} {u : UR} (h : Z7 us) (hu : u.k = 500001 + us.length) : lk (fbx ec (us ++ [u])) (500001 + us.length) = some ⟨u.cs.map dCR, 8, ec, true⟩ := by
 rw [Qjq, YM (YL h (.inr (Nat.le_refl _))), <- hu, Qx]
section
variable {l : List Nat} {fr fr1 fr' : List (Nat × D)} {B : List (Nat × Box)} {kg eg eu ec : Nat} {L : List Int} {J : Int} {us : List UR}
theorem QqB (hf : Q5 l fr = fr1) (ef : fr1 = fr') (hK : Z7 us) (hu : lk B 500000 = some ⟨us.map dUR, 3, eu, false⟩) (hg : lk B kg = some (gB L J eg)) (hB : ∀ p ∈ B, 500001 <= p.1 -> p.1 = kg) (hkg : kg ≠ 500000)
  (hfr : ∀ p ∈ fr', ∀ k ∈ p.2.ids, k = 500000 \/ k = kg \/ ∃ u ∈ us, k = u.k) : St.le ⟨fr, B ++ fbx ec us⟩ ⟨fr', [(500000, ⟨us.map dUR, 3, eu, false⟩), (kg, gB L J eg)] ++ fbx ec us⟩ := by
 have s0 : ∀ k, (k = 500000 \/ k = kg \/ ∃ u ∈ us, k = u.k) -> (lk ([(500000, (⟨us.map dUR, 3, eu, false⟩ : Box)), (kg, gB L J eg)] ++ fbx ec us) k).isSome = true := fun k hk => by
  rcases hk with rfl | rfl | ⟨u, hu, rfl⟩
  ·exact QU
  ·exact QT QU
  ·exact Qgi (Qc9 hK hu)
 refine QiL (N := 500001) hf ef (fun p hp => ?_) rfl (fun p hp j hj => s0 j ?_) (fun p hp h => ?_) (Qgt hK) (QeW ec us) (fun p hp k hk => s0 k (hfr p hp k hk))
 ·simp only [List.mem_cons, List.not_mem_nil, or_false] at hp
  rcases hp with rfl | rfl
  ·exact hu
  ·exact hg
 ·simp only [List.mem_cons, List.not_mem_nil, or_false] at hp
  rcases hp with rfl | rfl
  ·exact .inr (.inr (Qbe hj))
  ·simp [Box.ids, gB] at hj
 ·rw [hB p hp h]; exact QT QU
theorem QoL {cs : List CR} (hf : Q5 l fr = fr1) (ef : fr1 = fr') (hK : Z7 us) (hc : lk B (500001 + us.length) = some ⟨cs.map dCR, 8, ec, true⟩) (hu : lk B 500000 = some ⟨us.map dUR, 3, eu, false⟩) (hg : lk B kg = some (gB L J eg)) (hB : ∀ p ∈ B, 500001 <= p.1 -> p.1 = kg \/ p.1 = 500001 + us.length)
  (hfr : ∀ p ∈ fr', ∀ k ∈ p.2.ids, k = 500000 \/ k = kg \/ k = 500001 + us.length \/ ∃ u ∈ us, k = u.k) : St.le ⟨fr, B ++ fbx ec us⟩ ⟨fr', [(500001 + us.length, ⟨cs.map dCR, 8, ec, true⟩), (500000, ⟨us.map dUR, 3, eu, false⟩), (kg, gB L J eg)] ++ fbx ec us⟩ := by
 have s0 : ∀ k, (k = 500000 \/ k = kg \/ k = 500001 + us.length \/ ∃ u ∈ us, k = u.k) -> (lk ([(500001 + us.length, (⟨cs.map dCR, 8, ec, true⟩ : Box)), (500000, (⟨us.map dUR, 3, eu, false⟩ : Box)), (kg, gB L J eg)] ++ fbx ec us) k).isSome = true := fun k hk => by
  rcases hk with rfl | rfl | rfl | ⟨u, hu, rfl⟩
  ·exact QT QU
  ·exact QT (QT QU)
  ·exact QU
  ·exact Qgi (Qc9 hK hu)
 refine QiL (N := 500001) hf ef (fun p hp => ?_) rfl (fun p hp j hj => s0 j ?_) (fun p hp h => ?_) (Qgt hK) (QeW ec us) (fun p hp k hk => s0 k (hfr p hp k hk))
 ·simp only [List.mem_cons, List.not_mem_nil, or_false] at hp
  rcases hp with rfl | rfl | rfl
  ·exact hc
  ·exact hu
  ·exact hg
 ·simp only [List.mem_cons, List.not_mem_nil, or_false] at hp
  rcases hp with rfl | rfl | rfl
  ·simp [Box.ids] at hj
  ·exact .inr (.inr (.inr (Qbe hj)))
  ·simp [Box.ids, gB] at hj
 ·rcases hB p hp h with e | e
  ·rw [e]; exact QT (QT QU)
  ·rw [e]; exact QU
theorem QpD {u : UR} (hf : Q5 l fr = fr1) (ef : fr1 = fr') (hK : Z7 us) (huk : u.k = 500001 + us.length) (hc : lk B (500001 + us.length) = some ⟨u.cs.map dCR, 8, ec, true⟩) (hu : lk B 500000 = some ⟨(us ++ [u]).map dUR, 3, eu, false⟩) (hg : lk B kg = some (gB L J eg)) (hB : ∀ p ∈ B, 500001 <= p.1 -> p.1 = kg \/ p.1 = 500001 + us.length) (hkg : 1000000 <= kg) (hlen : us.length <= 100)
  (hfr : ∀ p ∈ fr', ∀ k ∈ p.2.ids, k = 500000 \/ k = kg \/ ∃ v ∈ us ++ [u], k = v.k) : St.le ⟨fr, B ++ fbx ec us⟩ ⟨fr', [(500000, ⟨(us ++ [u]).map dUR, 3, eu, false⟩), (kg, gB L J eg)] ++ fbx ec (us ++ [u])⟩ := by
 have hK1 := QhP hK huk
 have mv := fun k => Qmq (ec := ec) hK (kg := kg) (x := ⟨(us ++ [u]).map dUR, 3, eu, false⟩) (y := gB L J eg) huk (by omega) k
 have s0 : ∀ k, (k = 500000 \/ k = kg \/ ∃ v ∈ us ++ [u], k = v.k) -> (lk ([(u.k, (⟨u.cs.map dCR, 8, ec, true⟩ : Box)), (500000, (⟨(us ++ [u]).map dUR, 3, eu, false⟩ : Box)), (kg, gB L J eg)] ++ fbx ec us) k).isSome = true := fun k hk => by
  show (lk ((u.k, _) :: (500000, _) :: (kg, _) :: fbx ec us) k).isSome = true
  rw [mv]
  rcases hk with rfl | rfl | ⟨v, hv, rfl⟩
  ·exact QU
  ·exact QT QU
  ·exact QT (QT (Qc9 hK1 hv))
 refine le_trans (QiL (N := 500001) (A' := [(u.k, ⟨u.cs.map dCR, 8, ec, true⟩), (500000, ⟨(us ++ [u]).map dUR, 3, eu, false⟩), (kg, gB L J eg)]) hf ef (fun p hp => ?_) rfl (fun p hp j hj => s0 j ?_) (fun p hp h => ?_) (Qgt hK) (QeW ec us) (fun p hp k hk => s0 k (hfr p hp k hk))) (QgK ⟨fun _ => rfl, mv⟩)
 ·simp only [List.mem_cons, List.not_mem_nil, or_false] at hp
  rcases hp with rfl | rfl | rfl
  ·rw [huk]; exact hc
  ·exact hu
  ·exact hg
 ·simp only [List.mem_cons, List.not_mem_nil, or_false] at hp
  rcases hp with rfl | rfl | rfl
  ·simp [Box.ids] at hj
  ·exact .inr (.inr (Qbe hj))
  ·simp [Box.ids, gB] at hj
 ·rcases hB p hp h with e | e
  ·rw [e]; exact QT (QT QU)
  ·rw [e, <- huk]; exact QU
end
def u0 (v : Vr) : UR := ⟨[], [], 500001, [zr v (-1)]⟩
def v0 : Vr := ⟨0, 0, 0, [], []⟩
theorem Qm2 {kg a b : Nat} (h : 1000000 <= kg) (ha : a < 1000000) (hb : b < 1000000) : Qbo a b kg = kg := by
 unfold Qbo; rw [if_neg (by omega), if_neg (by omega)]
theorem Qlq {l : List Nat} {fr fr1 fr' : List (Nat × D)} {kg eg eu ec : Nat} {L : List Int} {I : Int} (hkg : 1000000 <= kg) (hf : Q5 l fr = fr1) (ef : fr1.map (fun p => (p.1, (p.2.ren (Qbo 18 500000)).ren (Qbo 16 500001))) = fr') :
  St.le ⟨fr, [(18, ⟨[[.str [], .str [], .osl 16 1]], 3, eu, false⟩), (16, ⟨[dCR (zr v0 (-1))], 8, ec, true⟩), (kg, gB L I eg)]⟩ ⟨fr', [(500000, ⟨[u0 v0].map dUR, 3, eu, false⟩), (kg, gB L I eg)] ++ fbx ec [u0 v0]⟩ := by
 subst hf ef
 have k1 := Qm2 (a := 18) (b := 500000) hkg (by decide) (by decide)
 have k2 := Qm2 (a := 16) (b := 500001) hkg (by decide) (by decide)
 refine le_trans (QbF l fr _) (le_trans (QiK 18 500000 (by decide) (by decide) _) (le_trans (QiK 16 500001 (by decide) (by decide) _) ?_))
 have hH : ∀ k, lk ([(500000, (⟨[u0 v0].map dUR, 3, eu, false⟩ : Box)), (kg, gB L I eg)] ++ fbx ec [u0 v0]) k = lk (Qci (Qbo 16 500001) (Qci (Qbo 18 500000) [(18, ⟨[[.str [], .str [], .osl 16 1]], 3, eu, false⟩), (16, ⟨[dCR (zr v0 (-1))], 8, ec, true⟩), (kg, gB L I eg)])) k := fun k => by
  have e : Qci (Qbo 16 500001) (Qci (Qbo 18 500000) [(18, (⟨[[.str [], .str [], .osl 16 1]], 3, eu, false⟩ : Box)), (16, ⟨[dCR (zr v0 (-1))], 8, ec, true⟩), (kg, gB L I eg)]) = [(500000, ⟨[u0 v0].map dUR, 3, eu, false⟩), (500001, ⟨[dCR (zr v0 (-1))], 8, ec, true⟩), (kg, gB L I eg)] := by
   simp only [Qci, List.map_cons, List.map_nil, k1, k2]; rfl
  rw [e]
  show lk ((500000, _) :: (kg, _) :: (500001, _) :: []) k = _
  rw [Qn, Qn, Qn, Qn, Qn, Qn]
  by_cases h1 : 500000 = k
  ·rw [if_pos h1, if_pos h1]
  ·rw [if_neg h1, if_neg h1]
   by_cases h2 : kg = k
   ·rw [if_pos h2, if_neg (by omega), if_pos h2]
   ·rw [if_neg h2, if_neg h2]; rfl
 refine Qa5 (by simp only [St.ren, List.map_map]; rfl) fun k => (hH k).symm
def names5 : List (List UInt8) := [[97, 110, 116], [98, 101, 101], [99, 111, 119], [100, 111, 103], [101, 108, 107]]
theorem Q4 : names5.length = 5 := rfl
theorem Qow : versions.length = 4 := rfl
theorem QpF {i : Nat} (h : i < versions.length) : Qfv versions[i] := by
 have := Qi6 _ (List.getElem_mem h)
 exact ⟨Nat.le_trans this.1 (by omega), Nat.le_trans this.2 (by omega)⟩
structure UnitsIn (us : List UR) : Prop where
 keys : Z7 us
 fresh : ∀ u ∈ us, QoN u
 first : ∃ z rest, us = ⟨[], [], 500001, [z]⟩ :: rest
theorem UnitsIn.zero : UnitsIn [u0 v0] := by
 refine ⟨fun j hj => ?_, fun u hu => ?_, ⟨zr v0 (-1), [], rfl⟩⟩
 ·have : j = 0 := by simp at hj; exact hj
  subst this; rfl
 ·simp only [List.mem_singleton] at hu; subst hu
  refine ⟨by simp [u0], fun z hz => ?_⟩
  simp only [u0, List.mem_singleton] at hz; subst hz
  exact ⟨v0, -1, rfl, ⟨Nat.zero_le _, Nat.zero_le _⟩⟩
theorem UnitsIn.snoc {us : List UR} (h : UnitsIn us) {n f : List UInt8} {cs : List CR} (hc : cs.length <= 4) (hz : ∀ z ∈ cs, ∃ v sh, z = zr v sh /\ Qfv v) : UnitsIn (us ++ [⟨n, f, 500001 + us.length, cs⟩]) := by
 obtain ⟨h1, h2, z, rest, h3⟩ := h
 refine ⟨QhP h1 rfl, fun u hu => ?_, z, rest ++ [⟨n, f, 500001 + us.length, cs⟩], by rw [h3]; rfl⟩
 rcases List.mem_append.1 hu with hu | hu
 ·exact h2 u hu
 ·simp only [List.mem_singleton] at hu; subst hu; exact ⟨hc, hz⟩
def CsIn (n : Nat) (cs : List CR) : Prop := cs.length <= n /\ ∀ z ∈ cs, ∃ v sh, z = zr v sh /\ Qfv v
theorem CsIn.nil (n : Nat) : CsIn n [] := ⟨Nat.zero_le _, by simp⟩
theorem CsIn.keep {n : Nat} {cs : List CR} (h : CsIn n cs) : CsIn (n + 1) cs := ⟨Nat.le_succ_of_le h.1, h.2⟩
theorem CsIn.snoc {n : Nat} {cs : List CR} (h : CsIn n cs) {v : Vr} (hv : Qfv v) {sh : Int} : CsIn (n + 1) (cs ++ [zr v sh]) := by
 refine ⟨by simp; exact h.1, fun z hz => ?_⟩
 rcases List.mem_append.1 hz with hz | hz
 ·exact h.2 z hz
 ·simp only [List.mem_singleton] at hz; subst hz; exact ⟨v, sh, rfl, hv⟩
theorem CsIn.at {n : Nat} {cs : List CR} (h : CsIn n cs) {i : Nat} (hi : i < cs.length) : Qfv cs[i].v := by
 obtain ⟨v, sh, e, hv⟩ := h.2 _ (List.getElem_mem hi)
 rw [e]; exact hv
theorem QjD {α : Type} {k : Nat} {v v' : α} {l : List (Nat × α)} (h : v = v') : lk ((k, v) :: l) k = some v' := by rw [Qx, h]
theorem Qif {us : List UR} {e et : Nat} (h : Z7 us) : Box.scrub (500001 + us.length) ⟨us.map dUR, e, et, false⟩ = ⟨us.map dUR, e, et, false⟩ := Qie fun hk => by
 obtain ⟨u, hu, e⟩ := Qbe hk
 have := Qa4 h hu
 omega
theorem QjZ {us : List UR} (h : Z7 us) {n f : List UInt8} {k m : Nat} (hk : k ≠ 500000) : ∀ r ∈ us.map dUR ++ [[D.str n, D.str f, D.osl k m]], ∀ d ∈ r, 500000 ∉ d.sid := fun r hr d hd => by
 rcases List.mem_append.1 hr with hr | hr
 ·exact Qov h r hr d hd
 ·simp only [List.mem_singleton] at hr; subst hr
  simp only [List.mem_cons, List.not_mem_nil, or_false] at hd
  rcases hd with rfl | rfl | rfl <;> simp [D.sid]
  exact Ne.symm hk
theorem Qou {us : List UR} {u : UR} : (us ++ [u]).map dUR = us.map dUR ++ [dUR u] := by simp
theorem Qn3 {cs : List CR} {z : CR} : (cs ++ [z]).map dCR = cs.map dCR ++ [dCR z] := by simp
theorem QaQ {us : List UR} (h : Z7 us) {kg eu ec : Nat} {g1 g2 g3 : Box} (hkg : 1000000 <= kg) (h1 : g1.pr = true) (h2 : g2.pr = true) (hlen : us.length <= 100) :
  (∀ k, 1000000 <= k -> (lk [(kg, g1)] k).isSome = true -> (lk (((500000, (⟨us.map dUR, 3, eu, false⟩ : Box)) :: fbx ec us) ++ [(kg, g2), (kg, g1)]) k).isSome = true) /\
  (∀ k b, lk (((500000, (⟨us.map dUR, 3, eu, false⟩ : Box)) :: fbx ec us) ++ [(kg, g2), (kg, g1)]) k = some b -> 500000 <= k /\ ∀ j ∈ b.ids, (lk (((500000, (⟨us.map dUR, 3, eu, false⟩ : Box)) :: fbx ec us) ++ [(kg, g2), (kg, g1)]) j).isSome = true) /\
  (∀ k b, lk (((500000, (⟨us.map dUR, 3, eu, false⟩ : Box)) :: fbx ec us) ++ [(kg, g2), (kg, g1)]) k = some b -> lk ((kg, g2) :: (500000, ⟨us.map dUR, 3, eu, false⟩) :: (kg, g3) :: fbx ec us) k = some b) := by
 have cs : ∀ k b, lk (((500000, (⟨us.map dUR, 3, eu, false⟩ : Box)) :: fbx ec us) ++ [(kg, g2), (kg, g1)]) k = some b -> (k = 500000 /\ b = ⟨us.map dUR, 3, eu, false⟩) \/ (∃ u ∈ us, k = u.k /\ b = ⟨u.cs.map dCR, 8, ec, true⟩) \/ (k = kg /\ b = g2) := fun k b hk => by
  rw [List.cons_append, Qn] at hk
  split at hk
  ·rename_i e; cases hk; exact .inl ⟨e.symm, rfl⟩
  ·rw [ZQ] at hk
   cases hh : lk (fbx ec us) k with
   | some v =>
    rw [hh] at hk; cases hk
    exact .inr (.inl (Qf3 hh))
   | none =>
    rw [hh] at hk
    simp only at hk
    rw [Qn] at hk
    split at hk
    ·rename_i e; cases hk; exact .inr (.inr ⟨e.symm, rfl⟩)
    ·rename_i e
     rw [Qn, if_neg e] at hk; cases hk
 refine ⟨fun k _ hk => ?_, fun k b hk => ?_, fun k b hk => ?_⟩
 ·obtain ⟨b, hb⟩ := Option.isSome_iff_exists.1 hk
  obtain ⟨rfl, _⟩ := XP hb
  exact Qgi QU
 ·rcases cs k b hk with ⟨rfl, rfl⟩ | ⟨u, hu, rfl, rfl⟩ | ⟨rfl, rfl⟩
  ·refine ⟨Nat.le_refl _, fun j hj => ?_⟩
   obtain ⟨u, hu, rfl⟩ := Qbe hj
   rw [List.cons_append]
   refine QT ?_
   obtain ⟨b, hb⟩ := Option.isSome_iff_exists.1 (Qc9 (ec := ec) h hu)
   rw [Ym hb]; rfl
  ·have := Qa4 h hu
   exact ⟨by omega, fun j hj => by simp [Box.ids] at hj⟩
  ·exact ⟨by omega, fun j hj => by rw [XW h2] at hj; cases hj⟩
 ·rcases cs k b hk with ⟨rfl, rfl⟩ | ⟨u, hu, rfl, rfl⟩ | ⟨rfl, rfl⟩
  ·exact Ql (by omega) Qx
  ·have hm := Qa4 h hu
   obtain ⟨j, hj, rfl⟩ := List.getElem_of_mem hu
   refine Ql (by omega) (Ql (by omega) (Ql (by omega) ?_))
   rw [h j hj]; exact Qk2 h hj
  ·exact Qx
end M25
namespace M25
open Go Go.Abs M3
/-! ### A world under way: one candidate after the other is filled -/
def PureC (z : CR) : Prop := z.x.sid = [] /\ z.y.sid = [] /\ z.z.sid = []
theorem PureC.all {z : CR} (h : PureC z) : ∀ d ∈ dCR z, d.sid = [] := fun d hd => by
 simp only [dCR, List.mem_cons, List.not_mem_nil, or_false] at hd
 rcases hd with rfl | rfl | rfl | rfl | rfl | rfl | rfl | rfl
 ·rfl
 ·rfl
 ·rfl
 ·rfl
 ·rfl
 ·exact h.1
 ·exact h.2.1
 ·exact h.2.2
def QdR (u : UR) (k : Nat) (z : CR) : UR := { u with cs := u.cs.set k z }
def Qb7 (us : List UR) (i k : Nat) (z : CR) : List UR := us.modify i fun u => QdR u k z
theorem Zq (us : List UR) (i k : Nat) (z : CR) : (Qb7 us i k z).length = us.length := List.length_modify ..
theorem QjV (us : List UR) (i k : Nat) (z : CR) : (Qb7 us i k z).map dUR = us.map dUR := by
 refine List.ext_getElem (by simp [Qb7]) fun j h1 h2 => ?_
 simp only [List.getElem_map, Qb7, List.getElem_modify]
 split <;> simp [dUR, QdR]
theorem QaA {us : List UR} {i k : Nat} {z : CR} {j : Nat} (h : j < us.length) : (Qb7 us i k z)[j]'(by rw [Zq]; exact h) = if i = j then QdR us[j] k z else us[j] := by
 simp only [Qb7, List.getElem_modify]
theorem Qds {us : List UR} {i k : Nat} {z : CR} (h : Z7 us) : Z7 (Qb7 us i k z) := fun j hj => by
 rw [Zq] at hj
 rw [QaA hj]
 split
 ·exact h j hj
 ·exact h j hj
def wA (us : List UR) (eu ec eg : Nat) (L : List Int) (J : Int) (b4 : Box) : List (Nat × Box) := [(500000, ⟨us.map dUR, 3, eu, false⟩), (12, gB L J eg), (4, b4)] ++ fbx ec us
theorem Qbf {us : List UR} {eu ec eg : Nat} {L : List Int} {J : Int} {b4 : Box} (h : Z7 us) {k : Nat} {b : Box} (hk : lk (wA us eu ec eg L J b4) k = some b) : (k = 500000 /\ b = ⟨us.map dUR, 3, eu, false⟩) \/ (k = 12 /\ b = gB L J eg) \/ (k = 4 /\ b = b4) \/ ∃ j, ∃ hj : j < us.length, k = 500001 + j /\ b = ⟨us[j].cs.map dCR, 8, ec, true⟩ := by
 unfold wA at hk
 rcases Qfa hk with hk | ⟨_, hk⟩
 ·simp only [List.mem_cons, List.not_mem_nil, or_false, Prod.mk.injEq] at hk
  rcases hk with h | h | h
  ·exact .inl h
  ·exact .inr (.inl h)
  ·exact .inr (.inr (.inl h))
 ·obtain ⟨u, hu, e1, e2⟩ := Qf3 hk
  obtain ⟨j, hj, rfl⟩ := List.getElem_of_mem hu
  exact .inr (.inr (.inr ⟨j, hj, e1.trans (h j hj), e2⟩))
section
variable {us : List UR} {eu ec eg : Nat} {L : List Int} {J : Int} {b4 : Box}
theorem Qex : lk (wA us eu ec eg L J b4) 500000 = some ⟨us.map dUR, 3, eu, false⟩ := rfl
theorem Qd7 : lk (wA us eu ec eg L J b4) 12 = some (gB L J eg) := rfl
theorem Qfy : lk (wA us eu ec eg L J b4) 4 = some b4 := rfl
theorem QcO (h : Z7 us) {j : Nat} (hj : j < us.length) : lk (wA us eu ec eg L J b4) (500001 + j) = some ⟨us[j].cs.map dCR, 8, ec, true⟩ := by
 show lk ((500000, _) :: (12, _) :: (4, _) :: fbx ec us) _ = _
 rw [Qn, if_neg (by omega), Qn, if_neg (by omega), Qn, if_neg (by omega)]
 exact Qk2 h hj
theorem ZU (h : Z7 us) {k : Nat} (h1 : k ≠ 500000) (h2 : k ≠ 12) (h3 : k ≠ 4) (h4 : k < 500001 \/ 500001 + us.length <= k) : lk (wA us eu ec eg L J b4) k = none := by
 show lk ((500000, _) :: (12, _) :: (4, _) :: fbx ec us) _ = _
 rw [Qn, if_neg (Ne.symm h1), Qn, if_neg (Ne.symm h2), Qn, if_neg (Ne.symm h3)]
 exact YL h h4
theorem Qi7 (h : Z7 us) {k : Nat} (hk : k = 500000 \/ k = 12 \/ k = 4 \/ ∃ u ∈ us, k = u.k) : (lk (wA us eu ec eg L J b4) k).isSome = true := by
 rcases hk with rfl | rfl | rfl | ⟨u, hu, rfl⟩
 ·rfl
 ·rfl
 ·rfl
 ·obtain ⟨j, hj, rfl⟩ := List.getElem_of_mem hu
  rw [h j hj, QcO h hj]; rfl
theorem Qac (h : Z7 us) (h4 : b4.pr = true) : Closed (wA us eu ec eg L J b4) := fun k b hk j hj => by
 rcases Qbf h hk with ⟨rfl, rfl⟩ | ⟨rfl, rfl⟩ | ⟨rfl, rfl⟩ | ⟨i, hi, rfl, rfl⟩
 ·exact Qi7 h (.inr (.inr (.inr (Qbe hj))))
 ·simp [Box.ids, gB] at hj
 ·rw [XW h4] at hj; cases hj
 ·simp [Box.ids] at hj
theorem QdK {α : Type} : ∀ {l : List α} {k : Nat} {a x : α}, x ∈ l.set k a -> x = a \/ x ∈ l
 | [], k, a, x, h => by simp at h
 | b :: l, 0, a, x, h => by
  simp only [List.set_cons_zero, List.mem_cons] at h ⊢
  rcases h with h | h
  ·exact .inl h
  ·exact .inr (.inr h)
 | b :: l, k + 1, a, x, h => by
  simp only [List.set_cons_succ, List.mem_cons] at h ⊢
  rcases h with h | h
  ·exact .inr (.inl h)
  ·rcases QdK h with h | h
   ·exact .inl h
   ·exact .inr (.inr h)
theorem Qe6 {l : List Nat} {fr fr1 fr' : List (Nat × D)} {H : List (Nat × Box)} {i k : Nat} {row : List D} {p : Bool} (kk : Nat) (z' : CR) (hf : Q5 l fr = fr1) (ef : fr1 = fr') (hK : Z7 us) (hi : i < us.length) (hk : k < us[i].cs.length)
  (hKi : lk H (500001 + i) = some ⟨(us[i].cs.map dCR).set k row, 8, ec, p⟩) (hp : p = true -> row.map (D.fzS H (· == kk)) = row) (hrow : (row.map (D.fzS H (· == kk))).map D.canS = dCR z') (hoth : ∀ z ∈ us[i].cs, PureC z) (hz : PureC z')
  (hF : ∀ j, ∀ hj : j < us.length, j ≠ i -> lk H (500001 + j) = some ⟨us[j].cs.map dCR, 8, ec, true⟩) (hu : lk H 500000 = some ⟨us.map dUR, 3, eu, false⟩) (hg : lk H 12 = some (gB L J eg)) (h4 : lk H 4 = some b4) (hb4 : b4.pr = true) (hkk : kk < 500000 /\ kk ≠ 12 /\ kk ≠ 4) (hsm : ∀ j, 1000000 <= j -> lk H j = none) (hlen : us.length <= 100)
  (hfr : ∀ p ∈ fr', ∀ j ∈ p.2.ids, j = 500000 \/ j = 12 \/ j = 4 \/ ∃ u ∈ us, j = u.k) : St.le ⟨fr, H⟩ ⟨fr', wA (Qb7 us i k z') eu ec eg L J b4⟩ := by
 subst hf ef
 have nokk : ∀ j, (j = 500000 \/ j = 12 \/ j = 4 \/ ∃ u ∈ us, j = u.k) -> j ≠ kk := fun j hj e => by
  subst e
  rcases hj with rfl | rfl | rfl | ⟨u, hu, rfl⟩
  ·omega
  ·exact hkk.2.1 rfl
  ·exact hkk.2.2 rfl
  ·have := (Qa4 hK hu).1; omega
 have eqkk : ∀ j, j ≠ kk -> (j == kk) = false := fun j hj => by simp [hj]
 have some1 : ∀ b j, (j = 500000 \/ j = 12 \/ j = 4 \/ ∃ u ∈ us, j = u.k) -> (lk ((500001 + i, b) :: wA us eu ec eg L J b4) j).isSome = true := fun b j hj => QT (Qi7 hK hj)
 have rowsz : ∀ r ∈ us[i].cs.map dCR, r.map (D.fzS H (· == kk)) = r := fun r hr => by
  obtain ⟨z, hzm, rfl⟩ := List.mem_map.1 hr
  exact Y0 fun d hd => QdG fun j hj => by rw [(hoth z hzm).all d hd] at hj; cases hj
 have mapz : ((us[i].cs.map dCR).set k row).map (fun r => r.map (D.fzS H (· == kk))) = (us[i].cs.map dCR).set k (row.map (D.fzS H (· == kk))) := by
  refine List.ext_getElem (by simp) fun j h1 h2 => ?_
  simp only [List.getElem_map, List.getElem_set]
  split
  ·rfl
  ·exact rowsz _ (List.mem_map_of_mem (List.getElem_mem _))
 refine le_trans (QbF l fr H) (le_trans (Qlp kk (H' := (500001 + i, ⟨(us[i].cs.map dCR).set k (row.map (D.fzS H (· == kk))), 8, ec, p⟩) :: wA us eu ec eg L J b4) (by omega) (fr' := Q5 l fr) (fun t d h => ⟨d, h, QhI fun j hj => eqkk j (nokk j (hfr (t, d) (Z2 h) j hj))⟩) (fun j b h => ?_) (fun t d h j hj => some1 _ j (hfr (t, d) (Z2 h) j hj)) (fun j b h j2 hj2 => ?_) fun j hj hs => ?_) ?_)
 ·rw [Qn] at h
  split at h
  ·rename_i e; cases h; subst e
   refine ⟨by omega, _, hKi, ?_⟩
   cases p with
   | true => rw [hp rfl]; rfl
   | false => show Box.mk _ _ _ _ = _; rw [mapz]
  ·rename_i e
   rcases Qbf hK h with ⟨rfl, rfl⟩ | ⟨rfl, rfl⟩ | ⟨rfl, rfl⟩ | ⟨i2, hi2, rfl, rfl⟩
   ·refine ⟨by omega, _, hu, XD (.inr fun j hj => eqkk j (nokk j (.inr (.inr (.inr (Qbe hj))))))⟩
   ·exact ⟨Ne.symm hkk.2.1, _, hg, rfl⟩
   ·exact ⟨Ne.symm hkk.2.2, _, h4, XD (.inl hb4)⟩
   ·exact ⟨by omega, _, hF i2 hi2 (fun e2 => e (by omega)), rfl⟩
 ·rw [Qn] at h
  split at h
  ·cases h
   cases hpp : p with
   | true => rw [XW hpp] at hj2; cases hj2
   | false =>
   simp only [Box.ids, hpp, Bool.false_eq_true, if_false, List.mem_flatMap] at hj2
   obtain ⟨r, hr, d, hd, hj3⟩ := hj2
   rcases QdK hr with rfl | hr
   ·have : (d.canS).sid = [] := hz.all _ (by rw [<- hrow]; exact List.mem_map_of_mem hd)
    rw [QbX] at this
    rw [this] at hj3; cases hj3
   ·obtain ⟨z, hzm, rfl⟩ := List.mem_map.1 hr
    rw [(hoth z hzm).all d hd] at hj3; cases hj3
  ·exact QT (Qac hK hb4 j b h j2 hj2)
 ·rw [hsm j hj] at hs; cases hs
 ·refine le_trans (Qej k Qx) (le_trans (QgJ Qx (fun e => ?_) (fun r hr d hd => ?_)) (Qa5 rfl fun j => ?_))
  ·have := congrArg List.length e
   simp only [List.length_modify, List.length_set, List.length_map, List.length_nil] at this
   omega
  ·rcases QaL hr with h | ⟨y, hy, rfl⟩
   ·rcases QdK h with rfl | h
    ·have : (d.canS).sid = [] := hz.all _ (by rw [<- hrow]; exact List.mem_map_of_mem hd)
     rwa [QbX] at this
    ·obtain ⟨z, hzm, rfl⟩ := List.mem_map.1 h
     exact (hoth z hzm).all d hd
   ·obtain ⟨d0, hd0, rfl⟩ := List.mem_map.1 hd
    rw [QbX]
    rcases QdK hy with rfl | h
    ·have : (d0.canS).sid = [] := hz.all _ (by rw [<- hrow]; exact List.mem_map_of_mem hd0)
     rwa [QbX] at this
    ·obtain ⟨z, hzm, rfl⟩ := List.mem_map.1 h
     exact (hoth z hzm).all d0 hd0
  ·have erows : ((us[i].cs.map dCR).set k (row.map (D.fzS H (· == kk)))).modify k (fun r => r.map D.canS) = ((us[i].cs.set k z').map dCR) := by
    refine List.ext_getElem (by simp) fun m h1 h2 => ?_
    simp only [List.getElem_modify, List.getElem_set, List.getElem_map]
    by_cases e : k = m
    ·subst e
     simp only [if_true]
     exact hrow
    ·simp only [if_neg e]
   have hK' := Qds (i := i) (k := k) (z := z') hK
   by_cases e : 500001 + i = j
   ·subst e
    rw [Qx, QcO hK' (by rw [Zq]; exact hi)]
    simp only [QaA hi, if_true, erows]; rfl
   ·rw [Qn, if_neg e, Qn, if_neg e, Qn, if_neg e]
    cases h : lk (wA us eu ec eg L J b4) j with
    | none =>
     cases h' : lk (wA (Qb7 us i k z') eu ec eg L J b4) j with
     | none => rfl
     | some b =>
      have : (lk (wA us eu ec eg L J b4) j).isSome = true := by
       rcases Qbf hK' h' with ⟨rfl, _⟩ | ⟨rfl, _⟩ | ⟨rfl, _⟩ | ⟨m, hm, rfl, _⟩
       ·rfl
       ·rfl
       ·rfl
       ·rw [Zq] at hm; rw [QcO hK hm]; rfl
      rw [h] at this; cases this
    | some b =>
     rcases Qbf hK h with ⟨rfl, rfl⟩ | ⟨rfl, rfl⟩ | ⟨rfl, rfl⟩ | ⟨m, hm, rfl, rfl⟩
     ·rw [Qex, QjV]
     ·rfl
     ·rfl
     ·rw [QcO hK' (by rw [Zq]; exact hm)]
      simp only [QaA hm, if_neg (show ¬ i = m by omega)]
end
theorem Qdf : ∀ {H : List (Nat × Box)} {j : Nat}, j ∈ H.map Prod.fst -> (lk H j).isSome = true
 | [], _, h => by cases h
 | (k, b) :: H, j, h => by
  by_cases e : k = j
  ·subst e; exact QU
  ·refine QT (Qdf ?_)
   simp only [List.map_cons, List.mem_cons] at h
   exact h.resolve_left (Ne.symm e)
theorem Qm5 {us : List UR} (h : Z7 us) {i : Nat} (hi : i < us.length) : (us.map dUR)[((i : Nat) : Int).toNat]? = some [.str us[i].n, .str us[i].f, .osl (500001 + i) us[i].cs.length] := by
 rw [Int.toNat_natCast, List.getElem?_map, List.getElem?_eq_getElem hi, Option.map_some, dUR, h i hi]
theorem Qp3 {cs : List CR} {k : Nat} (hk : k < cs.length) : (cs.map dCR)[((k : Nat) : Int).toNat]? = some (dCR cs[k]) := by
 rw [Int.toNat_natCast, List.getElem?_map, List.getElem?_eq_getElem hk]; rfl
theorem Qi2 {us : List UR} {eu ec eg : Nat} {L : List Int} {J : Int} {b4 g1 : Box} (h : Z7 us) (k : Nat) : lk (((500000, (⟨us.map dUR, 3, eu, false⟩ : Box)) :: fbx ec us) ++ ([(12, gB L J eg)] ++ [(12, g1), (4, b4)])) k = lk (wA us eu ec eg L J b4) k := by
 show lk ((500000, _) :: (fbx ec us ++ [(12, gB L J eg), (12, g1), (4, b4)])) k = lk ((500000, _) :: (12, _) :: (4, _) :: fbx ec us) k
 rw [Qn, Qn]
 split
 ·rfl
 ·rw [ZQ]
  cases hh : lk (fbx ec us) k with
  | some v =>
   have := Qgt h k v hh
   simp only
   rw [Qn, if_neg (by omega), Qn, if_neg (by omega), hh]
  | none =>
   simp only [Qn, hh]
   by_cases e : 12 = k
   ·rw [if_pos e, if_pos e]
   ·rw [if_neg e, if_neg e, if_neg e]; rfl
theorem Qj0 {us : List UR} {eu ec eg : Nat} {L : List Int} {J : Int} {b4 : Box} (h : Z7 us) (hv : ∀ y ∈ us, y.cs.length <= 16 /\ ∀ z ∈ y.cs, Qfv z.v) : Fam (wA us eu ec eg L J b4) 12 500000 eu ec us := by
 refine ⟨by decide, ⟨false, rfl⟩, fun y hy => ?_, hv⟩
 obtain ⟨j, hj, rfl⟩ := List.getElem_of_mem hy
 refine ⟨by rw [h j hj]; omega, true, by rw [h j hj]; exact QcO h hj⟩
/-! ### Filled candidates -/
def QnP (n : Nat) (x : WantT) : Prop := 0 <= x.u /\ x.u < n /\ SetOk x.s
theorem WantIn.w {n : Nat} {x : WantT} (h : WantIn n x) : QnP n x := ⟨by have := h.1; omega, h.2.1, h.2.2⟩
structure Qaf (n : Nat) (c : CandT) : Prop where
 v : Qfv c.v
 nl : c.ns.length <= 10
 nr : ∀ r ∈ c.ns, r.length <= 2 /\ ∀ x ∈ r, QnP n x
 bl : c.bs.length <= 1
 bw : ∀ x ∈ c.bs, QnP n x
def Qha (c : CandT) : CR := ⟨c.v, .int .i64 c.sh, QS c.ns, Q3 c.bs⟩
def DoneC (n : Nat) (z : CR) : Prop := ∃ c, z = Qha c /\ Qaf n c
def FreshC (z : CR) : Prop := ∃ v sh, z = zr v sh /\ Qfv v
theorem DoneC.pure {n : Nat} {z : CR} (h : DoneC n z) : PureC z := by obtain ⟨c, rfl, _⟩ := h; exact ⟨rfl, rfl, rfl⟩
theorem FreshC.pure {z : CR} (h : FreshC z) : PureC z := by obtain ⟨v, sh, rfl, _⟩ := h; exact ⟨rfl, rfl, rfl⟩
theorem DoneC.vr {n : Nat} {z : CR} (h : DoneC n z) : Qfv z.v := by obtain ⟨c, rfl, q⟩ := h; exact q.v
theorem FreshC.vr {z : CR} (h : FreshC z) : Qfv z.v := by obtain ⟨v, sh, rfl, q⟩ := h; exact q
structure Prog (n : Nat) (us : List UR) (i k : Nat) : Prop where
 keys : Z7 us
 len : us.length = n /\ 2 <= n /\ n <= 11
 cl : ∀ u ∈ us, u.cs.length <= 4
 done : ∀ j, ∀ hj : j < us.length, ∀ m, ∀ hm : m < us[j].cs.length, (j < i \/ (j = i /\ m < k)) -> DoneC n us[j].cs[m]
 fresh : ∀ j, ∀ hj : j < us.length, ∀ m, ∀ hm : m < us[j].cs.length, ¬ (j < i \/ (j = i /\ m < k)) -> FreshC us[j].cs[m]
theorem Prog.pure {n : Nat} {us : List UR} {i k : Nat} (h : Prog n us i k) {j : Nat} (hj : j < us.length) : ∀ z ∈ us[j].cs, PureC z /\ Qfv z.v := fun z hz => by
 obtain ⟨m, hm, rfl⟩ := List.getElem_of_mem hz
 by_cases hd : j < i \/ (j = i /\ m < k)
 ·exact ⟨(h.done j hj m hm hd).pure, (h.done j hj m hm hd).vr⟩
 ·exact ⟨(h.fresh j hj m hm hd).pure, (h.fresh j hj m hm hd).vr⟩
theorem Prog.fam {n : Nat} {us : List UR} {i k : Nat} (h : Prog n us i k) : ∀ y ∈ us, y.cs.length <= 16 /\ ∀ z ∈ y.cs, Qfv z.v := fun y hy => by
 obtain ⟨j, hj, rfl⟩ := List.getElem_of_mem hy
 exact ⟨Nat.le_trans (h.cl _ hy) (by omega), fun z hz => (h.pure hj z hz).2⟩
theorem Prog.put {n : Nat} {us : List UR} {i k : Nat} (h : Prog n us i k) (hi : i < us.length) (hk : k < us[i].cs.length) {z : CR} (hz : DoneC n z) : Prog n (Qb7 us i k z) i (k + 1) := by
 have at' := fun (j : Nat) (hj : j < us.length) => QaA (i := i) (k := k) (z := z) hj
 refine ⟨Qds h.keys, by rw [Zq]; exact h.len, fun u hu => ?_, fun j hj m hm hd => ?_, fun j hj m hm hd => ?_⟩
 ·obtain ⟨j, hj, rfl⟩ := List.getElem_of_mem hu
  rw [Zq] at hj
  rw [at' j hj]
  split
  ·simp only [QdR, List.length_set]; exact h.cl _ (List.getElem_mem _)
  ·exact h.cl _ (List.getElem_mem _)
 ·rw [Zq] at hj
  have e := at' j hj
  by_cases hij : i = j
  ·subst hij
   rw [if_pos rfl] at e
   have hm' : m < (QdR us[i] k z).cs.length := by rw [<- e]; exact hm
   have e2 : (Qb7 us i k z)[i].cs[m] = (QdR us[i] k z).cs[m]'hm' := by congr 1; rw [e]
   rw [e2]
   simp only [QdR, List.getElem_set]
   split
   ·exact hz
   ·simp only [QdR, List.length_set] at hm'
    exact h.done i hi m hm' (by omega)
  ·rw [if_neg hij] at e
   have hm' : m < us[j].cs.length := by rw [<- e]; exact hm
   have e2 : (Qb7 us i k z)[j].cs[m] = us[j].cs[m]'hm' := by congr 1; rw [e]
   rw [e2]; exact h.done j hj m hm' (by omega)
 ·rw [Zq] at hj
  have e := at' j hj
  by_cases hij : i = j
  ·subst hij
   rw [if_pos rfl] at e
   have hm' : m < (QdR us[i] k z).cs.length := by rw [<- e]; exact hm
   have e2 : (Qb7 us i k z)[i].cs[m] = (QdR us[i] k z).cs[m]'hm' := by congr 1; rw [e]
   rw [e2]
   simp only [QdR, List.length_set] at hm'
   simp only [QdR, List.getElem_set]
   rw [if_neg (by omega)]
   exact h.fresh i hi m hm' (by omega)
  ·rw [if_neg hij] at e
   have hm' : m < us[j].cs.length := by rw [<- e]; exact hm
   have e2 : (Qb7 us i k z)[j].cs[m] = us[j].cs[m]'hm' := by congr 1; rw [e]
   rw [e2]; exact h.fresh j hj m hm' (by omega)
theorem Prog.next {n : Nat} {us : List UR} {i k : Nat} (h : Prog n us i k) (hi : i < us.length) (hk : us[i].cs.length <= k) : Prog n us (i + 1) 0 := by
 refine ⟨h.keys, h.len, h.cl, fun j hj m hm hd => h.done j hj m hm ?_, fun j hj m hm hd => h.fresh j hj m hm (by omega)⟩
 by_cases e : j = i
 ·subst e; exact .inr ⟨rfl, by omega⟩
 ·exact .inl (by omega)
theorem Prog.again {n : Nat} {us : List UR} {i k : Nat} (h : Prog n us i (k + 1)) (hi : i < us.length) (hk : k < us[i].cs.length) {z : CR} (hz : DoneC n z) : Prog n (Qb7 us i k z) i (k + 1) := by
 have at' := fun (j : Nat) (hj : j < us.length) => QaA (i := i) (k := k) (z := z) hj
 refine ⟨Qds h.keys, by rw [Zq]; exact h.len, fun u hu => ?_, fun j hj m hm hd => ?_, fun j hj m hm hd => ?_⟩
 ·obtain ⟨j, hj, rfl⟩ := List.getElem_of_mem hu
  rw [Zq] at hj
  rw [at' j hj]
  split
  ·simp only [QdR, List.length_set]; exact h.cl _ (List.getElem_mem _)
  ·exact h.cl _ (List.getElem_mem _)
 ·rw [Zq] at hj
  have e := at' j hj
  by_cases hij : i = j
  ·subst hij
   rw [if_pos rfl] at e
   have hm' : m < (QdR us[i] k z).cs.length := by rw [<- e]; exact hm
   have e2 : (Qb7 us i k z)[i].cs[m] = (QdR us[i] k z).cs[m]'hm' := by congr 1; rw [e]
   rw [e2]
   simp only [QdR, List.getElem_set]
   split
   ·exact hz
   ·simp only [QdR, List.length_set] at hm'
    exact h.done i hi m hm' (by omega)
  ·rw [if_neg hij] at e
   have hm' : m < us[j].cs.length := by rw [<- e]; exact hm
   have e2 : (Qb7 us i k z)[j].cs[m] = us[j].cs[m]'hm' := by congr 1; rw [e]
   rw [e2]; exact h.done j hj m hm' (by omega)
 ·rw [Zq] at hj
  have e := at' j hj
  by_cases hij : i = j
  ·subst hij
   rw [if_pos rfl] at e
   have hm' : m < (QdR us[i] k z).cs.length := by rw [<- e]; exact hm
   have e2 : (Qb7 us i k z)[i].cs[m] = (QdR us[i] k z).cs[m]'hm' := by congr 1; rw [e]
   rw [e2]
   simp only [QdR, List.length_set] at hm'
   simp only [QdR, List.getElem_set]
   rw [if_neg (by omega)]
   exact h.fresh i hi m hm' (by omega)
  ·rw [if_neg hij] at e
   have hm' : m < us[j].cs.length := by rw [<- e]; exact hm
   have e2 : (Qb7 us i k z)[j].cs[m] = us[j].cs[m]'hm' := by congr 1; rw [e]
   rw [e2]; exact h.fresh j hj m hm' (by omega)
theorem Qln {l : List Nat} {fr fr1 fr' : List (Nat × D)} {us : List UR} {eu ec eg e1 e3 : Nat} {L : List Int} {J : Int} {b4 bK : Box} {i : Nat} {x : WantT} (hf : Q5 l fr = fr1) (ef : fr1 = fr') (hK : Z7 us) (hi : i < us.length) (hb4 : b4.pr = true) (hbK : ∀ j ∈ bK.ids, j = 64)
  (hfr : ∀ p ∈ fr', ∀ j ∈ p.2.ids, j = 500000 \/ j = 12 \/ j = 4 \/ ∃ u ∈ us, j = u.k) :
  St.le ⟨fr, (500001 + i, bK) :: (64, ⟨[[.osl 63 1]], 1, e1, false⟩) :: (63, ⟨[Qea x], 3, e3, true⟩) :: wA us eu ec eg L J b4⟩ ⟨fr', (500001 + i, bK) :: (64, ⟨[[Q3 [x]]], 1, e1, true⟩) :: wA us eu ec eg L J b4⟩ := by
 subst hf ef
 have no63 : ∀ j, (j = 500000 \/ j = 12 \/ j = 4 \/ ∃ u ∈ us, j = u.k) -> j ≠ 63 := fun j hj e => by
  subst e
  rcases hj with h | h | h | ⟨u, hu, h⟩
  ·cases h
  ·cases h
  ·cases h
  ·have := (Qa4 hK hu).1; omega
 have eq63 : ∀ j, j ≠ 63 -> (j == 63) = false := fun j hj => by simp [hj]
 have up : ∀ b b' j, (lk (wA us eu ec eg L J b4) j).isSome = true -> (lk ((500001 + i, b) :: (64, b') :: wA us eu ec eg L J b4) j).isSome = true := fun b b' j hj => QT (QT hj)
 refine le_trans (QbF l fr _) (le_trans (Qlp 63 (H' := (500001 + i, bK) :: (64, ⟨[[Q3 [x]]], 1, e1, false⟩) :: wA us eu ec eg L J b4) (by decide) (fr' := Q5 l fr) (fun t d h => ⟨d, h, QhI fun j hj => eq63 j (no63 j (hfr (t, d) (Z2 h) j hj))⟩) (fun j b h => ?_) (fun t d h j hj => up _ _ j (Qi7 hK (hfr (t, d) (Z2 h) j hj))) (fun j b h j2 hj2 => ?_) fun j hj hs => ?_) ?_)
 ·rw [Qn] at h
  split at h
  ·rename_i e; cases h; subst e
   refine ⟨by omega, _, Qx, XD (.inr fun j hj => ?_)⟩
   rw [hbK j hj]; rfl
  ·rename_i e
   rw [Qn] at h
   split at h
   ·rename_i e2; cases h; subst e2
    refine ⟨by decide, _, Ql e Qx, ?_⟩
    have h63 : lk ((500001 + i, bK) :: (64, (⟨[[.osl 63 1]], 1, e1, false⟩ : Box)) :: (63, ⟨[Qea x], 3, e3, true⟩) :: wA us eu ec eg L J b4) 63 = some ⟨[Qea x], 3, e3, true⟩ := Ql (by omega) (Ql (by decide) Qx)
    simp only [Box.fz, Bool.false_eq_true, if_false, List.map_cons, List.map_nil, D.fzS, beq_self_eq_true, if_true, h63, List.length_singleton, and_self, Q3]
   ·rename_i e2
    have h2 : lk ((500001 + i, bK) :: (64, (⟨[[.osl 63 1]], 1, e1, false⟩ : Box)) :: (63, ⟨[Qea x], 3, e3, true⟩) :: wA us eu ec eg L J b4) j = some b := by
     have hj : j ≠ 63 := by
      rcases Qbf hK h with ⟨rfl, _⟩ | ⟨rfl, _⟩ | ⟨rfl, _⟩ | ⟨m, _, rfl, _⟩ <;> omega
     exact Ql e (Ql e2 (Ql (Ne.symm hj) h))
    rcases Qbf hK h with ⟨rfl, rfl⟩ | ⟨rfl, rfl⟩ | ⟨rfl, rfl⟩ | ⟨m, hm, rfl, rfl⟩
    ·exact ⟨by decide, _, h2, XD (.inr fun j hj => eq63 j (no63 j (.inr (.inr (.inr (Qbe hj))))))⟩
    ·exact ⟨by decide, _, h2, rfl⟩
    ·exact ⟨by decide, _, h2, XD (.inl hb4)⟩
    ·exact ⟨by omega, _, h2, rfl⟩
 ·rw [Qn] at h
  split at h
  ·cases h
   rw [hbK j2 hj2]; exact QT QU
  ·rw [Qn] at h
   split at h
   ·cases h; simp [Box.ids, D.sid, Q3] at hj2
   ·exact up _ _ j2 (Qac hK hb4 j b h j2 hj2)
 ·by_cases e : 500001 + i = j
  ·subst e; exact QU
  ·rw [Qn, if_neg e, Qn, if_neg (by omega), Qn, if_neg (by omega)] at hs
   exact up _ _ j hs
 ·have h64 : lk ((500001 + i, bK) :: (64, (⟨[[Q3 [x]]], 1, e1, false⟩ : Box)) :: wA us eu ec eg L J b4) 64 = some ⟨[[Q3 [x]]], 1, e1, false⟩ := Ql (by omega) Qx
  refine le_trans (QgJ h64 (by simp) (by intro r hr d hd; simp only [List.mem_singleton] at hr; subst hr; simp only [List.mem_singleton] at hd; subst hd; rfl)) (Qa5 rfl fun j => ?_)
  by_cases e : 64 = j
  ·subst e; rw [Qx, Qn, if_neg (by omega), Qx]
  ·by_cases eK : 500001 + i = j
   ·subst eK; rw [Qn, if_neg e, Qx, Qx]
   ·rw [Qn, if_neg e, Qn, if_neg eK, Qn, if_neg e, Qn, if_neg eK, Qn, if_neg e]
theorem QkS {n : Nat} : ∀ {cs : List CR}, (∀ z ∈ cs, DoneC n z) -> ∃ l : List CandT, cs = l.map Qha /\ ∀ c ∈ l, Qaf n c
 | [], _ => ⟨[], rfl, by simp⟩
 | z :: cs, h => by
  obtain ⟨l, h1, h2⟩ := QkS (cs := cs) fun y hy => h y (by simp [hy])
  obtain ⟨c, rfl, hc⟩ := h z (by simp)
  exact ⟨c :: l, by rw [h1]; rfl, fun y hy => by
   rcases List.mem_cons.1 hy with rfl | hy
   ·exact hc
   ·exact h2 y hy⟩
def Qo1 (n : Nat) (u : UR) (x : Qit) : Prop := x.n = u.n /\ x.f = u.f /\ u.cs = x.cs.map Qha /\ ∀ c ∈ x.cs, Qaf n c
theorem QkT {n : Nat} : ∀ {us : List UR}, (∀ u ∈ us, ∀ z ∈ u.cs, DoneC n z) -> ∃ w : QR, w.length = us.length /\ ∀ j, ∀ h : j < us.length, ∀ h' : j < w.length, Qo1 n us[j] w[j]
 | [], _ => ⟨[], rfl, fun j h => by simp at h⟩
 | u :: us, h => by
  obtain ⟨w, h1, h2⟩ := QkT (us := us) fun y hy => h y (by simp [hy])
  obtain ⟨l, q1, q2⟩ := QkS (h u (by simp))
  refine ⟨⟨u.n, u.f, l⟩ :: w, by simp [h1], fun j hj hj' => ?_⟩
  cases j with
  | zero => exact ⟨rfl, rfl, q1, q2⟩
  | succ j => simp only [List.getElem_cons_succ]; exact h2 j (by simpa using hj) (by simpa using hj')
structure Qmf (w : QR) : Prop where
 sm : WSm w
 len : 2 <= w.length /\ w.length <= 11
 cs : ∀ u ∈ w, u.cs.length <= 4
 cand : ∀ u ∈ w, ∀ c ∈ u.cs, Qaf w.length c
theorem Qog {w : QR} (h2 : 2 <= w.length) (h11 : w.length <= 11) (hc : ∀ u ∈ w, u.cs.length <= 4) (hd : ∀ u ∈ w, ∀ c ∈ u.cs, Qaf w.length c) : Qmf w := by
 refine ⟨⟨by omega, fun u hu => Nat.le_trans (hc u hu) (by omega), fun u hu c hcm => (hd u hu c hcm).v, fun u hu c hcm => ⟨Nat.le_trans (hd u hu c hcm).nl (by omega), Nat.le_trans (hd u hu c hcm).bl (by omega)⟩, fun u hu c hcm r hr => Nat.le_trans ((hd u hu c hcm).nr r hr).1 (by omega), fun u hu c hcm r hr x hx => (((hd u hu c hcm).nr r hr).2 x hx).2.2.sm, fun u hu c hcm x hx => ((hd u hu c hcm).bw x hx).2.2.sm⟩, ⟨h2, h11⟩, hc, hd⟩
theorem QmE {n : Nat} {us : List UR} {eu ec eg : Nat} {L : List Int} {J : Int} {b4 : Box} {k : Nat} (h : Prog n us us.length k) (hb4 : b4.pr = true) :
  ∃ w : QR, w.length = us.length /\ Qmf w /\ ∀ {l : List Nat} {fr fr1 fr' : List (Nat × D)}, Q5 l fr = fr1 -> fr1 = fr' -> (∀ p ∈ fr', ∀ j ∈ p.2.ids, j = 500000 \/ j = 4) -> St.le ⟨fr, wA us eu ec eg L J b4⟩ ⟨fr', [(500000, ⟨w.map Qcg, 3, eu, true⟩), (4, b4)]⟩ := by
 obtain ⟨w, hw1, hw2⟩ := QkT (n := n) (us := us) fun u hu z hz => by
  obtain ⟨j, hj, rfl⟩ := List.getElem_of_mem hu
  obtain ⟨m, hm, rfl⟩ := List.getElem_of_mem hz
  exact h.done j hj m hm (.inl hj)
 have hcs : ∀ u ∈ w, u.cs.length <= 4 /\ ∀ c ∈ u.cs, Qaf n c := fun u hu => by
  obtain ⟨j, hj, rfl⟩ := List.getElem_of_mem hu
  obtain ⟨_, _, q3, q4⟩ := hw2 j (by omega) hj
  have := h.cl us[j] (List.getElem_mem _)
  rw [q3, List.length_map] at this
  exact ⟨this, q4⟩
 have hlen := h.len
 refine ⟨w, hw1, Qog (by omega) (by omega) (fun u hu => (hcs u hu).1) (fun u hu c hc => by have := (hcs u hu).2 c hc; rwa [show w.length = n by omega]), ?_⟩
 intro l fr fr1 fr' hf ef hfr
 subst hf ef
 have hK := h.keys
 let S : Nat -> Bool := fun k => decide (500001 <= k) && decide (k < 1000000)
 have hS1 : ∀ k, k < 500001 -> S k = false := fun k hk => by
  show (decide (500001 <= k) && decide (k < 1000000)) = false
  rw [decide_eq_false (by omega)]; rfl
 have hS2 : ∀ k, 500001 <= k -> k < 1000000 -> S k = true := fun k h1 h2 => by
  show (decide (500001 <= k) && decide (k < 1000000)) = true
  rw [decide_eq_true h1, decide_eq_true h2]; rfl
 have hrow : ∀ j, ∀ h1 : j < us.length, ∀ h2 : j < w.length, (dUR us[j]).map (D.fzS (wA us eu ec eg L J b4) S) = Qcg w[j] := fun j h1 h2 => by
  obtain ⟨q1, q2, q3, q4⟩ := hw2 j h1 h2
  have hk := hK j h1
  have hc := QcO (eu := eu) (ec := ec) (eg := eg) (L := L) (J := J) (b4 := b4) hK h1
  generalize us[j] = u at q1 q2 q3 hk hc
  generalize w[j] = x at q1 q2 q3 q4
  obtain ⟨un, uf, uk, ucs⟩ := u
  simp only at q1 q2 q3 hk hc
  subst hk q3
  simp only [dUR, Qcg, List.map_cons, List.map_nil, D.fzS]
  rw [hS2 _ (by omega) (by omega), hc]
  simp only [if_true, true_and, List.length_map, q1, q2, QkR, List.map_map]
  rfl
 have hrows : (us.map dUR).map (fun r => r.map (D.fzS (wA us eu ec eg L J b4) S)) = w.map Qcg := by
  refine List.ext_getElem (by simp [hw1]) fun j h1 h2 => ?_
  simp only [List.getElem_map]
  exact hrow j (by simpa using h1) (by simpa using h2)
 refine le_trans (QbF l fr _) (le_trans (Qob S (fun k hk => by
  simp only [S, Bool.and_eq_true, decide_eq_true_eq] at hk; exact hk.2) (fr' := Q5 l fr) (H' := [(500000, ⟨w.map Qcg, 3, eu, false⟩), (4, b4)]) (fun t d hd => ⟨d, hd, QhI fun j hj => ?_⟩) (fun j b hj => ?_) (fun t d hd j hj => ?_) (fun j b hb i hi => ?_) fun j hj hs => ?_) (le_trans (QgJ (k := 500000) (b := ⟨w.map Qcg, 3, eu, false⟩) rfl (fun e => ?_) (fun r hr d hd => ?_)) (Qa5 rfl fun j => ?_)))
 ·rcases hfr (t, d) (Z2 hd) j hj with rfl | rfl
  ·exact hS1 _ (by decide)
  ·exact hS1 _ (by decide)
 ·rw [Qn] at hj
  split at hj
  ·rename_i e; cases hj; subst e
   refine ⟨hS1 _ (by decide), _, Qex, ?_⟩
   simp only [Box.fz, Bool.false_eq_true, if_false, hrows]
  ·rw [Qn] at hj
   split at hj
   ·rename_i e; cases hj; subst e
    exact ⟨hS1 _ (by decide), _, Qfy, XD (.inl hb4)⟩
   ·cases hj
 ·rcases hfr (t, d) (Z2 hd) j hj with rfl | rfl
  ·rfl
  ·rfl
 ·rw [Qn] at hb
  split at hb
  ·cases hb
   simp only [Box.ids, Bool.false_eq_true, if_false, List.mem_flatMap, List.mem_map] at hi
   obtain ⟨r, ⟨u, _, rfl⟩, d, hd, hi⟩ := hi
   simp only [Qcg, List.mem_cons, List.not_mem_nil, or_false] at hd
   rcases hd with rfl | rfl | rfl <;> simp [D.sid, QkR] at hi
  ·rw [Qn] at hb
   split at hb
   ·cases hb; rw [XW hb4] at hi; cases hi
   ·cases hb
 ·obtain ⟨b, hb⟩ := Option.isSome_iff_exists.1 hs
  rcases Qbf hK hb with ⟨rfl, _⟩ | ⟨rfl, _⟩ | ⟨rfl, _⟩ | ⟨m, hm, rfl, _⟩ <;> omega
 ·have := congrArg List.length e
  simp only [List.length_map, List.length_nil] at this
  omega
 ·obtain ⟨u, _, rfl⟩ := List.mem_map.1 hr
  simp only [Qcg, List.mem_cons, List.not_mem_nil, or_false] at hd
  rcases hd with rfl | rfl | rfl <;> rfl
 ·by_cases e : 500000 = j
  ·subst e; rfl
  ·rw [Qn, if_neg e, Qn, if_neg e]; rw [Qn (k := 500000), if_neg e]
def QiD (us : List UR) (i : Nat) : Nat := match us[i]? with
 | some u => u.cs.length
 | none => 0
theorem Qax {us : List UR} {i : Nat} (h : i < us.length) : QiD us i = us[i].cs.length := by rw [QiD, List.getElem?_eq_getElem h]
theorem Qam (us : List UR) (i k : Nat) (z : CR) : QiD (Qb7 us i k z) i = QiD us i := by
 by_cases h : i < us.length
 ·rw [Qax h, Qax (by rw [Zq]; exact h), QaA h, if_pos rfl]
  simp [QdR]
 ·have e : (Qb7 us i k z).length = us.length := Zq ..
  rw [QiD, QiD, List.getElem?_eq_none (show us.length <= i by omega), List.getElem?_eq_none (show (Qb7 us i k z).length <= i by omega)]
theorem Qig {us : List UR} {i k : Nat} {z : CR} (hi : i < us.length) (hk : k < us[i].cs.length) {us2 : List UR} (e : us2 = Qb7 us i k z) (hi2 : i < us2.length) (hk2 : k < us2[i].cs.length) : us2[i].cs[k] = z := by
 subst e
 have e1 := QaA (i := i) (k := k) (z := z) hi
 rw [if_pos rfl] at e1
 have e2 : (Qb7 us i k z)[i].cs[k] = (QdR us[i] k z).cs[k]'(by simpa [QdR] using hk) := by congr 1; rw [e1]
 rw [e2]; simp [QdR]
theorem Qn2 {cs : List CR} {k : Nat} {z : CR} (hk : k < cs.length) (hz : cs[k] = z) : (cs.map dCR)[((k : Nat) : Int).toNat]? = some (dCR z) := by rw [Qp3 hk, hz]
theorem Qnz {cs : List CR} {k : Nat} {row : List D} (hk : k < cs.length) : ((cs.map dCR).set ((k : Nat) : Int).toNat row)[((k : Nat) : Int).toNat]? = some row := by
 rw [Int.toNat_natCast, List.getElem?_set_self (by simpa using hk)]
theorem QhR {K k e t : Nat} {L : List (List D)} {r1 r2 : List D} {p : Bool} {H : List (Nat × Box)} : lk ((K, (⟨(L.set k r1).set k r2, e, t, p⟩ : Box)) :: H) K = some ⟨L.set k r2, e, t, p⟩ := by rw [Qx, List.set_set]
theorem Qei {H : List (Nat × Box)} {kk m e t : Nat} {ys : List (List D)} {v : Vr} {sh : Int} (h : lk H kk = some ⟨ys, e, t, true⟩) (hm : m = ys.length) : ([D.int .i64 v.a, .int .i64 v.b, .int .i64 v.c, .str v.p, .str v.q, .int .i64 sh, .osl kk m, .fsl []].map (D.fzS H (· == kk))).map D.canS = [.int .i64 v.a, .int .i64 v.b, .int .i64 v.c, .str v.p, .str v.q, .int .i64 sh, .sl ys, .sl []] := by
 simp only [List.map_cons, List.map_nil, D.fzS, beq_self_eq_true, if_true, h, hm, and_self, D.canS]
theorem Qk8 {H : List (Nat × Box)} {kk m e t : Nat} {ys : List (List D)} {v : Vr} {sh : Int} {ns : List (List WantT)} (h : lk H kk = some ⟨ys, e, t, true⟩) (hm : m = ys.length) : ([D.int .i64 v.a, .int .i64 v.b, .int .i64 v.c, .str v.p, .str v.q, .int .i64 sh, QS ns, .osl kk m].map (D.fzS H (· == kk))).map D.canS = [.int .i64 v.a, .int .i64 v.b, .int .i64 v.c, .str v.p, .str v.q, .int .i64 sh, QS ns, .sl ys] := by
 simp only [QS, List.map_cons, List.map_nil, D.fzS, beq_self_eq_true, if_true, h, hm, and_self, D.canS]
theorem QpG {us : List UR} {eu ec eg : Nat} {L : List Int} {J J2 : Int} {b4 : Box} (k : Nat) : lk ((12, gB L J2 eg) :: wA us eu ec eg L J b4) k = lk (wA us eu ec eg L J2 b4) k := by
 show lk ((12, _) :: (500000, _) :: (12, _) :: (4, _) :: fbx ec us) k = lk ((500000, _) :: (12, _) :: (4, _) :: fbx ec us) k
 by_cases e : 12 = k
 ·subst e; rfl
 ·rw [Qn, if_neg e, Qn, Qn (k := 500000)]
  split
  ·rfl
  ·rw [Qn, if_neg e, Qn (k := 12), if_neg e]
theorem QiW {cs : List CR} {k e t : Nat} {row : List D} (h : ∀ z ∈ cs, PureC z) (hr : ∀ d ∈ row, ∀ j ∈ d.sid, j = 64) : ∀ j ∈ Box.ids ⟨(cs.map dCR).set k row, e, t, false⟩, j = 64 := fun j hj => by
 simp only [Box.ids, Bool.false_eq_true, if_false, List.mem_flatMap] at hj
 obtain ⟨r, hrm, d, hd, hj⟩ := hj
 rcases QdK hrm with rfl | hrm
 ·exact hr d hd j hj
 ·obtain ⟨z, hz, rfl⟩ := List.mem_map.1 hrm
  rw [(h z hz).all d hd] at hj; cases hj
theorem QqF {us : List UR} {eu ec eg : Nat} {L : List Int} {J : Int} {b4 b64 : Box} {n i k : Nat} (h : Prog n us i k) (hi : i < us.length) (hk : k < us[i].cs.length) {zx : CR} (hv : Qfv zx.v) (hrow : zx.x.sid = [] /\ zx.y.sid = [64] /\ zx.z.sid = []) (hb4 : b4.pr = true) (h64 : b64.pr = true) :
  Fam ((500001 + i, ⟨(us[i].cs.map dCR).set k (dCR zx), 8, ec, false⟩) :: (64, b64) :: wA us eu ec eg L J b4) 12 500000 eu ec (Qb7 us i k zx) /\ Closed ((500001 + i, ⟨(us[i].cs.map dCR).set k (dCR zx), 8, ec, false⟩) :: (64, b64) :: wA us eu ec eg L J b4) := by
 refine ⟨⟨by decide, ⟨false, ?_⟩, fun y hy => ?_, fun y hy => ?_⟩, ?_⟩
 ·rw [Qn, if_neg (by omega), Qn, if_neg (by decide), Qex, QjV]
 ·obtain ⟨j, hj, rfl⟩ := List.getElem_of_mem hy
  have hK' := Qds (i := i) (k := k) (z := zx) h.keys
  have hj' := hj
  rw [Zq] at hj'
  refine ⟨by rw [hK' j hj]; omega, ?_⟩
  rw [hK' j hj]
  by_cases e : i = j
  ·subst e
   refine ⟨false, ?_⟩
   rw [Qx, QaA hj', if_pos rfl, QdR, List.map_set]
  ·refine ⟨true, ?_⟩
   rw [Qn, if_neg (by omega), Qn, if_neg (by omega), QcO h.keys hj', QaA hj', if_neg e]
 ·obtain ⟨j, hj, rfl⟩ := List.getElem_of_mem hy
  have hj' := hj
  rw [Zq] at hj'
  rw [QaA hj']
  have hfam := h.fam us[j] (List.getElem_mem _)
  split
  ·refine ⟨by simpa [QdR] using hfam.1, fun z hz => ?_⟩
   rcases QdK hz with rfl | hz
   ·exact hv
   ·exact hfam.2 z hz
  ·exact hfam
 ·refine ((Qac h.keys hb4).pr h64).cons fun j hj => ?_
  have := QiW (e := 8) (t := ec) (k := k) (row := dCR zx) (fun z hz => (h.pure hi z hz).1) (fun d hd j hj => by
   simp only [dCR, List.mem_cons, List.not_mem_nil, or_false] at hd
   rcases hd with rfl | rfl | rfl | rfl | rfl | rfl | rfl | rfl
   ·cases hj
   ·cases hj
   ·cases hj
   ·cases hj
   ·cases hj
   ·rw [hrow.1] at hj; cases hj
   ·rw [hrow.2.1] at hj; simpa using hj
   ·rw [hrow.2.2] at hj; cases hj) j hj
  subst this; exact QU
theorem Prog.start {us : List UR} (h : UnitsIn us) (h2 : 2 <= us.length) (h11 : us.length <= 11) : Prog us.length us 0 0 := by
 refine ⟨h.keys, ⟨rfl, h2, h11⟩, fun u hu => (h.fresh u hu).1, fun j hj m hm hd => by omega, fun j hj m hm _ => ?_⟩
 obtain ⟨v, sh, e, hv⟩ := (h.fresh _ (List.getElem_mem hj)).2 _ (List.getElem_mem hm)
 exact ⟨v, sh, e, hv⟩
theorem QdE {n : Nat} {m : Int} {v : Vr} {sh : Int} {ns : List (List WantT)} (hv : Qfv v) (h : QeB n m ns) (hm : m <= 3) : Qaf n ⟨v, sh, ns, []⟩ :=
 ⟨hv, by show ns.length <= 10; have := h.1; omega, fun r hr => ⟨(h.2 r hr).1, fun x hx => ((h.2 r hr).2 x hx).w⟩, Nat.zero_le _, fun x hx => by cases hx⟩
theorem Qhz {n i : Nat} {m : Int} {v : Vr} {sh : Int} {ns : List (List WantT)} (hv : Qfv v) (h : QeB n m ns) (hm : m <= 3) (h1 : 1 <= i) (hi : i < n) : Qaf n ⟨v, sh, [⟨(i : Int) - 1, YZ v.a v.b v.c v.p v.q⟩] :: ns, []⟩ := by
 refine ⟨hv, by show (_ :: ns).length <= 10; have := h.1; simp only [List.length_cons]; omega, fun r hr => ?_, Nat.zero_le _, fun x hx => by cases hx⟩
 rcases List.mem_cons.1 hr with rfl | hr
 ·refine ⟨by simp, fun x hx => ?_⟩
  simp only [List.mem_singleton] at hx; subst hx
  have := QaY (a := v.a) (b := v.b) (c := v.c) (q := v.q) hv.1
  exact ⟨by show 0 <= (i : Int) - 1; omega, by show (i : Int) - 1 < n; omega, this.1.up (by omega), this.2.up (by omega)⟩
 ·exact ⟨(h.2 r hr).1, fun x hx => ((h.2 r hr).2 x hx).w⟩
theorem Qhy {n : Nat} {v : Vr} {sh : Int} {ns : List (List WantT)} (h : Qaf n ⟨v, sh, ns, []⟩) {x : WantT} (hx : WantIn n x) : Qaf n ⟨v, sh, ns, [x]⟩ := ⟨h.v, h.nl, h.nr, by simp, by intro y hy; simp only [List.mem_singleton] at hy; subst hy; exact hx.w⟩
theorem Qih {us : List UR} {i k : Nat} {z : CR} (hi : i < us.length) (hk : k < us[i].cs.length) {us2 : List UR} (e : Qb7 us i k z = us2) (hi2 : i < us2.length) : k < us2[i].cs.length := by
 rw [<- Qax hi2, <- e, Qam, Qax hi]; exact hk
theorem Qnw {l : List (List WantT)} : ∀ r ∈ l.map (fun r => [Q3 r]), r.length = 1 := fun r hr => by obtain ⟨x, _, rfl⟩ := List.mem_map.1 hr; rfl
end M25
namespace M25
open Go Go.Abs M3
/-! ### Trails that may be -/
end M25
namespace M25
open Go Go.Abs M3
/-! ### What every program says -/
/-! ### A world's facts, and more -/
end M25
namespace M25
open Go Go.Abs M3
/-! ### Powers of two -/
/-! ### Steps that may be: the program's -/
/-! ### Deciding -/
end M25
namespace M25
open Go Go.Abs M3
/-! ### Back, Sure, When -/
/-! ### What valid trails are -/
/-! ### Levels -/
end M25
namespace M25
open Go Go.Abs M3
/-! ### The first row of lefts -/
end M25
namespace M25
open Go Go.Abs M3
/-! ### When, Qhb by Qhb -/
/-! ### The QfJ world -/
end M25
namespace M25
open Go Go.Abs M3
/-! ### What a run is: steps, one open after the other -/
inductive Qkx (w : QR) (db : List (List TermT)) : List QaS -> List QaS -> Prop
 | nil (l : List QaS) : Qkx w db l l
 | cons {l x : List QaS} (a k : Nat) (ho : QoQ w db l a k) (h : Qkx w db (l ++ [QqE w l ((db[a]'ho.ha)[k]'ho.hk) a]) x) : Qkx w db l x
section
variable {w : QR} {db : List (List TermT)}
def Below (w : QR) (b l : List QaS) : Prop := ∀ u i, tb (QfF w b u) i = true -> tb (QfF w l u) i = true
theorem Below.refl (l : List QaS) : Below w l l := fun _ _ h => h
/-! ### Sound: a choice stays -/
end
end M25
namespace M25
open Go Go.Abs M3
end M25
namespace M25
open Go Go.Abs M3
/-! ### More of runs -/
end M25
namespace M25
open Go Go.Abs M3
/-! ### The facts in another order -/
end M25
namespace M25
open Go Go.Abs M3
/-! ### How long a run is -/
structure Good (w : QR) (l : List QaS) : Prop where
 p : QoR w l
 nz : ∀ u, inW w u = true -> QfF w l u ≠ 0
 le : ∀ u i, tb (QfF w l u) i = true -> tb (ZJ w u) i = true
end M25
namespace M25
open Go Go.Abs M3
/-! ### Masks are of values that there are -/
/-! ### Each Qhb of a run -/
end M25
namespace M25
open Go Go.Abs M3
end M25
namespace M25
open Go Go.Abs M3
/-! ### Derive again -/
/-! ### Sure, and what holds -/
end M25
namespace M25
open Go Go.Abs M3
/-! ### The choice that a trail has decided -/
end M25
namespace Go.Proofs
open Go Go.Abs M3 M25
set_option linter.unusedVariables false
set_option linter.unusedSimpArgs false
end Go.Proofs
namespace Go.Proofs
open Go Go.Abs M3 M25
set_option linter.unusedVariables false
set_option linter.unusedSimpArgs false
theorem QbN {s : St} {args : List Opd} {kg : Nat} {L : List Int} {I n : Int} {et : Nat} (ha : Zu s args = some [.ref kg 0 0, .int .i64 n]) (hg : lk s.H kg = some (gB L I et)) (hL : ∀ x ∈ L, I64 x) (hn : n <= 9223372036854775807) : Qbl Tryd.prog 37 args s [(kg, gB L I et)] [] [(kg, gB L (nxI I) et)] (.int .i64 (nx L I n)) := by
 refine Qjf (b' := gB L (nxI I) et) (ds' := [.ref (upN kg) 0 0, .int .i64 n]) ha (fun j x h => ?_) (fun k b hk j hj => ?_) (fun x hx j hj => ?_) ?_ Z Z Z Z ?_
 ·obtain ⟨rfl, rfl⟩ := XP h; exact hg
 ·obtain ⟨rfl, rfl⟩ := XP hk; simp [Box.ids, gB] at hj
 ·simp only [List.mem_cons, List.not_mem_nil, or_false] at hx
  rcases hx with rfl | rfl
  ·simp [D.ids, D.sid] at hj; subst hj; rw [Qx]; rfl
  ·simp [D.ids, D.sid] at hj
 ·rw [Qx]; rfl
 ·exact XE (by unfold upN; omega) hL hn et
theorem QcX {H : List (Nat × Box)} {kg kc : Nat} {L : List Int} {I : Int} {eg ec : Nat} {pr : Bool} {zs : List CR} (hkg : 1000000 <= kg) (hg : lk H kg = some (gB L I eg)) (hc : lk H kc = some ⟨zs.map dCR, 8, ec, pr⟩) (hne : kg ≠ kc) (hB : Big H) (hC : Closed H) (hL : ∀ x ∈ L, I64 x) (hz : ∀ z ∈ zs, Qfv z.v) (hn : zs.length <= 16) : ∃ d H2, (∃ s I2, SetOk s /\ d = Qfw s /\ H2 = (kg, gB L I2 eg) :: H) /\ OkH Tryd.prog 58 [.ref kg 0 0, .osl kc zs.length] H d H2 := by
 have hkc := hB _ _ hc
 refine OkH.ofX (R := fun d H2 => ∃ s I2, SetOk s /\ d = Qfw s /\ H2 = (kg, gB L I2 eg) :: H) Z5 Tryd.func58 Qrm (Nat.le_of_ble_eq_true Z) ?_
 show TX _ _ tf58.body _ _
 refine Ze fun K hK => ?_
 refine ZG (by repeat (first | exact hB.none (by decide) | refine Zp (by first | decide | omega) ?_)) ?_
 refine hK _ _ (QV (kp3 Z Z Z) ?_)
 refine Ze fun K hK => Qb Z (Yz (QbN (I := I) Z (Ql (by omega) hg) hL (by omega)) (Qb Z (hK _ _ (QV (kp4 Z Z Z Z) ?_))))
 refine Ze fun K hK => Qz (Z1) Z Z (.inl Z) ?_
 refine ZG (by repeat (first | exact hB.none (by decide) | refine Zp (by first | decide | omega) ?_)) ?_
 refine QZ Z Z Z Z Z Z Z Z (hK _ _ (QV (kp5 Z Z Z Z Z) ?_))
 refine Qad ?_ -- 0
 refine Ze fun K hK => Qb Z (hK _ _ (QV (kp6 Z Z Z Z Z Z) ?_))
 refine Y6 ?_
 refine QeF (ι := Nat × QeE) (fun ⟨i, s⟩ => ⟨[(0, .ref kg 0 0), (1, .osl kc zs.length), (4, .ref 4 0 0), (5, .int .i64 (nx L I 8)), (6, .ref 6 0 0), (7, .int .i64 i)], [(4, ⟨[[.fsl [], .fsl []]], 2, 30, true⟩), (6, ⟨[[Zg s.1, Zg s.2]], 2, 30, true⟩), (kg, gB L (nxI I) eg)] ++ H⟩) (fun ⟨i, s⟩ => i <= zs.length /\ Qj7 (bnd i - 4) s) (fun ⟨i, s⟩ => zs.length - i) (0, ([], [])) ?_ ?_ ?_
 ·exact Qe7 (l := [0, 1, 4, 5, 6, 7]) (B := [_, _, _, _]) (kp6 rfl rfl rfl rfl rfl rfl) rfl (by intro p hp; simp only [List.mem_cons, List.not_mem_nil, or_false] at hp; rcases hp with rfl | rfl | rfl <;> exact ⟨by repeat (first | exact Qx | refine Ql (by first | decide | omega) ?_), rfl⟩) rfl (by intro p hp h; simp only [List.mem_cons, List.not_mem_nil, or_false] at hp; rcases hp with rfl | rfl | rfl | rfl <;> first | (simp only at h; omega) | (repeat (first | exact QU | refine QT ?_))) hB hC (by intro p hp k hk; simp only [List.mem_cons, List.not_mem_nil, or_false] at hp; rcases hp with rfl | rfl | rfl | rfl | rfl | rfl <;> first | (simp [D.ids, D.sid, Q3, QS, ZO] at hk; done) | (simp [D.ids, D.sid, Q3, QS, ZO] at hk; subst hk; repeat (first | exact QU | exact Zn hg | exact Zn hc | refine QT ?_)))
 ·exact ⟨Nat.zero_le _, SmN.nil _, SmN.nil _⟩
 intro ⟨i, s⟩ hI
 try dsimp only at hI
 have hb16 := Qnf (i := i) (by omega)
 try dsimp only
 refine Qad ?_ -- 1
 refine Ze fun K hK => Qb Z (Qb Z ?_)
 first | refine ZC rfl Yd ?_ | refine ZC rfl rfl ?_
 refine YI Z Z (hK _ _ (QV (kp7 Z Z Z Z Z Z Z) ?_))
 refine Xo Z (fun h1 => ?_) (fun h1 => ?_)
 ·try rw [h1]
  try simp only [qA] at h1
  refine XC (Q6 (kp6 Z Z Z Z Z Z) ?_)
  refine Qad ?_ -- 2
  refine Y6 (Ze fun K hK => Qb Z (Qb Z (Qhk Z (Qj1 (by omega) (by omega)) (QoY Z Z (by omega) (Qhj Z Z (YH Z Z (hK _ _ (QV (kp7 Z Z Z Z Z Z Z) ?_))))))))
  refine Xo Z (fun h2 => ?_) (fun h2 => ?_)
  ·try rw [h2]
   try simp only [qA] at h2
   have hvp := (hz _ (List.getElem_mem (show i < zs.length by omega))).1
   refine ZW fun K hK => QL (ds0 := [1, 0]) (cs := [_, _]) Z Z Z Z (by simp [Dr.ok, QbA]) Z (Qb Z (Qb Z (QcP (ds0 := [4, 3, 2, 1, 0]) Z Z (Ql (by omega) (Ql (by omega) (Ql (by omega) hc))) (by simp) (by omega) (by omega) Z (by simp [Dr.ok, QbA]) Z (Qh Z (Zn (Ql (by omega) (Ql (by omega) (Ql (by omega) hc)))) (QL (ds0 := [2, 1, 0]) (cs := [_, _, _, _, _]) Z (Yg (Ql (by omega) (Ql (by omega) (Ql (by omega) hc))) (ZT (by omega))) Z Z (by simp [Dr.ok, QbA]) Z (Q0 (ds0 := [1, 0]) (YW (hz _ (List.getElem_mem (by omega))).1 (hz _ (List.getElem_mem (by omega))).2) Z Z (.inl Z) (by simp [Dr.ok, QbA]) Z (Q0 (ds0 := [0]) (QdA (a := s) (b := (YZ (zs[i]'(by omega)).v.a (zs[i]'(by omega)).v.b (zs[i]'(by omega)).v.c (zs[i]'(by omega)).v.p (zs[i]'(by omega)).v.q)) (hI.2.1.sm (by omega)) (hI.2.2.sm (by omega)) ((QaY hvp).1.sm (by omega)) ((QaY hvp).2.sm (by omega)) (by have := hI.2.1.1; have := (QaY (a := (zs[i]'(by omega)).v.a) (b := (zs[i]'(by omega)).v.b) (c := (zs[i]'(by omega)).v.c) (q := (zs[i]'(by omega)).v.q) hvp).1.1; omega) (by have := hI.2.2.1; have := (QaY (a := (zs[i]'(by omega)).v.a) (b := (zs[i]'(by omega)).v.b) (c := (zs[i]'(by omega)).v.c) (q := (zs[i]'(by omega)).v.q) hvp).2.1; omega)) Z Z (.inl Z) (by simp [Dr.ok, QbA]) Z (Xd (ds0 := []) Z Z Z Z Z Z Z Z (by simp [Dr.ok, QbA]) Z (hK _ ?_)))))))))
   refine Qk (Q6 (kp6 Z Z Z Z Z Z) (ZW fun K hK => Qb Z (Zh Z Z (by first | exact Qt (by omega) (by omega) | rfl) (Qb Z (hK _ ?_)))))
   refine Qp (i + 1, Qnq s (YZ (zs[i]'(by omega)).v.a (zs[i]'(by omega)).v.b (zs[i]'(by omega)).v.c (zs[i]'(by omega)).v.p (zs[i]'(by omega)).v.q)) ?_ ?_ ?_
   ·exact Qe7 (l := [0, 1, 4, 5, 6, 7]) (B := [_, _, _, _]) (kp6 rfl rfl rfl rfl rfl rfl) rfl (by intro p hp; simp only [List.mem_cons, List.not_mem_nil, or_false] at hp; rcases hp with rfl | rfl | rfl <;> exact ⟨by repeat (first | exact Qx | refine Ql (by first | decide | omega) ?_), rfl⟩) rfl (by intro p hp h; simp only [List.mem_cons, List.not_mem_nil, or_false] at hp; rcases hp with rfl | rfl | rfl | rfl <;> first | (simp only at h; omega) | (repeat (first | exact QU | refine QT ?_))) hB hC (by intro p hp k hk; simp only [List.mem_cons, List.not_mem_nil, or_false] at hp; rcases hp with rfl | rfl | rfl | rfl | rfl | rfl <;> first | (simp [D.ids, D.sid, Q3, QS, ZO] at hk; done) | (simp [D.ids, D.sid, Q3, QS, ZO] at hk; subst hk; repeat (first | exact QU | exact Zn hg | exact Zn hc | refine QT ?_)))
   ·exact ⟨by show i + 1 <= _; omega, Qpy hI.2 (hz _ (List.getElem_mem (by omega))).1 (by omega)⟩
   ·show zs.length - (i + 1) < zs.length - i; omega
  ·try rw [h2]
   try simp only [qA] at h2
   have hvp := (hz _ (List.getElem_mem (show i < zs.length by omega))).1
   refine XC (Qk (Q6 (kp6 Z Z Z Z Z Z) (ZW fun K hK => Qb Z (Zh Z Z (by first | exact Qt (by omega) (by omega) | rfl) (Qb Z (hK _ ?_))))))
   refine Qp (i + 1, s) ?_ ?_ ?_
   ·exact Qe7 (l := [0, 1, 4, 5, 6, 7]) (B := [_, _, _]) (kp6 rfl rfl rfl rfl rfl rfl) rfl (by intro p hp; simp only [List.mem_cons, List.not_mem_nil, or_false] at hp; rcases hp with rfl | rfl | rfl <;> exact ⟨by repeat (first | exact Qx | refine Ql (by first | decide | omega) ?_), rfl⟩) rfl (by intro p hp h; simp only [List.mem_cons, List.not_mem_nil, or_false] at hp; rcases hp with rfl | rfl | rfl <;> first | (simp only at h; omega) | (repeat (first | exact QU | refine QT ?_))) hB hC (by intro p hp k hk; simp only [List.mem_cons, List.not_mem_nil, or_false] at hp; rcases hp with rfl | rfl | rfl | rfl | rfl | rfl <;> first | (simp [D.ids, D.sid, Q3, QS, ZO] at hk; done) | (simp [D.ids, D.sid, Q3, QS, ZO] at hk; subst hk; repeat (first | exact QU | exact Zn hg | exact Zn hc | refine QT ?_)))
   ·exact ⟨by show i + 1 <= _; omega, QmZ hI.2⟩
   ·show zs.length - (i + 1) < zs.length - i; omega
 ·try rw [h1]
  try simp only [qA] at h1
  refine QdU (XH (QD (QJ (Q6 (kp3 Z Z Z) ?_))))
  refine Qad ?_ -- 3
  refine Ze fun K hK => Qb Z (Yz (QbN (I := nxI I) Z (Ql (by omega) (Ql (by omega) Qx)) hL (by omega)) (hK _ _ (QV (kp3 Z Z Z) ?_)))
  refine Y6 (Ze fun K hK => YH Z Z (Qb Z (hK _ _ (QV (kp4 Z Z Z Z) ?_))))
  refine Xo Z (fun h3 => ?_) (fun h3 => ?_)
  ·try rw [h3]
   try simp only [qA] at h3
   refine Ze fun K hK => Qz (Qc0) Z Z (.inl Z) (QZ Z (Ql (by omega) Z) Z Z Z Z Z Z (hK _ _ (QV (kp1 Z) ?_)))
   refine Qho (Qw (QjU ?_))
   refine ⟨Qfw QkB, (kg, gB L (nxI (nxI I)) eg) :: H, ⟨QkB, _, ⟨Qnc.1.up (by omega), Qnc.2.up (by omega)⟩, rfl, rfl⟩, (XA hB hC hkg rfl).1, (XA hB hC hkg rfl).2, ?_⟩
   refine Qb4 (cs := [Zg QkB.1, Zg QkB.2]) Z (Yg (by repeat (first | exact Qx | refine Ql (by first | decide | omega) ?_)) Z) Z Z Z ?_
   exact Qan (B := [_, _, _, _, _]) hB (by repeat (first | exact Qx | refine Ql (by first | decide | omega) ?_)) (by intro p hp h; simp only [List.mem_cons, List.not_mem_nil, or_false] at hp; rcases hp with rfl | rfl | rfl | rfl | rfl <;> first | rfl | (simp only at h; omega))
  ·try rw [h3]
   try simp only [qA] at h3
   refine Ze fun K hK => YH Z Z (Qb Z (hK _ _ (QV (kp3 Z Z Z) ?_)))
   refine Xo Z (fun h4 => ?_) (fun h4 => ?_)
   ·try rw [h4]
    try simp only [qA] at h4
    refine Ze fun K hK => QF (cs := [_, _]) Z (Yg (Ql (by omega) Z) Z) Z Z (Qz (Qc1 (a := s) (hI.2.1.sm (by omega)) (hI.2.2.sm (by omega))) Z Z (.inl Z) (QZ Z (Ql (by omega) Z) Z Z Z Z Z Z (hK _ _ (QV (kp1 Z) ?_))))
    refine Qho (Qw (QjU ?_))
    refine ⟨Qfw (QgQ s), (kg, gB L (nxI (nxI I)) eg) :: H, ⟨(QgQ s), _, ⟨(Qlz hI.2 (by omega)).1.up (by omega), (Qlz hI.2 (by omega)).2.up (by omega)⟩, rfl, rfl⟩, (XA hB hC hkg rfl).1, (XA hB hC hkg rfl).2, ?_⟩
    refine Qb4 (cs := [Zg (QgQ s).1, Zg (QgQ s).2]) Z (Yg (by repeat (first | exact Qx | refine Ql (by first | decide | omega) ?_)) Z) Z Z Z ?_
    exact Qan (B := [_, _, _, _, _]) hB (by repeat (first | exact Qx | refine Ql (by first | decide | omega) ?_)) (by intro p hp h; simp only [List.mem_cons, List.not_mem_nil, or_false] at hp; rcases hp with rfl | rfl | rfl | rfl | rfl <;> first | rfl | (simp only at h; omega))
   ·try rw [h4]
    try simp only [qA] at h4
    refine XC (Qk (Q6 (kp2 Z Z) (Ze fun K hK => QF (cs := [_, _]) Z (Yg (Ql (by omega) Z) Z) Z Z (QZ Z (Ql (by omega) Z) Z Z Z Z Z Z (hK _ _ (QV (kp1 Z) ?_))))))
    refine Qho ?_
    refine ⟨Qfw s, (kg, gB L (nxI (nxI I)) eg) :: H, ⟨s, _, ⟨hI.2.1.up (by omega), hI.2.2.up (by omega)⟩, rfl, rfl⟩, (XA hB hC hkg rfl).1, (XA hB hC hkg rfl).2, ?_⟩
    refine Qb4 (cs := [Zg s.1, Zg s.2]) Z (Yg (by repeat (first | exact Qx | refine Ql (by first | decide | omega) ?_)) Z) Z Z Z ?_
    exact Qan (B := [_, _, _, _, _]) hB (by repeat (first | exact Qx | refine Ql (by first | decide | omega) ?_)) (by intro p hp h; simp only [List.mem_cons, List.not_mem_nil, or_false] at hp; rcases hp with rfl | rfl | rfl | rfl | rfl <;> first | rfl | (simp only at h; omega))
end Go.Proofs
namespace Go.Proofs
open Go Go.Abs M3 M25
set_option linter.unusedVariables false
set_option linter.unusedSimpArgs false
/-- The call of 'set', over boxes that are lent. -/
theorem Qqb {H : List (Nat × Box)} {kg kc : Nat} {L : List Int} {I : Int} {eg ec : Nat} {pr : Bool} {zs : List CR} (hg : lk H kg = some (gB L I eg)) (hc : lk H kc = some ⟨zs.map dCR, 8, ec, pr⟩) (hne : kg ≠ kc) (hC : Closed H) (hL : ∀ x ∈ L, I64 x) (hz : ∀ z ∈ zs, Qfv z.v) (hn : zs.length <= 16) :
  ∃ s I2, SetOk s /\ ∀ (st : St) (args : List Opd), Zu st args = some [.ref kg 0 0, .osl kc zs.length] -> (∀ j x, lk H j = some x -> lk st.H j = some x) -> Qbl Tryd.prog 58 args st H [] [(kg, gB L I2 eg)] (Qfw s) := by
 obtain ⟨d, H2, ⟨s, I2, hs, rfl, rfl⟩, hok⟩ := QcX (H := upH H) (kg := upN kg) (kc := upN kc) (L := L) (I := I) (eg := eg) (ec := ec) (pr := pr) (zs := zs.map CR.ren) (by unfold upN; omega) (by rw [Qao, hg]; rfl) (by rw [Qao, hc, Option.map_some, Box.ren, QkQ]) (fun e => hne (Qi4 e)) Qi3 (QdS hC) hL
  (fun z hz' => by obtain ⟨z0, h0, rfl⟩ := List.mem_map.1 hz'; exact hz z0 h0) (by simpa using hn)
 refine ⟨s, I2, hs, fun st args ha hF => Qjf (b' := gB L I2 eg) (ds' := [.ref (upN kg) 0 0, .osl (upN kc) zs.length]) ha hF hC (fun x hx j hj => ?_) (Zn hg) Z Z Z Z ?_⟩
 ·simp only [List.mem_cons, List.not_mem_nil, or_false] at hx
  rcases hx with rfl | rfl
  ·simp [D.ids, D.sid] at hj; subst hj; exact Zn hg
  ·simp [D.ids, D.sid] at hj; subst hj; exact Zn hc
 ·rw [List.length_map] at hok; exact hok
theorem Qcv {H : List (Nat × Box)} {kg ku : Nat} {L : List Int} {I : Int} {eg eu ec : Nat} {us : List UR} (hkg : 1000000 <= kg) (hg : lk H kg = some (gB L I eg)) (hU : Fam H kg ku eu ec us) (hB : Big H) (hC : Closed H) (hL : ∀ x ∈ L, I64 x) (h2n : 2 <= us.length) (hn : us.length <= 48) : ∃ d H2, (∃ x I2, WantIn us.length x /\ d = .agg (Qea x) /\ H2 = (kg, gB L I2 eg) :: H) /\ OkH Tryd.prog 38 [.ref kg 0 0, .osl ku us.length] H d H2 := by
 obtain ⟨pu, hu⟩ := hU.u
 have hku := hB _ _ hu
 have hne := hU.ne
 have hx0 := QhZ (v := Ql7 L (IntKind.i64.wrap (nxI I - 1))) (n := (us.length : Int) - 1)
 have hx1 := QhY (v := Ql7 L (IntKind.i64.wrap (nxI I - 1))) (n := (us.length : Int) - 1) (by omega)
 change 0 <= nx L I ((us.length : Int) - 1) at hx0
 change nx L I ((us.length : Int) - 1) < _ at hx1
 obtain ⟨hyk, pr, hy⟩ := hU.c (us[(1 + nx L I ((us.length : Int) - 1)).toNat]'(by omega)) (List.getElem_mem _)
 obtain ⟨hv1, hv2⟩ := hU.v (us[(1 + nx L I ((us.length : Int) - 1)).toNat]'(by omega)) (List.getElem_mem _)
 obtain ⟨s, I2, hs, hcall⟩ := Qqb (H := (kg, gB L (nxI I) eg) :: H) Qx (Ql (Ne.symm hyk) hy) (Ne.symm hyk) (hC.pr rfl) hL hv2 hv1
 refine OkH.ofX (R := fun d H2 => ∃ x I2, WantIn us.length x /\ d = .agg (Qea x) /\ H2 = (kg, gB L I2 eg) :: H) Z5 Tryd.func38 Qq4 (Nat.le_of_ble_eq_true Z) ?_
 show TX _ _ tf38.body _ _
 refine Ze fun K hK => ?_
 refine ZG (by repeat (first | exact hB.none (by decide) | refine Zp (by first | decide | omega) ?_)) ?_
 refine hK _ _ (QV (kp3 Z Z Z) ?_)
 refine Ze fun K hK => Qb Z (Qb Z ?_)
 first | refine ZC rfl Yd ?_ | refine ZC rfl rfl ?_
 refine Qct Z Z (by first | exact Qt (by omega) (by omega) | rfl) (Yz (QbN (I := I) Z (Ql (by omega) hg) hL (by omega)) (Zh Z Z (by first | exact Qt (by omega) (by omega) | rfl) (Qb Z (hK _ _ (QV (kp4 Z Z Z Z) ?_)))))
 refine Ze fun K hK => Qb rfl (Qb rfl (Qb rfl (Qb rfl (QaR rfl rfl (Ql (by omega) (Ql (by omega) hu)) (by simp) (by omega) (by omega) rfl (Qh rfl (Zn (Ql (by omega) (Ql (by omega) hu))) (QE rfl (Yg (Ql (by omega) (Ql (by omega) hu)) (Yv (by omega) (by omega))) rfl (Yz (hcall _ _ rfl (Qan (B := [_, _]) hB Qx (by intro p hp h; simp only [List.mem_cons, List.not_mem_nil, or_false] at hp; rcases hp with rfl | rfl <;> first | rfl | (simp only at h; omega)))) (QY rfl rfl (QZ rfl (Ql (by omega) (Ql (by omega) rfl)) rfl rfl rfl rfl rfl rfl (hK _ _ (QV (kp1 rfl) ?_)))))))))))
 refine Qho ?_
 refine ⟨.agg (Qea ⟨1 + nx L I ((us.length : Int) - 1), s⟩), (kg, gB L I2 eg) :: H, ⟨⟨1 + nx L I ((us.length : Int) - 1), s⟩, _, ⟨by show 1 <= 1 + _; omega, by show 1 + _ < (us.length : Int); omega, hs⟩, rfl, rfl⟩, (XA hB hC hkg rfl).1, (XA hB hC hkg rfl).2, ?_⟩
 refine Qb4 (cs := Qea ⟨1 + nx L I ((us.length : Int) - 1), s⟩) Z (Yg (by repeat (first | exact Qx | refine Ql (by first | decide | omega) ?_)) Z) Z Z Z ?_
 exact Qan (B := [_, _, _, _]) hB (by repeat (first | exact Qx | refine Ql (by first | decide | omega) ?_)) (by intro p hp h; simp only [List.mem_cons, List.not_mem_nil, or_false] at hp; rcases hp with rfl | rfl | rfl | rfl <;> first | rfl | (simp only at h; omega))
/-- The call of 'want'. -/
theorem QjN {H : List (Nat × Box)} {kg ku : Nat} {L : List Int} {I : Int} {eg eu ec : Nat} {us : List UR} (hg : lk H kg = some (gB L I eg)) (hU : Fam H kg ku eu ec us) (hC : Closed H) (hL : ∀ x ∈ L, I64 x) (h2 : 2 <= us.length) (hn : us.length <= 48) :
  ∃ x I2, WantIn us.length x /\ ∀ (st : St) (args : List Opd), Zu st args = some [.ref kg 0 0, .osl ku us.length] -> (∀ j x, lk H j = some x -> lk st.H j = some x) -> Qbl Tryd.prog 38 args st H [] [(kg, gB L I2 eg)] (.agg (Qea x)) := by
 obtain ⟨d, H2, ⟨x, I2, hx, rfl, rfl⟩, hok⟩ := Qcv (H := upH H) (kg := upN kg) (ku := upN ku) (L := L) (I := I) (eg := eg) (eu := eu) (ec := ec) (us := us.map UR.ren) (by unfold upN; omega) (by rw [Qao, hg]; rfl) hU.up Qi3 (QdS hC) hL (by simpa using h2) (by simpa using hn)
 obtain ⟨pu, hu⟩ := hU.u
 rw [List.length_map] at hx hok
 refine ⟨x, I2, hx, fun st args ha hF => Qjf (b' := gB L I2 eg) (ds' := [.ref (upN kg) 0 0, .osl (upN ku) us.length]) ha hF hC (fun x hx j hj => ?_) (Zn hg) Z Z Z Z hok⟩
 simp only [List.mem_cons, List.not_mem_nil, or_false] at hx
 rcases hx with rfl | rfl
 ·simp [D.ids, D.sid] at hj; subst hj; exact Zn hg
 ·simp [D.ids, D.sid] at hj; subst hj; exact Zn hu
end Go.Proofs
namespace Go.Proofs
open Go Go.Abs M3 M25
set_option linter.unusedVariables false
set_option linter.unusedSimpArgs false
theorem Qcb {H : List (Nat × Box)} {kg ku : Nat} {L : List Int} {I most : Int} {eg eu ec : Nat} {us : List UR} (hkg : 1000000 <= kg) (hg : lk H kg = some (gB L I eg)) (hU : Fam H kg ku eu ec us) (hB : Big H) (hC : Closed H) (hL : ∀ x ∈ L, I64 x) (h2n : 2 <= us.length) (hn : us.length <= 48) (hm0 : 0 <= most) (hm1 : most <= 10) : ∃ d H2, (∃ ns I2, QeB us.length most ns /\ d = QS ns /\ H2 = (kg, gB L I2 eg) :: H) /\ OkH Tryd.prog 35 [.ref kg 0 0, .osl ku us.length, .int .i64 most] H d H2 := by
 obtain ⟨pu, hu⟩ := hU.u
 have hku := hB _ _ hu
 have hne := hU.ne
 have hk0 : 0 <= nx L I (most + 1) := QhZ
 have hk1 : nx L I (most + 1) < most + 1 := QhY (by omega)
 refine OkH.ofX (R := fun d H2 => ∃ ns I2, QeB us.length most ns /\ d = QS ns /\ H2 = (kg, gB L I2 eg) :: H) Z5 Tryd.func35 Qq1 (Nat.le_of_ble_eq_true Z) ?_
 show TX _ _ tf35.body _ _
 refine Ze fun K hK => Qb Z (hK _ _ (QV (kp3 Z Z Z) ?_))
 refine Ze fun K hK => Qb Z (hK _ _ (QV (kp4 Z Z Z Z) ?_))
 refine Qad ?_ -- 0
 refine Ze fun K hK => Qb Z (Qb Z (Zh Z Z (by first | exact Qt (by omega) (by omega) | rfl) (Yz (QbN (I := I) Z hg hL (by omega)) (Qb Z (hK _ _ (QV (kp4 Z Z Z Z) ?_))))))
 refine Y6 ?_
 refine QeF (ι := Nat × List (List WantT) × Int) (fun ⟨k, ns, J⟩ => ⟨[(0, .ref kg 0 0), (1, .osl ku us.length), (7, .osl 7 ns.length), (8, .int .i64 k)], [(7, ⟨(ns).map (fun r => [Q3 r]), 1, 51, true⟩), (kg, gB L J eg)] ++ H⟩) (fun ⟨k, ns, J⟩ => (ns.length : Int) + k <= most /\ ∀ r ∈ ns, Qhn us.length r) (fun ⟨k, ns, J⟩ => k) ((nx L I (most + 1)).toNat, [], nxI I) ?_ ?_ ?_
 ·exact le_trans (XF 7 7 1 51 rfl (by repeat (first | exact hB.none (by decide) | refine Zp (by first | decide | omega) ?_))) (Qe7 (l := [0, 1, 7, 8]) (B := [_, _]) (kp4 rfl rfl rfl rfl) (by simp only [Int.toNat_of_nonneg hk0] <;> rfl) (by intro p hp; simp only [List.mem_cons, List.not_mem_nil, or_false] at hp; rcases hp with rfl | rfl <;> exact ⟨by repeat (first | exact Qx | refine Ql (by first | decide | omega) ?_), rfl⟩) rfl (by intro p hp h; simp only [List.mem_cons, List.not_mem_nil, or_false] at hp; rcases hp with rfl | rfl <;> first | (simp only at h; omega) | (repeat (first | exact QU | refine QT ?_))) hB hC (by intro p hp k hk; simp only [List.mem_cons, List.not_mem_nil, or_false] at hp; rcases hp with rfl | rfl | rfl | rfl <;> first | (simp [D.ids, D.sid, Q3, QS, ZO] at hk; done) | (simp [D.ids, D.sid, Q3, QS, ZO] at hk; subst hk; repeat (first | exact QU | exact Zn hg | exact Zn hu | refine QT ?_))))
 ·exact ⟨by simp only [List.length_nil]; omega, by simp⟩
 intro ⟨k, ns, J⟩ hI
 try dsimp only at hI
 try dsimp only
 refine Qad ?_ -- 1
 refine Ze fun K hK => Qb Z (Qdy Z Z (hK _ _ (QV (kp5 Z Z Z Z Z) ?_)))
 refine Xo Z (fun h1 => ?_) (fun h1 => ?_)
 ·try rw [h1]
  try simp only [qA] at h1
  refine XC (Q6 (kp4 Z Z Z Z) ?_)
  refine Qad ?_ -- 2
  refine Y6 (Ze fun K hK => Qb Z (Qb Z ?_))
  obtain ⟨x1, J1, hx1, hc1⟩ := QjN (I := J) (H := (kg, gB L (J) eg) :: H) Qx hU.cons (hC.pr rfl) hL h2n hn
  refine Yz (hc1 _ _ rfl (Qan (B := [_, _]) hB (by repeat (first | exact Qx | refine Ql (by first | decide | omega) ?_)) (by intro p hp h; simp only [List.mem_cons, List.not_mem_nil, or_false] at hp; rcases hp with rfl | rfl <;> first | rfl | (simp only at h; omega)))) ?_
  refine QM Z (by repeat (first | exact hB.none (by decide) | refine Zp (by first | decide | omega) ?_)) ?_
  refine Qb Z (hK _ _ (QV (kp5 Z Z Z Z Z) ?_))
  refine Qo2 (ι := List WantT × Int) (fun ⟨r, J4⟩ => ⟨[(0, .ref kg 0 0), (1, .osl ku us.length), (7, .osl 7 ns.length), (8, .int .i64 k), (9, Q3 r)], [(7, ⟨(ns).map (fun r => [Q3 r]), 1, 51, true⟩), (kg, gB L J4 eg)] ++ H⟩) (fun ⟨r, J4⟩ => Qhn us.length r) ?_ ?_
  ·skip
   refine Ze fun K hK => Qb Z (Yz (QbN (I := J1) Z (Ql (by omega) Qx) hL (by omega)) (YH Z Z (hK _ _ (QV (kp6 Z Z Z Z Z Z) ?_))))
   refine Xo Z (fun h2 => ?_) (fun h2 => ?_)
   ·try rw [h2]
    try simp only [qA] at h2
    refine ZW fun K hK => Qb Z (Qb Z (Qb Z ?_))
    obtain ⟨x2, J2, hx2, hc2⟩ := QjN (I := nxI J1) (H := (kg, gB L (nxI J1) eg) :: H) Qx hU.cons (hC.pr rfl) hL h2n hn
    refine Yz (hc2 _ _ rfl (Qan (B := [_, _, _, _, _]) hB (by repeat (first | exact Qx | refine Ql (by first | decide | omega) ?_)) (by intro p hp h; simp only [List.mem_cons, List.not_mem_nil, or_false] at hp; rcases hp with rfl | rfl | rfl | rfl | rfl <;> first | rfl | (simp only at h; omega)))) ?_
    refine QM Z (by repeat (first | exact hB.none (by decide) | refine Zp (by first | decide | omega) ?_)) ?_
    refine QnI Z Z (by simp [D.ids, D.sid]) ⟨_, rfl, rfl, rfl, rfl, rfl⟩ (by repeat (first | exact hB.none (by decide) | refine Zp (by first | decide | omega) ?_)) (Ql (by decide) (Ql (by omega) (Ql (by omega) Z))) Z Z Z (by simp) (by simp) ?_
    refine Qb Z (hK _ ?_)
    refine Xr ([x1, x2], J2) ?_ ?_
    ·exact le_trans (QiJ (l := [0, 1, 7, 8]) (B := [_, _, _, _, _, _, _, _, _]) (A := [(7, ⟨(ns).map (fun r => [Q3 r]), 1, 51, true⟩), (kg, gB L J2 eg)]) 30 9 (kp4 rfl rfl rfl rfl) rfl rfl rfl (by first | (simp; done) | (simp; omega)) (by intro p hp hk; simp only [List.mem_cons, List.not_mem_nil, or_false] at hp; rcases hp with rfl | rfl | rfl | rfl <;> first | (simp [D.ids, D.sid, Q3, QS, ZO] at hk; done) | (simp [D.ids, D.sid, Q3, QS, ZO] at hk; omega)) (by intro p hp; simp only [List.mem_cons, List.not_mem_nil, or_false] at hp; rcases hp with rfl | rfl <;> exact ⟨by first | decide | (simp only; omega), by repeat (first | exact Qx | refine Ql (by first | decide | omega) ?_), rfl⟩) (by intro p hp h; simp only [List.mem_cons, List.not_mem_nil, or_false] at hp; rcases hp with rfl | rfl | rfl | rfl | rfl | rfl | rfl | rfl | rfl <;> first | (simp only at h; omega) | (repeat (first | exact QU | refine QT ?_))) hB hC (by intro p hp k hk; simp only [List.mem_cons, List.not_mem_nil, or_false] at hp; rcases hp with rfl | rfl | rfl | rfl <;> first | (simp [D.ids, D.sid, Q3, QS, ZO] at hk; done) | (simp [D.ids, D.sid, Q3, QS, ZO] at hk; subst hk; repeat (first | exact QU | exact Zn hg | exact Zn hu | refine QT ?_)))) (Qe7 (l := [0, 1, 7, 8, 9]) (B := [_, _]) (kp5 rfl rfl rfl rfl rfl) rfl (by intro p hp; simp only [List.mem_cons, List.not_mem_nil, or_false] at hp; rcases hp with rfl | rfl <;> exact ⟨by repeat (first | exact Qx | refine Ql (by first | decide | omega) ?_), rfl⟩) rfl (by intro p hp h; simp only [List.mem_cons, List.not_mem_nil, or_false] at hp; rcases hp with rfl | rfl <;> first | (simp only at h; omega) | (repeat (first | exact QU | refine QT ?_))) hB hC (by intro p hp k hk; simp only [List.mem_cons, List.not_mem_nil, or_false] at hp; rcases hp with rfl | rfl | rfl | rfl | rfl <;> first | (simp [D.ids, D.sid, Q3, QS, ZO] at hk; done) | (simp [D.ids, D.sid, Q3, QS, ZO] at hk; subst hk; repeat (first | exact QU | exact Zn hg | exact Zn hu | refine QT ?_))))
    ·exact Qoo hx1 hx2
   ·try rw [h2]
    try simp only [qA] at h2
    refine XC ?_
    refine Xr ([x1], nxI J1) ?_ ?_
    ·exact le_trans (QiJ (l := [0, 1, 7, 8]) (B := [_, _, _, _, _]) (A := [(7, ⟨(ns).map (fun r => [Q3 r]), 1, 51, true⟩), (kg, gB L (nxI J1) eg)]) 21 9 (kp4 rfl rfl rfl rfl) rfl (Ql (by omega) rfl) rfl (by first | (simp; done) | (simp; omega)) (by intro p hp hk; simp only [List.mem_cons, List.not_mem_nil, or_false] at hp; rcases hp with rfl | rfl | rfl | rfl <;> first | (simp [D.ids, D.sid, Q3, QS, ZO] at hk; done) | (simp [D.ids, D.sid, Q3, QS, ZO] at hk; omega)) (by intro p hp; simp only [List.mem_cons, List.not_mem_nil, or_false] at hp; rcases hp with rfl | rfl <;> exact ⟨by first | decide | (simp only; omega), by repeat (first | exact Qx | refine Ql (by first | decide | omega) ?_), rfl⟩) (by intro p hp h; simp only [List.mem_cons, List.not_mem_nil, or_false] at hp; rcases hp with rfl | rfl | rfl | rfl | rfl <;> first | (simp only at h; omega) | (repeat (first | exact QU | refine QT ?_))) hB hC (by intro p hp k hk; simp only [List.mem_cons, List.not_mem_nil, or_false] at hp; rcases hp with rfl | rfl | rfl | rfl <;> first | (simp [D.ids, D.sid, Q3, QS, ZO] at hk; done) | (simp [D.ids, D.sid, Q3, QS, ZO] at hk; subst hk; repeat (first | exact QU | exact Zn hg | exact Zn hu | refine QT ?_)))) (Qe7 (l := [0, 1, 7, 8, 9]) (B := [_, _]) (kp5 rfl rfl rfl rfl rfl) rfl (by intro p hp; simp only [List.mem_cons, List.not_mem_nil, or_false] at hp; rcases hp with rfl | rfl <;> exact ⟨by repeat (first | exact Qx | refine Ql (by first | decide | omega) ?_), rfl⟩) rfl (by intro p hp h; simp only [List.mem_cons, List.not_mem_nil, or_false] at hp; rcases hp with rfl | rfl <;> first | (simp only at h; omega) | (repeat (first | exact QU | refine QT ?_))) hB hC (by intro p hp k hk; simp only [List.mem_cons, List.not_mem_nil, or_false] at hp; rcases hp with rfl | rfl | rfl | rfl | rfl <;> first | (simp [D.ids, D.sid, Q3, QS, ZO] at hk; done) | (simp [D.ids, D.sid, Q3, QS, ZO] at hk; subst hk; repeat (first | exact QU | exact Zn hg | exact Zn hu | refine QT ?_))))
    ·exact Qon hx1
  intro ⟨r, J4⟩ hJ
  try dsimp only at hJ
  try dsimp only
  refine ZW fun K hK => Qb Z (Qb Z ?_)
  refine QM Z (by repeat (first | exact hB.none (by decide) | refine Zp (by first | decide | omega) ?_)) ?_
  refine Qbq Z Z (fun _ h => Qbj Z Z Z h) Z (by simp) Z Z Z (by simp; omega) (by simp; omega) (Qb Z (hK _ ?_))
  refine Qk (Q6 (kp4 Z Z Z Z) (ZW fun K hK => Qb Z (Qct Z Z (by first | exact Qt (by omega) (by omega) | rfl) (Qb Z (hK _ ?_)))))
  refine Qp (k - 1, ns ++ [r], J4) ?_ ?_ ?_
  ·exact le_trans (Qpm (B := [_, _, _, _]) 7 hB hC) (Qe7 (l := [0, 1, 7, 8]) (A := [(7, ⟨ns.map (fun r => [Q3 r]) ++ [[Q3 r]], 1, 51, true⟩), (kg, gB L J4 eg)]) (B := [_, _, _, _]) (kp4 rfl rfl rfl rfl) (by simp [D.scrub, show ¬ kg = 7 by omega, show ¬ ku = 7 by omega] <;> omega) (by intro p hp; simp only [List.mem_cons, List.not_mem_nil, or_false] at hp; rcases hp with rfl | rfl <;> exact ⟨by repeat (first | exact Qx | refine Ql (by first | decide | omega) ?_), rfl⟩) (by simp) (by intro p hp h; simp only [List.mem_cons, List.not_mem_nil, or_false] at hp; rcases hp with rfl | rfl | rfl | rfl <;> first | (simp only at h; omega) | (repeat (first | exact QU | refine QT ?_))) hB hC (by intro p hp k hk; simp only [List.mem_cons, List.not_mem_nil, or_false] at hp; rcases hp with rfl | rfl | rfl | rfl <;> first | (simp [D.ids, D.sid, Q3, QS, ZO] at hk; done) | (simp [D.ids, D.sid, Q3, QS, ZO] at hk; subst hk; repeat (first | exact QU | exact Zn hg | exact Zn hu | refine QT ?_))))
  ·exact ⟨by simp only [List.length_append, List.length_singleton]; omega, QlM hI.2 hJ⟩
  ·show k - 1 < k; omega
 ·try rw [h1]
  try simp only [qA] at h1
  refine QdU (XH (QD (QJ (Q6 (kp1 Z) (Ze fun K hK => Qb Z (Qb Z (hK _ _ (QV (kp1 Z) ?_))))))))
  refine Qho ?_
  refine ⟨QS ns, (kg, gB L J eg) :: H, ⟨ns, _, ⟨by omega, hI.2⟩, rfl, rfl⟩, (XA hB hC hkg rfl).1, (XA hB hC hkg rfl).2, ?_⟩
  refine Qab Z (by simp [Ql6, D.fz, D.fzS, QfJ, lk, D.can, D.canS, QS]) ?_
  exact Qan (B := [_, _]) hB (by repeat (first | exact Qx | refine Ql (by first | decide | omega) ?_)) (by intro p hp h; simp only [List.mem_cons, List.not_mem_nil, or_false] at hp; rcases hp with rfl | rfl <;> first | rfl | (simp only at h; omega))
end Go.Proofs
