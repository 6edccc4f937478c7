/- Part 4 of the means of the proof: a verified abstract evaluator, the prepared functions, and contracts of functions. It states nothing of the claim by itself. -/
import Derived.Test.YtnkkhniiddjibaaGreatB3
set_option linter.unusedSimpArgs false
set_option linter.unusedVariables false
namespace Go.Proofs
open Go Go.Abs M3 M25
set_option linter.unusedVariables false
set_option linter.unusedSimpArgs false
theorem QcY {a b c : Int} {p q : List UInt8} (hp : p.length <= 1000000) (hq : q.length <= 1000000) {part : Int} : Ok Tryz.prog 96 [.agg [.int .i64 a, .int .i64 b, .int .i64 c, .str p, .str q], .int .i64 part] (dOV (X1 a b c p q part)) := by
 refine Ok.ofT ZT Tryz.func96 QsF (Nat.le_of_ble_eq_true rfl) ?_
 show TW _ _ tf96.body _ _
 refine Qf fun K hK => Zw rfl rfl rfl (ZF rfl (Qa rfl ?_))
 refine hK _ _ (Qb (kp3 rfl rfl rfl) ?_)
 refine QA ?_ -- 0
 refine Qf fun K hK => QH (cs := [_, _, _, _, _]) rfl rfl rfl rfl (QI (Zf (by omega) (by omega)) rfl rfl (.inr rfl) (Yd rfl (Qa rfl ?_)))
 refine QE (g := 10) rfl (fun h1 => ?_) (fun h1 => ?_)
 ·try rw [h1]
  try simp only [qa, qb, qc, qd, qe] at h1
  refine Qt rfl (Qt rfl (Qo rfl rfl (Qa rfl (Qt rfl (Qt rfl (Qo rfl rfl ?_))))))
  refine hK _ _ (Qb (kp4 rfl rfl rfl rfl) ?_)
  refine Zu rfl (Qf fun K hK => QV rfl rfl (Q6 rfl rfl rfl rfl rfl rfl rfl rfl (Qa rfl ?_)))
  refine hK _ _ (Qb (kp2 rfl rfl) ?_)
  refine Qu (Qj (Post.eq (Xz (ds := [.int .i64 _, .int .i64 _, .int .i64 _, .str _, .str _]) (d' := .bool _) (cs := [_, _, _, _, _]) rfl rfl rfl rfl rfl ⟨rfl, rfl⟩) ?_))
  first | (simp [X1, dOV, h1]; done) | (simp_all [X1, dOV]; done)
 ·try rw [h1]
  try simp only [qa, qb, qc, qd, qe] at h1
  refine Qk rfl (Qa rfl (Qk rfl (Z6 rfl rfl (Qo rfl rfl (Qa rfl ?_)))))
  refine QE (g := 14) rfl (fun h2 => ?_) (fun h2 => ?_)
  ·try rw [h2]
   try simp only [qa, qb, qc, qd, qe] at h2
   refine Qt rfl (Qt rfl (Qo rfl rfl ?_))
   refine hK _ _ (Qb (kp4 rfl rfl rfl rfl) ?_)
   refine Zu rfl (Qf fun K hK => QV rfl rfl (Q6 rfl rfl rfl rfl rfl rfl rfl rfl (Qa rfl ?_)))
   refine hK _ _ (Qb (kp2 rfl rfl) ?_)
   refine Qu (Qj (Post.eq (Xz (ds := [.int .i64 _, .int .i64 _, .int .i64 _, .str _, .str _]) (d' := .bool _) (cs := [_, _, _, _, _]) rfl rfl rfl rfl rfl ⟨rfl, rfl⟩) ?_))
   first | (simp [X1, dOV, h1, h2]; done) | (simp_all [X1, dOV]; done)
  ·try rw [h2]
   try simp only [qa, qb, qc, qd, qe] at h2
   refine Qk rfl (Qa rfl (Qk rfl (QhW rfl rfl (Qo rfl rfl ?_))))
   refine hK _ _ (Qb (kp4 rfl rfl rfl rfl) ?_)
   refine Qw rfl (fun h3 => ?_) (fun h3 => ?_)
   ·try rw [h3]
    try simp only [qa, qb, qc, qd, qe] at h3
    refine Qf fun K hK => QV rfl rfl (Q6 rfl rfl rfl rfl rfl rfl rfl rfl (Qa rfl ?_))
    refine hK _ _ (Qb (kp2 rfl rfl) ?_)
    refine Qu (Qj (Post.eq (Xz (ds := [.int .i64 _, .int .i64 _, .int .i64 _, .str _, .str _]) (d' := .bool _) (cs := [_, _, _, _, _]) rfl rfl rfl rfl rfl ⟨rfl, rfl⟩) ?_))
    first | (simp [X1, dOV, h1, h2, h3]; done) | (simp_all [X1, dOV]; done)
   ·try rw [h3]
    try simp only [qa, qb, qc, qd, qe] at h3
    refine Qv (Qd (kp3 rfl rfl rfl) (Qf fun K hK => ZF rfl ?_))
    refine hK _ _ (Qb (kp4 rfl rfl rfl rfl) ?_)
    refine QA ?_ -- 1
    refine Qf fun K hK => Qa rfl ?_
    refine hK _ _ (Qb (kp4 rfl rfl rfl rfl) ?_)
    refine Qy (Qf fun K hK => ZK rfl rfl (Qa rfl ?_))
    refine hK _ _ (Qb (kp5 rfl rfl rfl rfl rfl) ?_)
    refine Qw rfl (fun h4 => ?_) (fun h4 => ?_)
    ·try rw [h4]
     try simp only [qa, qb, qc, qd, qe] at h4
     refine QL fun K hK => Qh rfl rfl (QC rfl rfl rfl (Q1 rfl rfl (Qp (by have := Qcs (by simpa using h1); omega) (by have := Qcs (by simpa using h1); omega)) (QV rfl rfl (Q6 rfl rfl rfl rfl rfl rfl rfl rfl (hK _ ?_)))))
     refine Qg (Qd (kp2 rfl rfl) ?_)
     refine QA ?_ -- 2
     refine Qf fun K hK => QH (cs := [_, _, _, _, _]) rfl rfl rfl rfl (QI (Zf (by simp) (by simp)) rfl rfl (.inr rfl) (Yd rfl ?_))
     refine hK _ _ (Qb (kp3 rfl rfl rfl) ?_)
     refine Qw rfl (fun h5 => ?_) (fun h5 => ?_)
     ·try rw [h5]
      try simp only [qa, qb, qc, qd, qe] at h5
      refine Qf fun K hK => QV rfl rfl (Q6 rfl rfl rfl rfl rfl rfl rfl rfl (Qa rfl ?_))
      refine hK _ _ (Qb (kp2 rfl rfl) ?_)
      refine Qu (Qj (Post.eq (Xz (ds := [.int .i64 _, .int .i64 _, .int .i64 _, .str _, .str _]) (d' := .bool _) (cs := [_, _, _, _, _]) rfl rfl rfl rfl rfl ⟨rfl, rfl⟩) ?_))
      first | (simp [X1, dOV, h1, h2, h3, h4, h5]; done) | (simp_all [X1, dOV]; done)
     ·try rw [h5]
      try simp only [qa, qb, qc, qd, qe] at h5
      refine Qv (Qd (kp2 rfl rfl) (Qf fun K hK => QH (cs := [_, _, _, _, _]) rfl rfl rfl rfl (Q6 rfl rfl rfl rfl rfl rfl rfl rfl (Qa rfl ?_))))
      refine hK _ _ (Qb (kp2 rfl rfl) ?_)
      refine Qu (Post.eq (Xz (ds := [.int .i64 _, .int .i64 _, .int .i64 _, .str _, .str _]) (d' := .bool _) (cs := [_, _, _, _, _]) rfl rfl rfl rfl rfl ⟨rfl, rfl⟩) ?_)
      first | (simp [X1, dOV, h1, h2, h3, h4, h5]; done) | (simp_all [X1, dOV]; done)
    ·try rw [h4]
     try simp only [qa, qb, qc, qd, qe] at h4
     refine Qf fun K hK => ZK rfl rfl (Qa rfl ?_)
     refine hK _ _ (Qb (kp4 rfl rfl rfl rfl) ?_)
     refine Qw rfl (fun h6 => ?_) (fun h6 => ?_)
     ·try rw [h6]
      try simp only [qa, qb, qc, qd, qe] at h6
      refine QL fun K hK => Qh rfl rfl (QC rfl rfl rfl (Qh rfl rfl (QC rfl rfl rfl (Q1 rfl rfl (Qp (by have := Qcs (by simpa using h1); omega) (by have := Qcs (by simpa using h1); omega)) (QV rfl rfl (Q6 rfl rfl rfl rfl rfl rfl rfl rfl (hK _ ?_)))))))
      refine Qg (Qd (kp2 rfl rfl) ?_)
      refine QA ?_ -- 2
      refine Qf fun K hK => QH (cs := [_, _, _, _, _]) rfl rfl rfl rfl (QI (Zf (by simp) (by simp)) rfl rfl (.inr rfl) (Yd rfl ?_))
      refine hK _ _ (Qb (kp3 rfl rfl rfl) ?_)
      refine Qw rfl (fun h7 => ?_) (fun h7 => ?_)
      ·try rw [h7]
       try simp only [qa, qb, qc, qd, qe] at h7
       refine Qf fun K hK => QV rfl rfl (Q6 rfl rfl rfl rfl rfl rfl rfl rfl (Qa rfl ?_))
       refine hK _ _ (Qb (kp2 rfl rfl) ?_)
       refine Qu (Qj (Post.eq (Xz (ds := [.int .i64 _, .int .i64 _, .int .i64 _, .str _, .str _]) (d' := .bool _) (cs := [_, _, _, _, _]) rfl rfl rfl rfl rfl ⟨rfl, rfl⟩) ?_))
       first | (simp [X1, dOV, h1, h2, h3, h4, h6, h7]; done) | (simp_all [X1, dOV]; done)
      ·try rw [h7]
       try simp only [qa, qb, qc, qd, qe] at h7
       refine Qv (Qd (kp2 rfl rfl) (Qf fun K hK => QH (cs := [_, _, _, _, _]) rfl rfl rfl rfl (Q6 rfl rfl rfl rfl rfl rfl rfl rfl (Qa rfl ?_))))
       refine hK _ _ (Qb (kp2 rfl rfl) ?_)
       refine Qu (Post.eq (Xz (ds := [.int .i64 _, .int .i64 _, .int .i64 _, .str _, .str _]) (d' := .bool _) (cs := [_, _, _, _, _]) rfl rfl rfl rfl rfl ⟨rfl, rfl⟩) ?_)
       first | (simp [X1, dOV, h1, h2, h3, h4, h6, h7]; done) | (simp_all [X1, dOV]; done)
     ·try rw [h6]
      try simp only [qa, qb, qc, qd, qe] at h6
      refine QL fun K hK => Qh rfl rfl (QC rfl rfl rfl (Qh rfl rfl (QC rfl rfl rfl (Qh rfl rfl (QC rfl rfl rfl (Q1 rfl rfl (Qp (by have := Qcs (by simpa using h1); omega) (by have := Qcs (by simpa using h1); omega)) (QV rfl rfl (Q6 rfl rfl rfl rfl rfl rfl rfl rfl (hK _ ?_)))))))))
      refine Qg (Qd (kp2 rfl rfl) ?_)
      refine QA ?_ -- 2
      refine Qf fun K hK => QH (cs := [_, _, _, _, _]) rfl rfl rfl rfl (QI (Zf (by simp) (by simp)) rfl rfl (.inr rfl) (Yd rfl ?_))
      refine hK _ _ (Qb (kp3 rfl rfl rfl) ?_)
      refine Qw rfl (fun h8 => ?_) (fun h8 => ?_)
      ·try rw [h8]
       try simp only [qa, qb, qc, qd, qe] at h8
       refine Qf fun K hK => QV rfl rfl (Q6 rfl rfl rfl rfl rfl rfl rfl rfl (Qa rfl ?_))
       refine hK _ _ (Qb (kp2 rfl rfl) ?_)
       refine Qu (Qj (Post.eq (Xz (ds := [.int .i64 _, .int .i64 _, .int .i64 _, .str _, .str _]) (d' := .bool _) (cs := [_, _, _, _, _]) rfl rfl rfl rfl rfl ⟨rfl, rfl⟩) ?_))
       first | (simp [X1, dOV, h1, h2, h3, h4, h6, h8]; done) | (simp_all [X1, dOV]; done)
      ·try rw [h8]
       try simp only [qa, qb, qc, qd, qe] at h8
       refine Qv (Qd (kp2 rfl rfl) (Qf fun K hK => QH (cs := [_, _, _, _, _]) rfl rfl rfl rfl (Q6 rfl rfl rfl rfl rfl rfl rfl rfl (Qa rfl ?_))))
       refine hK _ _ (Qb (kp2 rfl rfl) ?_)
       refine Qu (Post.eq (Xz (ds := [.int .i64 _, .int .i64 _, .int .i64 _, .str _, .str _]) (d' := .bool _) (cs := [_, _, _, _, _]) rfl rfl rfl rfl rfl ⟨rfl, rfl⟩) ?_)
       first | (simp [X1, dOV, h1, h2, h3, h4, h6, h8]; done) | (simp_all [X1, dOV]; done)
theorem QcZ {a b c : Int} {p q : List UInt8} (hp : p.length <= 1000000) (hq : q.length <= 1000000) : Ok Tryz.prog 81 [.agg [.int .i64 a, .int .i64 b, .int .i64 c, .str p, .str q]] (dOV (QiF a b c p q)) := by
 refine Ok.ofT ZT Tryz.func81 Qsq (Nat.le_of_ble_eq_true rfl) ?_
 show TW _ _ tf81.body _ _
 refine Qf fun K hK => Zw rfl rfl rfl (ZF rfl (Qa rfl ?_))
 refine hK _ _ (Qb (kp2 rfl rfl) ?_)
 refine QA ?_ -- 0
 refine Qf fun K hK => QH (cs := [_, _, _, _, _]) rfl rfl rfl rfl (QI (Zf (by omega) (by omega)) rfl rfl (.inr rfl) (Yd rfl ?_))
 refine hK _ _ (Qb (kp3 rfl rfl rfl) ?_)
 refine Qw rfl (fun h1 => ?_) (fun h1 => ?_)
 ·try rw [h1]
  try simp only [qa, qb, qc, qd, qe] at h1
  refine Qf fun K hK => QV rfl rfl (Q6 rfl rfl rfl rfl rfl rfl rfl rfl (Qa rfl ?_))
  refine hK _ _ (Qb (kp2 rfl rfl) ?_)
  refine Qu (Qj (Post.eq (Xz (ds := [.int .i64 _, .int .i64 _, .int .i64 _, .str _, .str _]) (d' := .bool _) (cs := [_, _, _, _, _]) rfl rfl rfl rfl rfl ⟨rfl, rfl⟩) ?_))
  simp [QiF, dOV, h1]
 ·try rw [h1]
  try simp only [qa, qb, qc, qd, qe] at h1
  refine Qv (Qd (kp2 rfl rfl) ?_)
  refine QA ?_ -- 1
  refine Qf fun K hK => Qh rfl rfl (QC rfl rfl rfl (Qnj rfl rfl ?_))
  refine hK _ _ (Qb (kp3 rfl rfl rfl) ?_)
  refine Qw rfl (fun h2 => ?_) (fun h2 => ?_)
  ·try rw [h2]
   try simp only [qa, qb, qc, qd, qe] at h2
   refine Qf fun K hK => Qh rfl rfl (QC rfl rfl rfl (Qh rfl rfl (QC rfl rfl rfl (Qh rfl rfl (QC rfl rfl rfl (QV rfl rfl (Q6 rfl rfl rfl rfl rfl rfl rfl rfl (Qa rfl ?_))))))))
   refine hK _ _ (Qb (kp2 rfl rfl) ?_)
   refine Qu (Qj (Post.eq (Xz (ds := [.int .i64 _, .int .i64 _, .int .i64 _, .str _, .str _]) (d' := .bool _) (cs := [_, _, _, _, _]) rfl rfl rfl rfl rfl ⟨rfl, rfl⟩) ?_))
   simp [QiF, dOV, h1, h2]
  ·try rw [h2]
   try simp only [qa, qb, qc, qd, qe] at h2
   refine Qv (Qd (kp2 rfl rfl) ?_)
   refine QA ?_ -- 2
   refine Qf fun K hK => Qa rfl ?_
   refine hK _ _ (Qb (kp3 rfl rfl rfl) ?_)
   refine Qy ?_
   refine Zj (ι := Nat) (fun m => ⟨[(1, .ref 1 0 0), (2, .ref 2 0 0), (4, .int .i64 ((m : Int) - 1))], [(1, ⟨[[.int .i64 a, .int .i64 b, .int .i64 c, .str p, .str q]], 5, 67, true⟩), (2, ⟨[[.int .i64 0, .int .i64 0, .int .i64 0, .str [], .str []]], 5, 67, true⟩)]⟩) (fun m => m <= 3 /\ XB a b c p q 3 = XB a b c p q m) (fun m => m) 3 ?_ ?_ ?_
   ·exact Q3 (l := [1, 2, 4]) (lH := [1, 2]) (kp3 rfl rfl rfl) (Qe rfl (Qe rfl Ql)) rfl rfl rfl
   ·exact ⟨by omega, rfl⟩
   intro m hI
   obtain ⟨hI1, hI2⟩ := hI
   try dsimp only
   refine QA ?_ -- 3
   refine Qf fun K hK => Qa rfl (QeU rfl rfl ?_)
   refine hK _ _ (Qb (kp4 rfl rfl rfl rfl) ?_)
   refine Qw rfl (fun h3 => ?_) (fun h3 => ?_)
   ·try rw [h3]
    try simp only [qa, qb, qc, qd, qe] at h3
    rcases Nat.eq_zero_or_pos m with hm | hm <;> first | omega | skip
    refine Qv (Qd (kp3 rfl rfl rfl) ?_)
    refine QA ?_ -- 4
    refine Qy (Qf fun K hK => QH (cs := [_, _, _, _, _]) rfl rfl rfl rfl (Qa rfl (QI (QcY (by omega) (by omega)) rfl rfl (.inl rfl) (Qa rfl (QO rfl rfl (QO rfl rfl (ZF rfl (Q6 rfl rfl rfl rfl rfl rfl rfl rfl (Qa rfl ?_)))))))))
    refine hK _ _ (Qb (kp5 rfl rfl rfl rfl rfl) ?_)
    refine Qf fun K hK => Qa rfl ?_
    refine hK _ _ (Qb (kp5 rfl rfl rfl rfl rfl) ?_)
    refine Qw rfl (fun h4 => ?_) (fun h4 => ?_)
    ·try rw [h4]
     try simp only [qa, qb, qc, qd, qe] at h4
     refine Qf fun K hK => QH (cs := [_, _, _, _, _]) rfl rfl rfl rfl (Q6 rfl rfl rfl rfl rfl rfl rfl rfl (Qa rfl ?_))
     refine hK _ _ (Qb (kp2 rfl rfl) ?_)
     refine Qu (Qr (Qj (Q0 (Qr (Qj (Post.eq (Xz (ds := [.int .i64 _, .int .i64 _, .int .i64 _, .str _, .str _]) (d' := .bool _) (cs := [_, _, _, _, _]) rfl rfl rfl rfl rfl ⟨rfl, rfl⟩) ?_))))))
     subst h2
     simp [QiF, dOV, h1, hI2, Qh9 hm h4, h4]
    ·try rw [h4]
     try simp only [qa, qb, qc, qd, qe] at h4
     refine Qv (Qg (Qd (kp3 rfl rfl rfl) (QL fun K hK => Qa rfl (QaE rfl rfl (by first | exact Qp (by omega) (by omega) | rfl) (Qa rfl (hK _ ?_))))))
     refine Qi (m - 1) ?_ ?_ ?_
     ·refine Q3 (l := [1, 2, 4]) (lH := [1, 2]) (kp3 rfl rfl rfl) (Qe rfl (Qe rfl Ql)) ?_ rfl rfl; simp only [List.cons.injEq, Prod.mk.injEq, D.int.injEq, and_true, true_and]; omega
     ·exact ⟨by omega, by rw [hI2]; exact Qjh hm h4⟩
     ·show m - 1 < m; omega
   ·try rw [h3]
    try simp only [qa, qb, qc, qd, qe] at h3
    rcases Nat.eq_zero_or_pos m with hm | hm <;> first | omega | skip
    refine Zg (QK (Qx (QD (Qd (kp1 rfl) (Qf fun K hK => QV rfl rfl (Q6 rfl rfl rfl rfl rfl rfl rfl rfl (Qa rfl ?_)))))))
    refine hK _ _ (Qb (kp2 rfl rfl) ?_)
    refine Qu (Post.eq (Xz (ds := [.int .i64 _, .int .i64 _, .int .i64 _, .str _, .str _]) (d' := .bool _) (cs := [_, _, _, _, _]) rfl rfl rfl rfl rfl ⟨rfl, rfl⟩) ?_)
    subst h2
    subst hm
    have hb : XB a b c [] q 3 = none := hI2
    simp [QiF, dOV, h1, hb]
end Go.Proofs
namespace Go.Proofs
open Go Go.Abs M3 M25
set_option linter.unusedVariables false
set_option linter.unusedSimpArgs false
theorem XV {e a b c : Int} {p q : List UInt8} {f : Bool} : Ok Tryz.prog 103 [.agg [.int .i64 e, .int .i64 a, .int .i64 b, .int .i64 c, .str p, .str q, .bool f]] (.bool (QgM e a b c p q f)) := by
 refine Ok.ofT ZT Tryz.func103 QqW (Nat.le_of_ble_eq_true rfl) ?_
 show TW _ _ tf103.body _ _
 refine Qf fun K hK => Zw rfl rfl rfl (Qa rfl ?_)
 refine hK _ _ (Qb (kp1 rfl) ?_)
 refine Qf fun K hK => Qh rfl rfl (QC rfl rfl rfl (XI rfl rfl (Qa rfl ?_)))
 refine QE (g := 6) rfl (fun h1 => ?_) (fun h1 => ?_)
 ·try rw [h1]
  try simp only [qa, qb, qc, qd, qe] at h1
  refine Qt rfl (Qt rfl (Qt rfl (Qt rfl (Zx rfl (Zx rfl (Zx rfl (Zx rfl (Qt rfl (Qt rfl (Zx rfl (Zx rfl ?_)))))))))))
  refine Zx rfl (Zx rfl (Qt rfl (Qo rfl rfl (Qa rfl ?_))))
  refine hK _ _ (Qb (kp1 rfl) ?_)
  refine Qu (Qs rfl ?_)
  simp_all [QgM]
 ·try rw [h1]
  try simp only [qa, qb, qc, qd, qe] at h1
  refine Qk rfl (Qh rfl rfl (Qk rfl (QC rfl rfl rfl (Qk rfl (Yd rfl (Qk rfl (Qa rfl ?_)))))))
  refine QE (g := 10) rfl (fun h2 => ?_) (fun h2 => ?_)
  ·try rw [h2]
   try simp only [qa, qb, qc, qd, qe] at h2
   refine Qk rfl (Qh rfl rfl (Qk rfl (Qh rfl rfl (Qk rfl (QC rfl rfl rfl (Qk rfl (Qg5 rfl rfl (Qk rfl (Qo rfl rfl (Qk rfl (Qa rfl ?_)))))))))))
   refine QE (g := 16) rfl (fun h3 => ?_) (fun h3 => ?_)
   ·try rw [h3]
    try simp only [qa, qb, qc, qd, qe] at h3
    refine Qk rfl (Qh rfl rfl (Qk rfl (QH (cs := [_, _, _, _, _]) rfl rfl rfl rfl (Qk rfl (QI (XU) rfl rfl (.inr rfl) (Qk rfl (Yd rfl (Qk rfl (Qo rfl rfl (Qo rfl rfl (Qa rfl ?_)))))))))))
    refine hK _ _ (Qb (kp1 rfl) ?_)
    refine Qu (Qs rfl ?_)
    simp_all [QgM]
   ·try rw [h3]
    try simp only [qa, qb, qc, qd, qe] at h3
    refine Qt rfl (Qt rfl (Qt rfl (Qt rfl (Qk rfl (Qo rfl rfl (Qo rfl rfl (Qa rfl ?_)))))))
    refine hK _ _ (Qb (kp1 rfl) ?_)
    refine Qu (Qs rfl ?_)
    simp_all [QgM]
  ·try rw [h2]
   try simp only [qa, qb, qc, qd, qe] at h2
   refine Qt rfl (Qt rfl (Qt rfl (Qt rfl (Qk rfl (Qo rfl rfl (Qk rfl (Qa rfl (Qt rfl (Qt rfl (Qt rfl (Qt rfl ?_)))))))))))
   refine Qk rfl (Qo rfl rfl (Qo rfl rfl (Qa rfl ?_)))
   refine hK _ _ (Qb (kp1 rfl) ?_)
   refine Qu (Qs rfl ?_)
   simp_all [QgM]
theorem QcO {a b c : Int} {p q : List UInt8} : Ok Tryz.prog 59 [.agg [.int .i64 a, .int .i64 b, .int .i64 c, .str p, .str q]] (.agg (dCu (QfP a b c))) := by
 refine Ok.ofT ZT Tryz.func59 Qr5 (Nat.le_of_ble_eq_true rfl) ?_
 show TW _ _ tf59.body _ _
 refine Qf fun K hK => Zw rfl rfl rfl (ZF rfl ?_)
 refine hK _ _ (Qb (kp2 rfl rfl) ?_)
 refine QA ?_ -- 0
 refine Qf fun K hK => QH (cs := [_, _, _, _, _]) rfl rfl rfl rfl (QI (XU) rfl rfl (.inr rfl) ?_)
 refine hK _ _ (Qb (kp3 rfl rfl rfl) ?_)
 refine Qw rfl (fun h1 => ?_) (fun h1 => ?_)
 ·try rw [h1]
  try simp only [qa, qb, qc, qd, qe] at h1
  refine Qf fun K hK => QI (YX) rfl rfl (.inl rfl) (Q6 rfl rfl rfl rfl rfl rfl rfl rfl ?_)
  refine hK _ _ (Qb (kp1 rfl) ?_)
  refine Qu (Qj (Post.eq (ZD (ds := [.int .i64 _, .int .i64 _, .int .i64 _, .int .i64 _, .str _, .str _, .bool _]) (cs := [_, _, _, _, _, _, _]) rfl rfl rfl rfl rfl) ?_))
  simp [QfP, dCu, Qby, h1]
 ·try rw [h1]
  try simp only [qa, qb, qc, qd, qe] at h1
  refine Qv (Qd (kp2 rfl rfl) (Qf fun K hK => Qh rfl rfl (QC rfl rfl rfl (Qh rfl rfl (QC rfl rfl rfl (Qh rfl rfl (QC rfl rfl rfl (QV rfl rfl (QI (YK) rfl rfl (.inl rfl) (Q6 rfl rfl rfl rfl rfl rfl rfl rfl ?_))))))))))
  refine hK _ _ (Qb (kp1 rfl) ?_)
  refine Qu (Post.eq (ZD (ds := [.int .i64 _, .int .i64 _, .int .i64 _, .int .i64 _, .str _, .str _, .bool _]) (cs := [_, _, _, _, _, _, _]) rfl rfl rfl rfl rfl) ?_)
  simp [QfP, dCu, Qby, h1]
theorem QbR {a b c : Int} {p q : List UInt8} : Ok Tryz.prog 60 [.agg [.int .i64 a, .int .i64 b, .int .i64 c, .str p, .str q]] (.agg (dCu (QdE a b c))) := by
 refine Ok.ofT ZT Tryz.func60 Qr6 (Nat.le_of_ble_eq_true rfl) ?_
 show TW _ _ tf60.body _ _
 refine Qf fun K hK => Zw rfl rfl rfl (ZF rfl ?_)
 refine hK _ _ (Qb (kp2 rfl rfl) ?_)
 refine Qf fun K hK => Qh rfl rfl (QC rfl rfl rfl (Qh rfl rfl (QC rfl rfl rfl (Qh rfl rfl (QC rfl rfl rfl (QV rfl rfl (QI (QcZ (by simp) (by simp)) rfl rfl (.inl rfl) (Qa rfl (QO rfl rfl (QO rfl rfl ?_))))))))))
 refine ZF rfl (Q6 rfl rfl rfl rfl rfl rfl rfl rfl (Qa rfl ?_))
 refine hK _ _ (Qb (kp3 rfl rfl rfl) ?_)
 refine QA ?_ -- 0
 refine Qf fun K hK => Qa rfl (Yd rfl ?_)
 refine hK _ _ (Qb (kp3 rfl rfl rfl) ?_)
 refine Qw rfl (fun h1 => ?_) (fun h1 => ?_)
 ·try rw [h1]
  try simp only [qa, qb, qc, qd, qe] at h1
  refine Qf fun K hK => QI (Y8) rfl rfl (.inl rfl) (Q6 rfl rfl rfl rfl rfl rfl rfl rfl ?_)
  refine hK _ _ (Qb (kp1 rfl) ?_)
  refine Qu (Qj (Post.eq (ZD (ds := [.int .i64 _, .int .i64 _, .int .i64 _, .int .i64 _, .str _, .str _, .bool _]) (cs := [_, _, _, _, _, _, _]) rfl rfl rfl rfl rfl) ?_))
  cases hn : QiF a b c [] [] <;> simp [QdE, dCu, QeQ, hn] at *
 ·try rw [h1]
  try simp only [qa, qb, qc, qd, qe] at h1
  refine Qv (Qd (kp2 rfl rfl) (Qf fun K hK => QH (cs := [_, _, _, _, _]) rfl rfl rfl rfl (QI (YK) rfl rfl (.inl rfl) (Q6 rfl rfl rfl rfl rfl rfl rfl rfl ?_))))
  refine hK _ _ (Qb (kp1 rfl) ?_)
  refine Qu (Post.eq (ZD (ds := [.int .i64 _, .int .i64 _, .int .i64 _, .int .i64 _, .str _, .str _, .bool _]) (cs := [_, _, _, _, _, _, _]) rfl rfl rfl rfl rfl) ?_)
  cases hn : QiF a b c [] [] <;> simp [QdE, dCu, QeQ, hn] at *
theorem XW  : Ok Tryz.prog 75 [] (ZE [(Qby, QeQ)]) := by
 refine Ok.ofT ZT Tryz.func75 Qsk (Nat.le_of_ble_eq_true rfl) ?_
 show TW _ _ tf75.body _ _
 refine Qf fun K hK => Qa rfl ?_
 refine hK _ _ (Qb (Q5) ?_)
 refine Qf fun K hK => QI (YX) rfl rfl (.inl rfl) (QI (Y8) rfl rfl (.inl rfl) (QV rfl rfl (QB rfl rfl (Qa rfl ?_))))
 refine hK _ _ (Qb (kp1 rfl) ?_)
 refine Qu (Yh rfl ?_)
 rfl
theorem Z8  : Ok Tryz.prog 56 [] (Qhd ([], [])) := by
 refine Ok.ofT ZT Tryz.func56 Qr2 (Nat.le_of_ble_eq_true rfl) ?_
 show TW _ _ tf56.body _ _
 refine Qf fun K hK => ZF rfl ?_
 refine hK _ _ (Qb (kp1 rfl) ?_)
 refine Qf fun K hK => QV rfl rfl (Q6 rfl rfl rfl rfl rfl rfl rfl rfl ?_)
 refine hK _ _ (Qb (kp1 rfl) ?_)
 refine Qu (Post.eq (ZD (ds := [.sl _, .sl _]) (cs := [_, _]) rfl rfl rfl rfl rfl) ?_)
 rfl
theorem Qaw  : Ok Tryz.prog 54 [] (Qhd ([(Qby, QeQ)], [(Qby, QeQ)])) := by
 refine Ok.ofT ZT Tryz.func54 Qr0 (Nat.le_of_ble_eq_true rfl) ?_
 show TW _ _ tf54.body _ _
 refine Qf fun K hK => ZF rfl ?_
 refine hK _ _ (Qb (kp1 rfl) ?_)
 refine Qf fun K hK => QI (XW) rfl rfl (.inl rfl) (QI (XW) rfl rfl (.inl rfl) (QV rfl rfl (Q6 rfl rfl rfl rfl rfl rfl rfl rfl ?_)))
 refine hK _ _ (Qb (kp1 rfl) ?_)
 refine Qu (Post.eq (ZD (ds := [.sl _, .sl _]) (cs := [_, _]) rfl rfl rfl rfl rfl) ?_)
 rfl
theorem XT {a b c : Int} {p q : List UInt8} (hp : p.length <= 1000000) (hq : q.length <= 1000000) : Ok Tryz.prog 35 [.agg [.int .i64 a, .int .i64 b, .int .i64 c, .str p, .str q]] (Qhd (Xd a b c p q)) := by
 refine Ok.ofT ZT Tryz.func35 QrJ (Nat.le_of_ble_eq_true rfl) ?_
 show TW _ _ tf35.body _ _
 refine Qf fun K hK => Zw rfl rfl rfl (ZF rfl ?_)
 refine hK _ _ (Qb (kp2 rfl rfl) ?_)
 refine QA ?_ -- 0
 refine Qf fun K hK => QH (cs := [_, _, _, _, _]) rfl rfl rfl rfl (QI (Zf (by omega) (by omega)) rfl rfl (.inr rfl) (Yd rfl ?_))
 refine hK _ _ (Qb (kp3 rfl rfl rfl) ?_)
 refine Qw rfl (fun h1 => ?_) (fun h1 => ?_)
 ·try rw [h1]
  try simp only [qa, qb, qc, qd, qe] at h1
  refine Qf fun K hK => QI (Z8) rfl rfl (.inl rfl) (Q6 rfl rfl rfl rfl rfl rfl rfl rfl ?_)
  refine hK _ _ (Qb (kp1 rfl) ?_)
  refine Qu (Qj (Post.eq (ZD (ds := [.sl _, .sl _]) (cs := [_, _]) rfl rfl rfl rfl rfl) ?_))
  simp [Xd, Qhd, ZE, QeO, dCu, h1]
 ·try rw [h1]
  try simp only [qa, qb, qc, qd, qe] at h1
  refine Qv (Qd (kp2 rfl rfl) ?_)
  refine QA ?_ -- 1
  refine Qf fun K hK => Qh rfl rfl (QC rfl rfl rfl (Qnj rfl rfl ?_))
  refine hK _ _ (Qb (kp3 rfl rfl rfl) ?_)
  refine Qw rfl (fun h2 => ?_) (fun h2 => ?_)
  ·try rw [h2]
   try simp only [qa, qb, qc, qd, qe] at h2
   refine Qf fun K hK => QN (ds0 := [6, 3, 2, 1, 0]) (cs := [_, _, _, _, _]) rfl rfl rfl rfl rfl rfl (QW (ds0 := [3, 2, 1, 0]) (YK) rfl rfl (.inl rfl) rfl rfl (QN (ds0 := [4, 3, 2, 1, 0]) (cs := [_, _, _, _, _]) rfl rfl rfl rfl rfl rfl (QW (ds0 := [3, 2, 1, 0]) (QbQ) rfl rfl (.inl rfl) rfl rfl (QV rfl rfl (QB rfl rfl (QV rfl rfl (Y2 (ds0 := []) rfl rfl rfl rfl rfl rfl rfl rfl rfl rfl ?_)))))))
   refine hK _ _ (Qb (kp1 rfl) ?_)
   refine Qu (Qj (Post.eq (ZD (ds := [.sl _, .sl _]) (cs := [_, _]) rfl rfl rfl rfl rfl) ?_))
   simp [Xd, Qhd, ZE, QeO, dCu, h1, h2]
  ·try rw [h2]
   try simp only [qa, qb, qc, qd, qe] at h2
   refine Qv (Qd (kp2 rfl rfl) (Qf fun K hK => QN (ds0 := [6, 3, 2, 1, 0]) (cs := [_, _, _, _, _]) rfl rfl rfl rfl rfl rfl (QW (ds0 := [3, 2, 1, 0]) (QcO) rfl rfl (.inl rfl) rfl rfl (QN (ds0 := [4, 3, 2, 1, 0]) (cs := [_, _, _, _, _]) rfl rfl rfl rfl rfl rfl (QW (ds0 := [3, 2, 1, 0]) (QbR) rfl rfl (.inl rfl) rfl rfl (QV rfl rfl (QB rfl rfl (QV rfl rfl (Y2 (ds0 := []) rfl rfl rfl rfl rfl rfl rfl rfl rfl rfl ?_)))))))))
   refine hK _ _ (Qb (kp1 rfl) ?_)
   refine Qu (Post.eq (ZD (ds := [.sl _, .sl _]) (cs := [_, _]) rfl rfl rfl rfl rfl) ?_)
   subst h2
   simp [Xd, Qhd, ZE, QeO, dCu, h1]
end Go.Proofs
namespace Go.Proofs
open Go Go.Abs M3 M25
set_option linter.unusedVariables false
set_option linter.unusedSimpArgs false
theorem ZU {l : List (Cu × Cu)} (hl : Sm l) : Ok Tryz.prog 102 [ZE l] (.bool (Qej l)) := by
 refine Ok.ofT ZT Tryz.func102 QqV (Nat.le_of_ble_eq_true rfl) ?_
 show TW _ _ tf102.body _ _
 have hn := hl.1
 refine Qf fun K hK => Qa rfl ?_
 refine hK _ _ (Qb (kp1 rfl) ?_)
 refine QA ?_ -- 0
 refine Qf fun K hK => Qa rfl ?_
 refine hK _ _ (Qb (kp2 rfl rfl) ?_)
 refine Qy ?_
 refine Zj (ι := Nat) (fun i => ⟨[(0, ZE l), (3, .int .i64 i)], []⟩) (fun i => i <= l.length /\ (List.range i).all (QpK l) = true) (fun i => l.length - i) 0 ?_ ?_ ?_
 ·exact Za (kp2 rfl rfl)
 ·exact ⟨Nat.zero_le _, rfl⟩
 intro i hI
 try dsimp only
 refine QA ?_ -- 1
 refine Qf fun K hK => Qa rfl (Qa rfl (QQ rfl rfl (Z6 rfl rfl ?_)))
 refine hK _ _ (Qb (kp3 rfl rfl rfl) ?_)
 refine Qw rfl (fun h1 => ?_) (fun h1 => ?_)
 ·try rw [h1]
  try simp only [qa, qb, qc, qd, qe, List.length_map] at h1
  refine Qv (Qd (kp2 rfl rfl) ?_)
  refine QA ?_ -- 2
  refine Qy (Qf fun K hK => Qa rfl (Qa rfl (QJ rfl rfl rfl (by omega) (QR (by omega)) rfl (QN (ds0 := [20, 19, 18, 17, 16, 15, 14, 13, 12, 11, 10, 9, 8, 7, 6, 5, 4, 3, 2, 1, 0]) (cs := [_, _, _, _, _, _, _, _, _, _, _, _, _, _]) rfl rfl rfl rfl rfl rfl (QW (ds0 := [19, 18, 17, 16, 15, 14, 13, 12, 11, 10, 9, 8, 7, 6, 5, 4, 3, 2, 1, 0]) (YC (hl.at (i := i) (by omega)).1.1 (hl.at (i := i) (by omega)).1.2 (hl.at (i := i) (by omega)).2.1 (hl.at (i := i) (by omega)).2.2) rfl rfl (.inr rfl) rfl rfl (Yd rfl (Qa rfl ?_)))))))
  refine QE (g := 16) rfl (fun h2 => ?_) (fun h2 => ?_)
  ·try rw [h2]
   try simp only [qa, qb, qc, qd, qe, List.length_map] at h2
   refine Qt rfl (Qt rfl (Qt rfl (Zx rfl (Zx rfl (Zx rfl (Zx rfl (Zx rfl (Zx rfl (Zx rfl (Zx rfl (Zx rfl ?_)))))))))))
   refine Zx rfl (Zx rfl (Zx rfl (Zx rfl (Qt rfl (Qo rfl rfl ?_)))))
   refine hK _ _ (Qb (kp3 rfl rfl rfl) ?_)
   refine Zu rfl (Qf fun K hK => Qa rfl ?_)
   refine hK _ _ (Qb (kp1 rfl) ?_)
   refine Qu (Qr (Qj (Q0 (Qr (Qj (Qs rfl ?_))))))
   first
    | exact (QhI hI.2 (by omega)).symm
    | exact (Qcv (i := i) (by omega) (QgR (by omega) (.inl h2))).symm
    | (simp only [QdQ] at *; exact (Qcv (i := i) (by omega) (QgR (by omega) (.inr ⟨by omega, h4⟩))).symm)
  ·try rw [h2]
   try simp only [qa, qb, qc, qd, qe, List.length_map] at h2
   refine Qk rfl (Qa rfl (Qk rfl (QhW rfl rfl (Qk rfl (Qa rfl ?_)))))
   refine QE (g := 19) rfl (fun h3 => ?_) (fun h3 => ?_)
   ·try rw [h3]
    try simp only [qa, qb, qc, qd, qe, List.length_map] at h3
    refine Qk rfl (Qa rfl (Qk rfl (Qa rfl (Qk rfl (QaE rfl rfl (by first | exact Qp (by omega) (by omega) | rfl) (Qk rfl (QJ rfl rfl rfl (by omega) (ZB (by omega) (by omega)) rfl (Qk rfl (Q8 rfl rfl (Qk rfl (QN (ds0 := [3, 2, 1, 0]) (cs := [_, _, _, _, _, _, _]) rfl rfl rfl rfl rfl rfl ?_)))))))))))
    refine Qk rfl (Qa rfl (Qk rfl (Qa rfl (Qk rfl (QJ rfl rfl rfl (by omega) (QR (by omega)) rfl (Qk rfl (Q8 rfl rfl (Qk rfl (QN (ds0 := [3, 2, 1, 0]) (cs := [_, _, _, _, _, _, _]) rfl rfl rfl rfl rfl rfl (Qk rfl (QW (ds0 := [2, 1, 0]) (Zs (hl.at (i := ((i : Int) - 1).toNat) (by omega)).2.1 (hl.at (i := ((i : Int) - 1).toNat) (by omega)).2.2 (hl.at (i := i) (by omega)).1.1 (hl.at (i := i) (by omega)).1.2) rfl rfl (.inr rfl) rfl rfl ?_)))))))))))
    refine Qk rfl (QeU rfl rfl (Qk rfl (Qo rfl rfl (Qo rfl rfl ?_))))
    refine hK _ _ (Qb (kp3 rfl rfl rfl) ?_)
    refine Qw rfl (fun h4 => ?_) (fun h4 => ?_)
    ·try rw [h4]
     try simp only [qa, qb, qc, qd, qe, List.length_map] at h4
     refine Qf fun K hK => Qa rfl ?_
     refine hK _ _ (Qb (kp1 rfl) ?_)
     refine Qu (Qr (Qj (Q0 (Qr (Qj (Qs rfl ?_))))))
     first
      | exact (QhI hI.2 (by omega)).symm
      | exact (Qcv (i := i) (by omega) (QgR (by omega) (.inl h2))).symm
      | (simp only [QdQ] at *; exact (Qcv (i := i) (by omega) (QgR (by omega) (.inr ⟨by omega, h4⟩))).symm)
    ·try rw [h4]
     try simp only [qa, qb, qc, qd, qe, List.length_map] at h4
     refine Qv (Qg (Qd (kp2 rfl rfl) (QL fun K hK => Qa rfl (Q1 rfl rfl (by first | exact Qp (by omega) (by omega) | rfl) (Qa rfl (hK _ ?_))))))
     refine Qi (i + 1) ?_ ?_ ?_
     ·exact Za (kp2 rfl rfl)
     ·exact ⟨by omega, QkH hI.2 (QoD (by omega) h2 (by first | exact .inl (by omega) | (simp only [QdQ] at *; exact .inr (Int.not_le.1 h4))))⟩
     ·first | omega | (simp only; omega) | (dsimp only; omega)
   ·try rw [h3]
    try simp only [qa, qb, qc, qd, qe, List.length_map] at h3
    refine Qt rfl (Qt rfl (Qt rfl (Qt rfl (Qt rfl (Qt rfl (Qt rfl (Qt rfl (Qt rfl (Qt rfl (Qt rfl (Qt rfl ?_)))))))))))
    refine Qt rfl (Qk rfl (Qo rfl rfl (Qo rfl rfl ?_)))
    refine hK _ _ (Qb (kp3 rfl rfl rfl) ?_)
    refine ZI rfl (Qv (Qg (Qd (kp2 rfl rfl) (QL fun K hK => Qa rfl (Q1 rfl rfl (by first | exact Qp (by omega) (by omega) | rfl) (Qa rfl (hK _ ?_)))))))
    refine Qi (i + 1) ?_ ?_ ?_
    ·exact Za (kp2 rfl rfl)
    ·exact ⟨by omega, QkH hI.2 (QoD (by omega) h2 (by first | exact .inl (by omega) | (simp only [QdQ] at *; exact .inr (Int.not_le.1 h4))))⟩
    ·first | omega | (simp only; omega) | (dsimp only; omega)
 ·try rw [h1]
  try simp only [qa, qb, qc, qd, qe, List.length_map] at h1
  refine Zg (QK (Qx (QD (Qd (Q5) (Qf fun K hK => Qa rfl ?_)))))
  refine hK _ _ (Qb (kp1 rfl) ?_)
  refine Qu (Qs rfl ?_)
  first
   | exact (QhI hI.2 (by omega)).symm
   | exact (Qcv (i := i) (by omega) (QgR (by omega) (.inl h2))).symm
   | (simp only [QdQ] at *; exact (Qcv (i := i) (by omega) (QgR (by omega) (.inr ⟨by omega, h4⟩))).symm)
theorem QaT {l : List (Cu × Cu)} (hl : Sm l) {x y : Cu} (hx : Cu.sm x) (hy : Cu.sm y) : Ok Tryz.prog 106 [ZE l, .agg (dCu x), .agg (dCu y)] (.bool (mIn l x y)) := by
 refine Ok.ofT ZT Tryz.func106 QqZ (Nat.le_of_ble_eq_true rfl) ?_
 show TW _ _ tf106.body _ _
 have hn := hl.1
 refine Qf fun K hK => Zw rfl rfl rfl (Zw rfl rfl rfl (Qa rfl ?_))
 refine hK _ _ (Qb (kp3 rfl rfl rfl) ?_)
 refine QA ?_ -- 0
 refine Qf fun K hK => Qa rfl ?_
 refine hK _ _ (Qb (kp4 rfl rfl rfl rfl) ?_)
 refine Qy ?_
 refine Zj (ι := Nat) (fun i => ⟨[(0, ZE l), (4, .ref 4 0 0), (5, .ref 5 0 0), (7, .int .i64 i)], [(4, ⟨[dCu x], 7, 105, true⟩), (5, ⟨[dCu y], 7, 105, true⟩)]⟩) (fun i => i <= l.length /\ (l.take i).any (inC x y) = false) (fun i => l.length - i) 0 ?_ ?_ ?_
 ·exact Q3 (l := [0, 4, 5, 7]) (lH := [4, 5]) (kp4 rfl rfl rfl rfl) (Qe rfl (Qe rfl Ql)) rfl rfl rfl
 ·exact ⟨Nat.zero_le _, by simp⟩
 intro i hI
 try dsimp only
 refine QA ?_ -- 1
 refine Qf fun K hK => Qa rfl (Qa rfl (QQ rfl rfl (Z6 rfl rfl ?_)))
 refine hK _ _ (Qb (kp5 rfl rfl rfl rfl rfl) ?_)
 refine Qw rfl (fun h1 => ?_) (fun h1 => ?_)
 ·try rw [h1]
  try simp only [qa, qb, qc, qd, qe, List.length_map] at h1
  refine Qv (Qd (kp4 rfl rfl rfl rfl) ?_)
  refine QA ?_ -- 2
  refine Qy (Qf fun K hK => Qa rfl (Qa rfl (QJ rfl rfl rfl (by omega) (QR (by omega)) rfl (Q8 rfl rfl (QN (ds0 := [11, 10, 9, 8, 7, 6, 5, 4, 3, 2, 1, 0]) (cs := [_, _, _, _, _, _, _]) rfl rfl rfl rfl rfl rfl (QN (ds0 := [11, 10, 9, 8, 7, 6, 5, 4, 3, 2, 1, 0]) (cs := [_, _, _, _, _, _, _]) rfl rfl rfl rfl rfl rfl (QW (ds0 := [10, 9, 8, 7, 6, 5, 4, 3, 2, 1, 0]) (Zs (hl.at (i := i) (by omega)).1.1 (hl.at (i := i) (by omega)).1.2 hx.1 hx.2) rfl rfl (.inr rfl) rfl rfl (Qol rfl rfl (Qa rfl ?_)))))))))
  refine QE (g := 22) rfl (fun h2 => ?_) (fun h2 => ?_)
  ·try rw [h2]
   try simp only [qa, qb, qc, qd, qe, List.length_map] at h2
   refine Qk rfl (QN (ds0 := [2, 1, 0]) (cs := [_, _, _, _, _, _, _]) rfl rfl rfl rfl rfl rfl (Qk rfl (Qa rfl (Qk rfl (Qa rfl (Qk rfl (QJ rfl rfl rfl (by omega) (QR (by omega)) rfl (Qk rfl (Q8 rfl rfl (Qk rfl (QN (ds0 := [2, 1, 0]) (cs := [_, _, _, _, _, _, _]) rfl rfl rfl rfl rfl rfl ?_)))))))))))
   refine Qk rfl (QW (ds0 := [1, 0]) (Zs hy.1 hy.2 (hl.at (i := i) (by omega)).2.1 (hl.at (i := i) (by omega)).2.2) rfl rfl (.inr rfl) rfl rfl (Qk rfl (Qol rfl rfl (Qo rfl rfl ?_))))
   refine hK _ _ (Qb (kp5 rfl rfl rfl rfl rfl) ?_)
   refine Qw rfl (fun h3 => ?_) (fun h3 => ?_)
   ·try rw [h3]
    try simp only [qa, qb, qc, qd, qe, List.length_map] at h3
    refine Qf fun K hK => Qa rfl ?_
    refine hK _ _ (Qb (kp1 rfl) ?_)
    refine Qu (Qr (Qj (Q0 (Qr (Qj (Qs rfl ?_))))))
    first
     | exact (QlE (i := i) (by omega) hI.2).symm
     | exact (Qjf (i := i) (by omega) (Qp5 h2 h3)).symm
   ·try rw [h3]
    try simp only [qa, qb, qc, qd, qe, List.length_map] at h3
    refine Qv (Qg (Qd (kp4 rfl rfl rfl rfl) (QL fun K hK => Qa rfl (Q1 rfl rfl (by first | exact Qp (by omega) (by omega) | rfl) (Qa rfl (hK _ ?_))))))
    refine Qi (i + 1) ?_ ?_ ?_
    ·exact Q3 (l := [0, 4, 5, 7]) (lH := [4, 5]) (kp4 rfl rfl rfl rfl) (Qe rfl (Qe rfl Ql)) rfl rfl rfl
    ·exact ⟨by omega, Qh5 (by omega) hI.2 (Qp4 (by first | exact .inl h2 | exact .inr h3))⟩
    ·first | omega | (simp only; omega) | (dsimp only; omega)
  ·try rw [h2]
   try simp only [qa, qb, qc, qd, qe, List.length_map] at h2
   refine Qt rfl (Qt rfl (Qt rfl (Qt rfl (Qt rfl (Qt rfl (Qt rfl (Qt rfl (Qo rfl rfl ?_))))))))
   refine hK _ _ (Qb (kp5 rfl rfl rfl rfl rfl) ?_)
   refine ZI rfl (Qv (Qg (Qd (kp4 rfl rfl rfl rfl) (QL fun K hK => Qa rfl (Q1 rfl rfl (by first | exact Qp (by omega) (by omega) | rfl) (Qa rfl (hK _ ?_)))))))
   refine Qi (i + 1) ?_ ?_ ?_
   ·exact Q3 (l := [0, 4, 5, 7]) (lH := [4, 5]) (kp4 rfl rfl rfl rfl) (Qe rfl (Qe rfl Ql)) rfl rfl rfl
   ·exact ⟨by omega, Qh5 (by omega) hI.2 (Qp4 (by first | exact .inl h2 | exact .inr h3))⟩
   ·first | omega | (simp only; omega) | (dsimp only; omega)
 ·try rw [h1]
  try simp only [qa, qb, qc, qd, qe, List.length_map] at h1
  refine Zg (QK (Qx (QD (Qd (Q5) (Qf fun K hK => Qa rfl ?_)))))
  refine hK _ _ (Qb (kp1 rfl) ?_)
  refine Qu (Qs rfl ?_)
  first
   | exact (QlE (i := i) (by omega) hI.2).symm
   | exact (Qjf (i := i) (by omega) (Qp5 h2 h3)).symm
end Go.Proofs
namespace Go.Proofs
open Go Go.Abs M3 M25
set_option linter.unusedVariables false
set_option linter.unusedSimpArgs false
theorem Qat {l : List (Cu × Cu)} (hl : Sm l) {a b c : Int} {p q : List UInt8} (hp : p.length <= 1000000) (hq : q.length <= 1000000) : Ok Tryz.prog 108 [ZE l, .agg [.int .i64 a, .int .i64 b, .int .i64 c, .str p, .str q]] (.bool (Qhz l a b c p q)) := by
 refine Ok.ofT ZT Tryz.func108 Qq1 (Nat.le_of_ble_eq_true rfl) ?_
 show TW _ _ tf108.body _ _
 have hn := hl.1
 refine Qf fun K hK => Zw rfl rfl rfl (Qa rfl ?_)
 refine hK _ _ (Qb (kp2 rfl rfl) ?_)
 refine QA ?_ -- 0
 refine Qf fun K hK => Qa rfl ?_
 refine hK _ _ (Qb (kp3 rfl rfl rfl) ?_)
 refine Qy ?_
 refine Zj (ι := Nat) (fun i => ⟨[(0, ZE l), (3, .ref 3 0 0), (5, .int .i64 i)], [(3, ⟨[[.int .i64 a, .int .i64 b, .int .i64 c, .str p, .str q]], 5, 67, true⟩)]⟩) (fun i => i <= l.length /\ (l.take i).any (fun s => QhA s a b c p q) = false) (fun i => l.length - i) 0 ?_ ?_ ?_
 ·exact Q3 (l := [0, 3, 5]) (lH := [3]) (kp3 rfl rfl rfl) (Qe rfl Ql) rfl rfl rfl
 ·exact ⟨Nat.zero_le _, by simp⟩
 intro i hI
 try dsimp only
 refine QA ?_ -- 1
 refine Qf fun K hK => Qa rfl (Qa rfl (QQ rfl rfl (Z6 rfl rfl (Qa rfl ?_))))
 refine QE (g := 10) rfl (fun h1 => ?_) (fun h1 => ?_)
 ·try rw [h1]
  try simp only [qa, qb, qc, qd, qe, List.length_map] at h1
  refine Qk rfl (Qa rfl (Qk rfl (QI (ZU hl) rfl rfl (.inr rfl) (Qo rfl rfl ?_))))
  refine hK _ _ (Qb (kp4 rfl rfl rfl rfl) ?_)
  refine Qw rfl (fun h2 => ?_) (fun h2 => ?_)
  ·try rw [h2]
   try simp only [qa, qb, qc, qd, qe, List.length_map] at h2
   refine Qv (Qd (kp3 rfl rfl rfl) ?_)
   refine QA ?_ -- 2
   refine Qy (Qf fun K hK => Qa rfl (Qa rfl (QJ rfl rfl rfl (by omega) (QR (by omega)) rfl (QN (ds0 := [0]) (cs := [_, _, _, _, _, _, _, _, _, _, _, _, _, _]) rfl rfl rfl rfl rfl rfl (QN (ds0 := [0]) (cs := [_, _, _, _, _]) rfl rfl rfl rfl rfl rfl (QW (ds0 := []) (QcN (hl.at (i := i) (by omega)).1.1 (hl.at (i := i) (by omega)).1.2 (hl.at (i := i) (by omega)).2.1 (hl.at (i := i) (by omega)).2.2 hp hq) rfl rfl (.inr rfl) rfl rfl ?_))))))
   refine hK _ _ (Qb (kp4 rfl rfl rfl rfl) ?_)
   refine Qw rfl (fun h3 => ?_) (fun h3 => ?_)
   ·try rw [h3]
    try simp only [qa, qb, qc, qd, qe, List.length_map] at h3
    refine Qf fun K hK => Qa rfl ?_
    refine hK _ _ (Qb (kp1 rfl) ?_)
    refine Qu (Qr (Qj (Q0 (Qr (Qj (Qs rfl ?_))))))
    first
     | exact (Qhn (i := i) (by omega) hI.2).symm
     | exact (Qho h2).symm
     | exact (Qhp h2 (i := i) (by omega) h3).symm
   ·try rw [h3]
    try simp only [qa, qb, qc, qd, qe, List.length_map] at h3
    refine Qv (Qg (Qd (kp3 rfl rfl rfl) (QL fun K hK => Qa rfl (Q1 rfl rfl (by first | exact Qp (by omega) (by omega) | rfl) (Qa rfl (hK _ ?_))))))
    refine Qi (i + 1) ?_ ?_ ?_
    ·exact Q3 (l := [0, 3, 5]) (lH := [3]) (kp3 rfl rfl rfl) (Qe rfl Ql) rfl rfl rfl
    ·exact ⟨by omega, Qh5 (by omega) hI.2 h3⟩
    ·first | omega | (simp only; omega) | (dsimp only; omega)
  ·try rw [h2]
   try simp only [qa, qb, qc, qd, qe, List.length_map] at h2
   refine Zg (QK (Qx (QD (Qd (Q5) (Qf fun K hK => Qa rfl ?_)))))
   refine hK _ _ (Qb (kp1 rfl) ?_)
   refine Qu (Qs rfl ?_)
   first
    | exact (Qhn (i := i) (by omega) hI.2).symm
    | exact (Qho h2).symm
    | exact (Qhp h2 (i := i) (by omega) h3).symm
 ·try rw [h1]
  try simp only [qa, qb, qc, qd, qe, List.length_map] at h1
  refine Qt rfl (Qt rfl (Qo rfl rfl ?_))
  refine hK _ _ (Qb (kp4 rfl rfl rfl rfl) ?_)
  refine ZI rfl (Zg (QK (Qx (QD (Qd (Q5) (Qf fun K hK => Qa rfl ?_))))))
  refine hK _ _ (Qb (kp1 rfl) ?_)
  refine Qu (Qs rfl ?_)
  first
   | exact (Qhn (i := i) (by omega) hI.2).symm
   | exact (Qho h2).symm
   | exact (Qhp h2 (i := i) (by omega) h3).symm
theorem YE {s : List (Cu × Cu) × List (Cu × Cu)} (h1s : Sm s.1) (h2s : Sm s.2) : Ok Tryz.prog 97 [Qhd s] (.bool (QfQ s)) := by
 refine Ok.ofT ZT Tryz.func97 QsG (Nat.le_of_ble_eq_true rfl) ?_
 show TW _ _ tf97.body _ _
 have hn := h1s.1
 refine Qf fun K hK => Zw rfl rfl rfl (Qa rfl ?_)
 refine hK _ _ (Qb (kp1 rfl) ?_)
 refine QA ?_ -- 0
 refine Qf fun K hK => Qh rfl rfl (QC rfl rfl rfl (QI (ZU h1s) rfl rfl (.inr rfl) (Yd rfl (Qa rfl ?_))))
 refine QE (g := 8) rfl (fun h1 => ?_) (fun h1 => ?_)
 ·try rw [h1]
  try simp only [qa, qb, qc, qd, qe, List.length_map] at h1
  refine Qt rfl (Qt rfl (Qt rfl (Qt rfl (Qo rfl rfl ?_))))
  refine hK _ _ (Qb (kp2 rfl rfl) ?_)
  refine Zu rfl (Qf fun K hK => Qa rfl ?_)
  refine hK _ _ (Qb (kp1 rfl) ?_)
  refine Qu (Qj (Qs rfl ?_))
  first
   | exact (QdN (i := i) h1 h2 (by omega) hI.2).symm
   | exact (QaJ (i := i) (by omega) (.inl h4)).symm
   | exact (QaJ (i := i) (by omega) (.inr h5)).symm
   | exact (QaK (.inl h1)).symm
   | exact (QaK (.inr h2)).symm
 ·try rw [h1]
  try simp only [qa, qb, qc, qd, qe, List.length_map] at h1
  refine Qk rfl (Qh rfl rfl (Qk rfl (QC rfl rfl rfl (Qk rfl (QI (ZU h2s) rfl rfl (.inr rfl) (Qk rfl (Yd rfl (Qo rfl rfl ?_))))))))
  refine hK _ _ (Qb (kp2 rfl rfl) ?_)
  refine Qw rfl (fun h2 => ?_) (fun h2 => ?_)
  ·try rw [h2]
   try simp only [qa, qb, qc, qd, qe, List.length_map] at h2
   refine Qf fun K hK => Qa rfl ?_
   refine hK _ _ (Qb (kp1 rfl) ?_)
   refine Qu (Qj (Qs rfl ?_))
   first
    | exact (QdN (i := i) h1 h2 (by omega) hI.2).symm
    | exact (QaJ (i := i) (by omega) (.inl h4)).symm
    | exact (QaJ (i := i) (by omega) (.inr h5)).symm
    | exact (QaK (.inl h1)).symm
    | exact (QaK (.inr h2)).symm
  ·try rw [h2]
   try simp only [qa, qb, qc, qd, qe, List.length_map] at h2
   refine Qv (Qd (kp1 rfl) ?_)
   refine QA ?_ -- 1
   refine Qf fun K hK => Qa rfl ?_
   refine hK _ _ (Qb (kp2 rfl rfl) ?_)
   refine Qy ?_
   refine Zj (ι := Nat) (fun i => ⟨[(1, .ref 1 0 0), (3, .int .i64 i)], [(1, ⟨[[ZE s.1, ZE s.2]], 2, 74, true⟩)]⟩) (fun i => i <= s.1.length /\ (s.1.take i).all (fun x => QbA x.1 && QbA x.2) = true) (fun i => s.1.length - i) 0 ?_ ?_ ?_
   ·exact Q3 (l := [1, 3]) (lH := [1]) (kp2 rfl rfl) (Qe rfl Ql) rfl rfl rfl
   ·exact ⟨Nat.zero_le _, by simp⟩
   intro i hI
   try dsimp only
   refine QA ?_ -- 2
   refine Qf fun K hK => Qa rfl (Qh rfl rfl (QC rfl rfl rfl (QQ rfl rfl (Z6 rfl rfl ?_))))
   refine hK _ _ (Qb (kp3 rfl rfl rfl) ?_)
   refine Qw rfl (fun h3 => ?_) (fun h3 => ?_)
   ·try rw [h3]
    try simp only [qa, qb, qc, qd, qe, List.length_map] at h3
    refine Qv (Qd (kp2 rfl rfl) ?_)
    refine QA ?_ -- 3
    refine Qy (Qf fun K hK => Qh rfl rfl (QC rfl rfl rfl (Qa rfl (QJ rfl rfl rfl (by omega) (QR (by omega)) rfl (Q8 rfl rfl (QH (cs := [_, _, _, _, _, _, _]) rfl rfl rfl rfl (QI (XV) rfl rfl (.inr rfl) (Yd rfl (Qa rfl ?_)))))))))
    refine QE (g := 29) rfl (fun h4 => ?_) (fun h4 => ?_)
    ·try rw [h4]
     try simp only [qa, qb, qc, qd, qe, List.length_map] at h4
     refine Qt rfl (Qt rfl (Qt rfl (Qt rfl (Qt rfl (Qt rfl (Qt rfl (Qt rfl (Qo rfl rfl ?_))))))))
     refine hK _ _ (Qb (kp3 rfl rfl rfl) ?_)
     refine Zu rfl (Qf fun K hK => Qa rfl ?_)
     refine hK _ _ (Qb (kp1 rfl) ?_)
     refine Qu (Qr (Qj (Q0 (Qr (Qj (Qs rfl ?_))))))
     first
      | exact (QdN (i := i) h1 h2 (by omega) hI.2).symm
      | exact (QaJ (i := i) (by omega) (.inl h4)).symm
      | exact (QaJ (i := i) (by omega) (.inr h5)).symm
      | exact (QaK (.inl h1)).symm
      | exact (QaK (.inr h2)).symm
    ·try rw [h4]
     try simp only [qa, qb, qc, qd, qe, List.length_map] at h4
     refine Qk rfl (Qh rfl rfl (Qk rfl (QC rfl rfl rfl (Qk rfl (Qa rfl (Qk rfl (QJ rfl rfl rfl (by omega) (QR (by omega)) rfl (Qk rfl (Q8 rfl rfl (Qk rfl (QH (cs := [_, _, _, _, _, _, _]) rfl rfl rfl rfl ?_)))))))))))
     refine Qk rfl (QI (XV) rfl rfl (.inr rfl) (Qk rfl (Yd rfl (Qo rfl rfl ?_))))
     refine hK _ _ (Qb (kp3 rfl rfl rfl) ?_)
     refine Qw rfl (fun h5 => ?_) (fun h5 => ?_)
     ·try rw [h5]
      try simp only [qa, qb, qc, qd, qe, List.length_map] at h5
      refine Qf fun K hK => Qa rfl ?_
      refine hK _ _ (Qb (kp1 rfl) ?_)
      refine Qu (Qr (Qj (Q0 (Qr (Qj (Qs rfl ?_))))))
      first
       | exact (QdN (i := i) h1 h2 (by omega) hI.2).symm
       | exact (QaJ (i := i) (by omega) (.inl h4)).symm
       | exact (QaJ (i := i) (by omega) (.inr h5)).symm
       | exact (QaK (.inl h1)).symm
       | exact (QaK (.inr h2)).symm
     ·try rw [h5]
      try simp only [qa, qb, qc, qd, qe, List.length_map] at h5
      refine Qv (Qg (Qd (kp2 rfl rfl) (QL fun K hK => Qa rfl (Q1 rfl rfl (by first | exact Qp (by omega) (by omega) | rfl) (Qa rfl (hK _ ?_))))))
      refine Qi (i + 1) ?_ ?_ ?_
      ·exact Q3 (l := [1, 3]) (lH := [1]) (kp2 rfl rfl) (Qe rfl Ql) rfl rfl rfl
      ·exact ⟨by omega, Yb (by omega) hI.2 (by rw [show QbA s.1[i].1 = true from h4, show QbA s.1[i].2 = true from h5]; rfl)⟩
      ·first | omega | (simp only; omega) | (dsimp only; omega)
   ·try rw [h3]
    try simp only [qa, qb, qc, qd, qe, List.length_map] at h3
    refine Zg (QK (Qx (QD (Qd (Q5) (Qf fun K hK => Qa rfl ?_)))))
    refine hK _ _ (Qb (kp1 rfl) ?_)
    refine Qu (Qs rfl ?_)
    first
     | exact (QdN (i := i) h1 h2 (by omega) hI.2).symm
     | exact (QaJ (i := i) (by omega) (.inl h4)).symm
     | exact (QaJ (i := i) (by omega) (.inr h5)).symm
     | exact (QaK (.inl h1)).symm
     | exact (QaK (.inr h2)).symm
theorem Qdp {s : List (Cu × Cu) × List (Cu × Cu)} (h1s : Sm s.1) (h2s : Sm s.2) {a b c : Int} {p q : List UInt8} (hp : p.length <= 1000000) (hq : q.length <= 1000000) : Ok Tryz.prog 100 [Qhd s, .agg [.int .i64 a, .int .i64 b, .int .i64 c, .str p, .str q]] (.bool (Qlj s a b c p q)) := by
 refine Ok.ofT ZT Tryz.func100 QqT (Nat.le_of_ble_eq_true rfl) ?_
 show TW _ _ tf100.body _ _
 refine Qf fun K hK => Zw rfl rfl rfl (Zw rfl rfl rfl (Qa rfl ?_))
 refine hK _ _ (Qb (kp2 rfl rfl) ?_)
 refine QA ?_ -- 0
 refine Qf fun K hK => QH (cs := [_, _]) rfl rfl rfl rfl (QI (YE h1s h2s) rfl rfl (.inr rfl) (Yd rfl (Qa rfl ?_)))
 refine QE (g := 8) rfl (fun h1 => ?_) (fun h1 => ?_)
 ·try rw [h1]
  try simp only [qa, qb, qc, qd, qe] at h1
  refine Qt rfl (Qt rfl (Qt rfl (Qo rfl rfl ?_)))
  refine hK _ _ (Qb (kp3 rfl rfl rfl) ?_)
  refine Zu rfl (Qf fun K hK => Qa rfl ?_)
  refine hK _ _ (Qb (kp1 rfl) ?_)
  refine Qu (Qj (Qs rfl ?_))
  simp_all [Qlj]
 ·try rw [h1]
  try simp only [qa, qb, qc, qd, qe] at h1
  refine Qk rfl (QH (cs := [_, _, _, _, _]) rfl rfl rfl rfl (Qk rfl (QI (Zf hp hq) rfl rfl (.inr rfl) (Qk rfl (Yd rfl (Qo rfl rfl ?_))))))
  refine hK _ _ (Qb (kp3 rfl rfl rfl) ?_)
  refine Qw rfl (fun h2 => ?_) (fun h2 => ?_)
  ·try rw [h2]
   try simp only [qa, qb, qc, qd, qe] at h2
   refine Qf fun K hK => Qa rfl ?_
   refine hK _ _ (Qb (kp1 rfl) ?_)
   refine Qu (Qj (Qs rfl ?_))
   simp_all [Qlj]
  ·try rw [h2]
   try simp only [qa, qb, qc, qd, qe] at h2
   refine Qv (Qd (kp2 rfl rfl) ?_)
   refine QA ?_ -- 1
   refine Qf fun K hK => Qh rfl rfl (QC rfl rfl rfl (Qg5 rfl rfl ?_))
   refine hK _ _ (Qb (kp3 rfl rfl rfl) ?_)
   refine Qw rfl (fun h3 => ?_) (fun h3 => ?_)
   ·try rw [h3]
    try simp only [qa, qb, qc, qd, qe] at h3
    refine Qf fun K hK => Qh rfl rfl (QC rfl rfl rfl (QH (cs := [_, _, _, _, _]) rfl rfl rfl rfl (QI (Qat h1s hp hq) rfl rfl (.inr rfl) (Qa rfl ?_))))
    refine hK _ _ (Qb (kp1 rfl) ?_)
    refine Qu (Qj (Qs rfl ?_))
    simp_all [Qlj]
   ·try rw [h3]
    try simp only [qa, qb, qc, qd, qe] at h3
    refine Qv (Qd (kp2 rfl rfl) (Qf fun K hK => Qh rfl rfl (QC rfl rfl rfl (QH (cs := [_, _, _, _, _]) rfl rfl rfl rfl (QI (Qat h2s hp hq) rfl rfl (.inr rfl) (Qa rfl ?_))))))
    refine hK _ _ (Qb (kp1 rfl) ?_)
    refine Qu (Qs rfl ?_)
    simp_all [Qlj]
end Go.Proofs
namespace Go.Proofs
open Go Go.Abs M3 M25
set_option linter.unusedVariables false
set_option linter.unusedSimpArgs false
theorem Qav {l : List Cu} {c : Cu} (hl : l.length <= 3000000) (hs : ∀ x ∈ l, Cu.sm x) (hc : Cu.sm c) : Ok Tryz.prog 111 [Qhc l, .agg (dCu c)] (Qhc (Qca l c)) := by
 refine Ok.ofT ZT Tryz.func111 Qq4 (Nat.le_of_ble_eq_true rfl) ?_
 show TW _ _ tf111.body _ _
 refine Qf fun K hK => Zw rfl rfl rfl (Qa rfl ?_)
 refine hK _ _ (Qb (kp2 rfl rfl) ?_)
 refine Qf fun K hK => Qa rfl ?_
 refine hK _ _ (Qb (kp3 rfl rfl rfl) ?_)
 refine QA ?_ -- 0
 refine Qy ?_
 refine Zj (ι := Nat) (fun k => ⟨[(0, Qhc l), (3, .ref 3 0 0), (5, .int .i64 k)], [(3, ⟨[dCu c], 7, 105, true⟩)]⟩) (fun k => k <= l.length /\ Qca l c = l.take k ++ Qca (l.drop k) c) (fun k => l.length - k) 0 ?_ ?_ ?_
 ·exact Q3 (l := [0, 3, 5]) (lH := [3]) (kp3 rfl rfl rfl) (Qe rfl Ql) rfl rfl rfl
 ·exact ⟨Nat.zero_le _, by simp⟩
 intro k hI
 try dsimp only
 refine QA ?_ -- 1
 refine Qf fun K hK => Qa rfl (Qa rfl (QQ rfl rfl (Z6 rfl rfl (Qa rfl ?_))))
 refine QE (g := 10) rfl (fun h1 => ?_) (fun h1 => ?_)
 ·try rw [h1]
  try simp only [qa, qb, qc, qd, qe, List.length_map] at h1
  refine Qk rfl (Qa rfl (Qk rfl (Qa rfl (Qk rfl (QJ rfl rfl rfl (by omega) (QR (by omega)) rfl (Qk rfl (QN (ds0 := [2, 1, 0]) (cs := [_, _, _, _, _, _, _]) rfl rfl rfl rfl rfl rfl (Qk rfl (QN (ds0 := [2, 1, 0]) (cs := [_, _, _, _, _, _, _]) rfl rfl rfl rfl rfl rfl (Qk rfl (QW (ds0 := [1, 0]) (Zs (hs _ (List.getElem_mem (by omega))).1 (hs _ (List.getElem_mem (by omega))).2 hc.1 hc.2) rfl rfl (.inr rfl) rfl rfl ?_)))))))))))
  refine Qk rfl (Z6 rfl rfl (Qo rfl rfl ?_))
  refine hK _ _ (Qb (kp4 rfl rfl rfl rfl) ?_)
  refine Qw rfl (fun h2 => ?_) (fun h2 => ?_)
  ·try rw [h2]
   try simp only [qa, qb, qc, qd, qe, List.length_map] at h2
   refine Qv (Qd (kp3 rfl rfl rfl) (Qy (QL fun K hK => Qa rfl (Q1 rfl rfl (by first | exact Qp (by omega) (by omega) | rfl) (Qa rfl (hK _ ?_))))))
   refine Qg ?_
   refine Qi (k + 1) ?_ ?_ ?_
   ·exact Q3 (l := [0, 3, 5]) (lH := [3]) (kp3 rfl rfl rfl) (Qe rfl Ql) rfl rfl rfl
   ·exact ⟨by omega, Qmq (by omega) h2 hI.2⟩
   ·first | omega | (simp only; omega) | (dsimp only; omega)
  ·try rw [h2]
   try simp only [qa, qb, qc, qd, qe, List.length_map] at h2
   refine Zg (QK (Qx (QD (Qd (kp3 rfl rfl rfl) ?_))))
   refine QA ?_ -- 2
   refine Qf fun K hK => Qa rfl (Qa rfl (QQ rfl rfl (Z6 rfl rfl (Qa rfl ?_))))
   refine QE (g := 25) rfl (fun h3 => ?_) (fun h3 => ?_)
   ·try rw [h3]
    try simp only [qa, qb, qc, qd, qe, List.length_map] at h3
    refine Qk rfl (Qa rfl (Qk rfl (Qa rfl (Qk rfl (QJ rfl rfl rfl (by omega) (QR (by omega)) rfl (Qk rfl (QN (ds0 := [2, 1, 0]) (cs := [_, _, _, _, _, _, _]) rfl rfl rfl rfl rfl rfl (Qk rfl (QN (ds0 := [2, 1, 0]) (cs := [_, _, _, _, _, _, _]) rfl rfl rfl rfl rfl rfl (Qk rfl (QW (ds0 := [1, 0]) (Zs (hs _ (List.getElem_mem (by omega))).1 (hs _ (List.getElem_mem (by omega))).2 hc.1 hc.2) rfl rfl (.inr rfl) rfl rfl ?_)))))))))))
    refine Qk rfl (ZK rfl rfl (Qo rfl rfl ?_))
    refine hK _ _ (Qb (kp4 rfl rfl rfl rfl) ?_)
    refine Qw rfl (fun h4 => ?_) (fun h4 => ?_)
    ·try rw [h4]
     try simp only [qa, qb, qc, qd, qe, List.length_map] at h4
     refine Qf fun K hK => Qa rfl (Qa rfl ?_)
     refine hK _ _ (Qb (kp1 rfl) ?_)
     refine Qu (Qj (Yh rfl ?_))
     rw [Qmp (k := k) (by omega) (by assumption) hI.2]; rfl
    ·try rw [h4]
     try simp only [qa, qb, qc, qd, qe, List.length_map] at h4
     refine Qv (Qd (kp3 rfl rfl rfl) (Qf fun K hK => Qa rfl (Qa rfl (Qd4 rfl rfl rfl rfl (by omega) (by omega) (by simp; omega) QiV rfl (Qd3 (ds0 := [5, 1, 0]) rfl rfl (fun _ h => ⟨Qn5, h⟩) rfl (.inl rfl) (by simp) (by simp; omega) (by simp; omega) rfl rfl (QN (ds0 := [6, 5, 1, 0]) (cs := [_, _, _, _, _, _, _]) rfl rfl rfl rfl rfl rfl (QB rfl rfl (Qa3 (ds0 := [1, 0]) rfl rfl (by simp [D.ids, D.sid]) ⟨_, rfl, rfl, rfl, rfl, rfl⟩ rfl rfl (by simp) rfl rfl (by simp; omega) (by simp; omega) rfl rfl (Qa rfl (Qa rfl ?_))))))))))
     refine Qd4 rfl rfl rfl rfl (by omega) (by simp; omega) (by simp) QiV rfl (Qa3 (ds0 := [0]) rfl rfl (by simp [D.ids, D.sid]) ⟨rfl, Qn5, rfl⟩ rfl rfl (by simp) rfl rfl (by simp; omega) (by simp; omega) rfl rfl (Qa rfl ?_))
     refine hK _ _ (Qb (kp1 rfl) ?_)
     refine Qu (Yh rfl ?_)
     rw [Qkw (k := k) (by first | exact .inl (by omega) | exact .inr ⟨by omega, by assumption, by assumption⟩) hI.2]; simp [QbJ, D.fz, D.fzS, QcR, lk, D.can, D.canS, Qhc, D.sid, (show ∀ a b : Nat, a + 1 + b = a + (b + 1) from fun a b => by omega), List.take_of_length_le (show (l.map dCu).length <= l.length by simp)] <;> rfl
   ·try rw [h3]
    try simp only [qa, qb, qc, qd, qe, List.length_map] at h3
    exact absurd h1 h3
 ·try rw [h1]
  try simp only [qa, qb, qc, qd, qe, List.length_map] at h1
  refine Qt rfl (Qt rfl (Qt rfl (Qt rfl (Qt rfl (Qt rfl (Qt rfl (Qo rfl rfl ?_)))))))
  refine hK _ _ (Qb (kp4 rfl rfl rfl rfl) ?_)
  refine ZI rfl (Zg (QK (Qx (QD (Qd (kp3 rfl rfl rfl) ?_)))))
  refine QA ?_ -- 2
  refine Qf fun K hK => Qa rfl (Qa rfl (QQ rfl rfl (Z6 rfl rfl (Qa rfl ?_))))
  refine QE (g := 25) rfl (fun h5 => ?_) (fun h5 => ?_)
  ·try rw [h5]
   try simp only [qa, qb, qc, qd, qe, List.length_map] at h5
   exact absurd h5 h1
  ·try rw [h5]
   try simp only [qa, qb, qc, qd, qe, List.length_map] at h5
   refine Qt rfl (Qt rfl (Qt rfl (Qt rfl (Qt rfl (Qt rfl (Qt rfl (Qo rfl rfl ?_)))))))
   refine hK _ _ (Qb (kp4 rfl rfl rfl rfl) ?_)
   refine ZI rfl (Qv (Qd (kp3 rfl rfl rfl) (Qf fun K hK => Qa rfl (Qa rfl (Qd4 rfl rfl rfl rfl (by omega) (by omega) (by simp; omega) QiV rfl (Qd3 (ds0 := [5, 1, 0]) rfl rfl (fun _ h => ⟨Qn5, h⟩) rfl (.inl rfl) (by simp) (by simp; omega) (by simp; omega) rfl rfl (QN (ds0 := [6, 5, 1, 0]) (cs := [_, _, _, _, _, _, _]) rfl rfl rfl rfl rfl rfl (QB rfl rfl (Qa3 (ds0 := [1, 0]) rfl rfl (by simp [D.ids, D.sid]) ⟨_, rfl, rfl, rfl, rfl, rfl⟩ rfl rfl (by simp) rfl rfl (by simp; omega) (by simp; omega) rfl rfl (Qa rfl ?_))))))))))
   refine Qa rfl (Qd4 rfl rfl rfl rfl (by omega) (by simp; omega) (by simp) QiV rfl (Qa3 (ds0 := [0]) rfl rfl (by simp [D.ids, D.sid]) ⟨rfl, Qn5, rfl⟩ rfl rfl (by simp) rfl rfl (by simp; omega) (by simp; omega) rfl rfl (Qa rfl ?_)))
   refine hK _ _ (Qb (kp1 rfl) ?_)
   refine Qu (Yh rfl ?_)
   rw [Qkw (k := k) (by first | exact .inl (by omega) | exact .inr ⟨by omega, by assumption, by assumption⟩) hI.2]; simp [QbJ, D.fz, D.fzS, QcR, lk, D.can, D.canS, Qhc, D.sid, (show ∀ a b : Nat, a + 1 + b = a + (b + 1) from fun a b => by omega), List.take_of_length_le (show (l.map dCu).length <= l.length by simp)] <;> rfl
theorem Qaf {l : List (Cu × Cu)} (hl : Sm l) : Ok Tryz.prog 105 [ZE l] (Qhc (YR l)) := by
 refine Ok.ofT ZT Tryz.func105 QqY (Nat.le_of_ble_eq_true rfl) ?_
 show TW _ _ tf105.body _ _
 have hn := hl.1
 refine Qf fun K hK => Qa rfl ?_
 refine hK _ _ (Qb (kp1 rfl) ?_)
 refine Qf fun K hK => QI (YX) rfl rfl (.inl rfl) (QI (Y8) rfl rfl (.inl rfl) (QB rfl rfl (Qa rfl ?_)))
 refine hK _ _ (Qb (kp2 rfl rfl) ?_)
 refine QA ?_ -- 0
 refine Qf fun K hK => Qa rfl ?_
 refine hK _ _ (Qb (kp3 rfl rfl rfl) ?_)
 refine Qy ?_
 refine Zj (ι := Nat) (fun i => ⟨[(0, ZE l), (3, Qhc (YR (l.take i))), (4, .int .i64 i)], []⟩) (fun i => i <= l.length) (fun i => l.length - i) 0 ?_ ?_ ?_
 ·exact le_trans (Qix 7 _ (by decide)) (Q3 (l := [0, 3, 4]) (lH := []) (kp3 rfl rfl rfl) Ql rfl rfl rfl)
 ·exact Nat.zero_le _
 intro i hI
 try dsimp only
 refine QA ?_ -- 1
 refine Qf fun K hK => Qa rfl (Qa rfl (QQ rfl rfl (Z6 rfl rfl ?_)))
 refine hK _ _ (Qb (kp4 rfl rfl rfl rfl) ?_)
 refine Qw rfl (fun h1 => ?_) (fun h1 => ?_)
 ·try rw [h1]
  try simp only [qa, qb, qc, qd, qe, List.length_map] at h1
  refine Qv (Qd (kp3 rfl rfl rfl) ?_)
  refine QA ?_ -- 2
  refine Qy (QL fun K hK => Qa rfl (Qa rfl (Qa rfl (QJ rfl rfl rfl (by omega) (QR (by omega)) rfl (Q8 rfl rfl (QN (ds0 := [7, 1, 0]) (cs := [_, _, _, _, _, _, _]) rfl rfl rfl rfl rfl rfl (QW (ds0 := [1, 0]) (Qav (Nat.le_trans (Qe4 hl i).1 (by omega)) (Qe4 hl i).2 (hl.2 _ (List.getElem_mem (by omega))).1) rfl rfl (.inl rfl) rfl rfl (Qa rfl (Qa rfl (QJ rfl rfl rfl (by omega) (QR (by omega)) rfl ?_))))))))))
  refine Q8 rfl rfl (QN (ds0 := [1, 0]) (cs := [_, _, _, _, _, _, _]) rfl rfl rfl rfl rfl rfl (QW (ds0 := [0]) (Qav (Nat.le_trans (Qe5 _ _) (by have := (Qe4 hl i).1; omega)) (QhC (Qe4 hl i).2 (hl.2 _ (List.getElem_mem (by omega))).1) (hl.2 _ (List.getElem_mem (by omega))).2) rfl rfl (.inl rfl) rfl rfl (Qa rfl (hK _ ?_))))
  refine Qg (Qd (kp3 rfl rfl rfl) (QL fun K hK => Qa rfl (Q1 rfl rfl (by first | exact Qp (by omega) (by omega) | rfl) (Qa rfl (hK _ ?_)))))
  refine Qi (i + 1) ?_ ?_ ?_
  ·exact Q3 (l := [0, 3, 4]) (lH := []) (kp3 rfl rfl rfl) Ql (by rw [QnR (by omega)]; rfl) rfl rfl
  ·omega
  ·first | omega | (simp only; omega) | (dsimp only; omega)
 ·try rw [h1]
  try simp only [qa, qb, qc, qd, qe, List.length_map] at h1
  refine Zg (QK (Qx (QD (Qd (kp1 rfl) (Qf fun K hK => Qa rfl (Qa rfl ?_))))))
  refine hK _ _ (Qb (kp1 rfl) ?_)
  refine Qu (Yh rfl ?_)
  rw [List.take_of_length_le (show l.length <= i by omega)]; rfl
end Go.Proofs
namespace Go.Proofs
open Go Go.Abs M3 M25
set_option linter.unusedVariables false
set_option linter.unusedSimpArgs false
theorem Qag {l : List (Cu × Cu)} {x y : Cu} (hn : l.length <= 3000000) (hl : ∀ s ∈ l, Cu.sm s.1 /\ Cu.sm s.2) (hx : Cu.sm x) (hy : Cu.sm y) : OkH Tryz.prog 107 [.osl 500000 l.length, .agg (dCu x), .agg (dCu y)] [(500000, ⟨l.map QeO, 14, 108, true⟩)] (.osl 500000 (Qb8 l x y).length) [(500000, ⟨(Qb8 l x y).map QeO, 14, 108, true⟩)] := by
 refine OkH.mv ZT Tryz.func107 Qq0 (Nat.le_of_ble_eq_true rfl) rfl ?_
 show TW _ _ tf107.body _ _
 refine Qf fun K hK => Zw rfl rfl rfl (Zw rfl rfl rfl (Qa rfl ?_))
 refine hK _ _ (Qb (kp3 rfl rfl rfl) ?_)
 refine QA ?_ -- 0
 refine Qf fun K hK => Qa rfl (QQ rfl rfl (QaE rfl rfl (by first | exact Qp (by omega) (by omega) | rfl) (Qa rfl ?_)))
 refine hK _ _ (Qb (kp4 rfl rfl rfl rfl) ?_)
 refine Qf fun K hK => Qa rfl (QeU rfl rfl (Qa rfl ?_))
 refine QE (g := 13) rfl (fun h1 => ?_) (fun h1 => ?_)
 ·try rw [h1]
  try simp only [qa, qb, qc, qd, qe, List.length_map] at h1
  refine Qk rfl (Qa rfl (Qk rfl (Qa rfl (Qk rfl (XH (ds0 := [5, 4, 2, 1, 0]) rfl rfl rfl (by simp) (by omega) (by omega) rfl rfl rfl (Qk rfl (Qh rfl rfl (Qk rfl (QN (ds0 := [2, 1, 0]) (cs := [_, _, _, _, _, _, _]) rfl (Z7 rfl (ZB (by omega) (by omega))) rfl rfl rfl rfl (Qk rfl (QN (ds0 := [2, 1, 0]) (cs := [_, _, _, _, _, _, _]) rfl rfl rfl rfl rfl rfl ?_)))))))))))
  refine Qk rfl (QW (ds0 := [1, 0]) (Zs (hl _ (List.getElem_mem (by omega))).2.1 (hl _ (List.getElem_mem (by omega))).2.2 hx.1 hx.2) rfl rfl (.inr rfl) rfl rfl (Qk rfl (ZK rfl rfl (Qo rfl rfl ?_))))
  refine hK _ _ (Qb (kp5 rfl rfl rfl rfl rfl) ?_)
  refine Qw rfl (fun h2 => ?_) (fun h2 => ?_)
  ·try rw [h2]
   try simp only [qa, qb, qc, qd, qe, List.length_map] at h2
   refine Qf fun K hK => Qa rfl (Qa rfl (QH (cs := [_, _, _, _, _, _, _]) rfl rfl rfl rfl (Xh rfl rfl rfl (by simp) (by omega) (by omega) rfl (Qh rfl rfl (Q6 rfl rfl (ZB (by omega) (by omega)) rfl rfl rfl rfl rfl ?_)))))
   refine hK _ _ (Qb (kp1 rfl) ?_)
   refine Qf fun K hK => Qa rfl (Qa rfl ?_)
   refine hK _ _ (Qb (kp1 rfl) ?_)
   refine Qu (Qj ?_)
   refine Yx rfl ?_ (Qch ?_)
   ·rw [QiC (i := ((l.length : Int) - 1).toNat) (by omega) h2]; simp [Qlu, D.fz, D.fzS, Qf7, D.can, D.canS]
   ·rw [QiC (i := ((l.length : Int) - 1).toNat) (by omega) h2]; simp [lk, List.map_set, QeO, dCu, setRow, D.sid]
  ·try rw [h2]
   try simp only [qa, qb, qc, qd, qe, List.length_map] at h2
   refine Qv (Qd (kp3 rfl rfl rfl) (Qf fun K hK => Qa rfl (QH (cs := [_, _, _, _, _, _, _]) rfl rfl rfl rfl (QH (cs := [_, _, _, _, _, _, _]) rfl rfl rfl rfl (QV rfl rfl (QB rfl rfl (Xg rfl rfl (fun _ h => YU rfl rfl rfl h) rfl (by simp) rfl rfl rfl (by simp; omega) (by simp; omega) (Qa rfl ?_))))))))
   refine hK _ _ (Qb (kp1 rfl) ?_)
   refine Qu ?_
   refine Yx rfl ?_ (Qch ?_)
   ·rw [QdI (.inr ⟨((l.length : Int) - 1).toNat, by omega, h2⟩)]; simp [Qlu, D.fz, D.fzS, Qf7, D.can, D.canS]
   ·rw [QdI (.inr ⟨((l.length : Int) - 1).toNat, by omega, h2⟩)]; simp [lk, QeO, dCu, D.sid]
 ·try rw [h1]
  try simp only [qa, qb, qc, qd, qe, List.length_map] at h1
  refine Qt rfl (Qt rfl (Qt rfl (Qt rfl (Qt rfl (Qt rfl (Qt rfl (Qt rfl (Qo rfl rfl ?_))))))))
  refine hK _ _ (Qb (kp5 rfl rfl rfl rfl rfl) ?_)
  refine ZI rfl (Qv (Qd (kp3 rfl rfl rfl) (Qf fun K hK => Qa rfl (QH (cs := [_, _, _, _, _, _, _]) rfl rfl rfl rfl (QH (cs := [_, _, _, _, _, _, _]) rfl rfl rfl rfl (QV rfl rfl (QB rfl rfl (Xg rfl rfl (fun _ h => YU rfl rfl rfl h) rfl (by simp) rfl rfl rfl (by simp; omega) (by simp; omega) (Qa rfl ?_)))))))))
  refine hK _ _ (Qb (kp1 rfl) ?_)
  refine Qu ?_
  have h0 : l = [] := List.eq_nil_of_length_eq_zero (by omega)
  refine Yx rfl ?_ (Qch ?_)
  ·rw [QdI (.inl h0)]; simp [Qlu, D.fz, D.fzS, Qf7, D.can, D.canS]
  ·rw [QdI (.inl h0)]; simp [lk, QeO, dCu, D.sid]
end Go.Proofs
namespace Go.Proofs
open Go Go.Abs M3 M25
set_option linter.unusedVariables false
set_option linter.unusedSimpArgs false
theorem Qc1 {l : List (Cu × Cu)} (hl : Sm l) : Ok Tryz.prog 104 [ZE l] (.tup [ZE (QjA l), .bool (l.all QdK)]) := by
  refine Ok.ofT ZT Tryz.func104 QqX (Nat.le_of_ble_eq_true rfl) ?_
  show TW _ _ tf104.body _ _
  have hn := hl.1
  have hc1 := Qb6 l
  refine Qf fun K hK => Qa rfl (Qa rfl ?_)
  refine hK _ _ (Qb (kp1 rfl) ?_)
  refine QA ?_ -- 0
  refine Qf fun K hK => Qa rfl ?_
  refine hK _ _ (Qb (kp2 rfl rfl) ?_)
  refine Qy ?_
  refine Zj (ι := Nat) (fun i => ⟨[(0, ZE l), (4, .int .i64 i)], []⟩) (fun i => i <= l.length /\ (l.take i).all QdK = true) (fun i => l.length - i) 0 ?_ ?_ ?_
  · exact Za (kp2 rfl rfl)
  · exact ⟨Nat.zero_le _, by simp⟩
  intro i hI
  try dsimp only
  refine QA ?_ -- 1
  refine Qf fun K hK => Qa rfl (Qa rfl (QQ rfl rfl (Z6 rfl rfl ?_)))
  refine hK _ _ (Qb (kp3 rfl rfl rfl) ?_)
  refine Qw rfl (fun h1 => ?_) (fun h1 => ?_)
  · try rw [h1]
    try simp only [qa, qb, qc, qd, qe, List.length_map] at h1
    refine Qv (Qd (kp2 rfl rfl) ?_)
    refine QA ?_ -- 2
    refine Qy (Qf fun K hK => Qa rfl (Qa rfl (QJ rfl rfl rfl (by omega) (QR (by omega)) rfl (QH (cs := [_, _, _, _, _, _, _, _, _, _, _, _, _, _]) rfl rfl rfl rfl (QI (YC (hl.at (i := i) (by omega)).1.1 (hl.at (i := i) (by omega)).1.2 (hl.at (i := i) (by omega)).2.1 (hl.at (i := i) (by omega)).2.2) rfl rfl (.inr rfl) (Yd rfl ?_))))))
    refine hK _ _ (Qb (kp3 rfl rfl rfl) ?_)
    refine Qw rfl (fun h2 => ?_) (fun h2 => ?_)
    · try rw [h2]
      try simp only [qa, qb, qc, qd, qe, List.length_map] at h2
      refine Qf fun K hK => Qa rfl (Qa rfl ?_)
      refine hK _ _ (Qb (kp2 rfl rfl) ?_)
      refine Qu (Qr (Qj (Q0 (Qr (Qj ?_)))))
      first
        | exact QT rfl rfl ⟨by rw [QjA, if_neg (by rw [XJ (i := i) (by omega) (by assumption)]; simp)]; rfl, by rw [XJ (i := i) (by omega) (by assumption)]; rfl⟩
        | (have ha : l.all QdK = true := Xy (by omega) hI.2
           exact QT rfl rfl ⟨by rw [QjA, if_pos ha, hI2.done (by omega)]; simp [QbJ, D.fz, D.fzS, QcR, lk, D.can, D.canS, ZE], by rw [ha]; rfl⟩)
    · try rw [h2]
      try simp only [qa, qb, qc, qd, qe, List.length_map] at h2
      refine Qv (Qg (Qd (kp2 rfl rfl) (QL fun K hK => Qa rfl (Q1 rfl rfl (by first | exact Qp (by omega) (by omega) | rfl) (Qa rfl (hK _ ?_))))))
      refine Qi (i + 1) ?_ ?_ ?_
      · exact Za (kp2 rfl rfl)
      · exact ⟨by omega, Yb (by omega) hI.2 (by assumption)⟩
      · first | omega | (simp only; omega) | (dsimp only; omega)
  · try rw [h1]
    try simp only [qa, qb, qc, qd, qe, List.length_map] at h1
    refine Zg (QK (Qx (QD (Qd (kp1 rfl) (Qf fun K hK => Qa rfl ?_)))))
    refine hK _ _ (Qb (kp2 rfl rfl) ?_)
    refine Qf fun K hK => Qa rfl (QI (Qaf hl) rfl rfl (.inl rfl) (Qa rfl ?_))
    refine hK _ _ (Qb (kp3 rfl rfl rfl) ?_)
    refine QA ?_ -- 3
    refine Qf fun K hK => Qa rfl ?_
    refine hK _ _ (Qb (kp4 rfl rfl rfl rfl) ?_)
    refine Qy ?_
    refine Zj (ι := Nat × List (Cu × Cu)) (fun ⟨i, out⟩ => ⟨[(0, ZE l), (5, .osl 5 out.length), (6, Qhc (YR l)), (7, .int .i64 i)], [(5, ⟨out.map QeO, 14, 108, true⟩)]⟩) (fun ⟨i, out⟩ => i <= (YR l).length /\ FillI (mIn l) (YR l) i out) (fun ⟨i, out⟩ => (YR l).length - i) (0, []) ?_ ?_ ?_
    · exact le_trans (Z9 5 5 14 108 rfl rfl) (Q3 (l := [0, 5, 6, 7]) (lH := [5]) (kp4 rfl rfl rfl rfl) (Qe rfl Ql) rfl rfl rfl)
    · exact ⟨Nat.zero_le _, FillI.zero⟩
    intro ⟨i, out⟩ hI
    obtain ⟨hI1, hI2⟩ := hI
    have hI3 := hI2.1
    try dsimp only
    refine QA ?_ -- 4
    refine Qf fun K hK => Qa rfl (Q1 rfl rfl (by first | exact Qp (by omega) (by omega) | rfl) (Qa rfl (QQ rfl rfl (Z6 rfl rfl ?_))))
    refine hK _ _ (Qb (kp5 rfl rfl rfl rfl rfl) ?_)
    refine Qw rfl (fun h3 => ?_) (fun h3 => ?_)
    · try rw [h3]
      try simp only [qa, qb, qc, qd, qe, List.length_map] at h3
      refine Qv (Qd (kp4 rfl rfl rfl rfl) ?_)
      refine QA ?_ -- 5
      refine Qy (Qf fun K hK => Qa rfl (Qa rfl (Qa rfl (QJ rfl rfl rfl (by omega) (QR (by omega)) rfl (QN (ds0 := [0]) (cs := [_, _, _, _, _, _, _]) rfl rfl rfl rfl rfl rfl (Qa rfl (Qa rfl (Q1 rfl rfl (by first | exact Qp (by omega) (by omega) | rfl) (QJ rfl rfl rfl (by omega) (Qki (by omega)) rfl (QN (ds0 := [0]) (cs := [_, _, _, _, _, _, _]) rfl rfl rfl rfl rfl rfl ?_))))))))))
      refine QW (ds0 := []) (QaT hl (Yw hl _ (List.getElem_mem (by omega))) (Yw hl _ (List.getElem_mem (by omega)))) rfl rfl (.inr rfl) rfl rfl ?_
      refine hK _ _ (Qb (kp5 rfl rfl rfl rfl rfl) ?_)
      refine Qw rfl (fun h4 => ?_) (fun h4 => ?_)
      · try rw [h4]
        try simp only [qa, qb, qc, qd, qe, List.length_map] at h4
        refine QL fun K hK => Qa rfl (Qa rfl (Qa rfl (QJ rfl rfl rfl (by omega) (QR (by omega)) rfl (QN (ds0 := [1, 0]) (cs := [_, _, _, _, _, _, _]) rfl rfl rfl rfl rfl rfl (Qa rfl (Qa rfl (Q1 rfl rfl (by first | exact Qp (by omega) (by omega) | rfl) (QJ rfl rfl rfl (by omega) (Qki (by omega)) rfl (QN (ds0 := [1, 0]) (cs := [_, _, _, _, _, _, _]) rfl rfl rfl rfl rfl rfl (QjY (ds0 := [0]) (Qj6 (k := 5) rfl rfl rfl (by decide) rfl (by decide) (by simp [D.ids, D.sid, dCu]) ⟨.osl 5 out.length, by simp, by simp [D.ids, D.sid]⟩ rfl rfl (Qag (by omega) hI2.2.1 (Yw hl _ (List.getElem_mem (by omega))) (Yw hl _ (List.getElem_mem (by omega))))) (fun _ h => by cases h) rfl rfl ?_))))))))))
        refine Qa rfl (hK _ ?_)
        refine Qg (Qd (kp4 rfl rfl rfl rfl) (QL fun K hK => Qa rfl (Q1 rfl rfl (by first | exact Qp (by omega) (by omega) | rfl) (Qa rfl (hK _ ?_)))))
        refine Qi (i + 1, Qb8 out (YR l)[i] (YR l)[i + 1]) ?_ ?_ ?_
        · exact le_trans (Qma (l := [0, 6, 7]) (t := 50) (u := 5) 5 (kp3 rfl rfl rfl) rfl rfl rfl rfl) (Q3 (l := [0, 5, 6, 7]) (lH := [5]) (kp4 rfl rfl rfl rfl) (Qe rfl Ql) rfl rfl rfl)
        · exact ⟨by omega, hI2.take (Yw hl) (by omega) (by assumption)⟩
        · show (YR l).length - (i + 1) < (YR l).length - i; omega
      · try rw [h4]
        try simp only [qa, qb, qc, qd, qe, List.length_map] at h4
        refine Qv (Qg (Qd (kp4 rfl rfl rfl rfl) (QL fun K hK => Qa rfl (Q1 rfl rfl (by first | exact Qp (by omega) (by omega) | rfl) (Qa rfl (hK _ ?_))))))
        refine Qi (i + 1, out) ?_ ?_ ?_
        · exact Q3 (l := [0, 5, 6, 7]) (lH := [5]) (kp4 rfl rfl rfl rfl) (Qe rfl Ql) rfl rfl rfl
        · exact ⟨by omega, hI2.skip (by omega) (by assumption)⟩
        · show (YR l).length - (i + 1) < (YR l).length - i; omega
    · try rw [h3]
      try simp only [qa, qb, qc, qd, qe, List.length_map] at h3
      refine Zg (QK (Qx (QD (Qd (kp1 rfl) (Qf fun K hK => Qa rfl (Qa rfl (Qa rfl ?_)))))))
      refine hK _ _ (Qb (kp2 rfl rfl) ?_)
      refine Qu ?_
      first
        | exact QT rfl rfl ⟨by rw [QjA, if_neg (by rw [XJ (i := i) (by omega) (by assumption)]; simp)]; rfl, by rw [XJ (i := i) (by omega) (by assumption)]; rfl⟩
        | (have ha : l.all QdK = true := Xy (by omega) hI.2
           exact QT rfl rfl ⟨by rw [QjA, if_pos ha, hI2.done (by omega)]; simp [QbJ, D.fz, D.fzS, QcR, lk, D.can, D.canS, ZE], by rw [ha]; rfl⟩)
end Go.Proofs
namespace Go.Proofs
open Go Go.Abs M3 M25
set_option linter.unusedVariables false
set_option linter.unusedSimpArgs false
theorem QaS {a b : List (Cu × Cu)} (ha : Sm a) (hb : Sm b) (hab : a.length + b.length <= 1000000) : Ok Tryz.prog 98 [ZE a, ZE b] (ZE (QoA a b)) := by
 refine Ok.ofT ZT Tryz.func98 QsH (Nat.le_of_ble_eq_true rfl) ?_
 show TW _ _ tf98.body _ _
 refine Qf fun K hK => Qa rfl ?_
 refine hK _ _ (Qb (kp2 rfl rfl) ?_)
 refine QA ?_ -- 0
 refine Qf fun K hK => Qa rfl (QI (ZU ha) rfl rfl (.inr rfl) (Yd rfl (Qa rfl ?_)))
 refine QE (g := 10) rfl (fun h1 => ?_) (fun h1 => ?_)
 ·try rw [h1]
  try simp only [qa, qb, qc, qd, qe] at h1
  refine Qt rfl (Qt rfl (Qt rfl (Qo rfl rfl ?_)))
  refine hK _ _ (Qb (kp3 rfl rfl rfl) ?_)
  refine Zu rfl (Qf fun K hK => Qa rfl ?_)
  refine hK _ _ (Qb (kp1 rfl) ?_)
  refine Qu (Qj (Yh rfl ?_))
  rw [QoA, if_neg (by simp [h1])]; rfl
 ·try rw [h1]
  try simp only [qa, qb, qc, qd, qe] at h1
  refine Qk rfl (Qa rfl (Qk rfl (QI (ZU hb) rfl rfl (.inr rfl) (Qk rfl (Yd rfl (Qo rfl rfl ?_))))))
  refine hK _ _ (Qb (kp3 rfl rfl rfl) ?_)
  refine Qw rfl (fun h2 => ?_) (fun h2 => ?_)
  ·try rw [h2]
   try simp only [qa, qb, qc, qd, qe] at h2
   refine Qf fun K hK => Qa rfl ?_
   refine hK _ _ (Qb (kp1 rfl) ?_)
   refine Qu (Qj (Yh rfl ?_))
   rw [QoA, if_neg (by simp [h1, h2])]; rfl
  ·try rw [h2]
   try simp only [qa, qb, qc, qd, qe] at h2
   refine Qv (Qd (kp2 rfl rfl) (Qf fun K hK => Qa rfl (Qh1 rfl rfl (fun _ h => QgZ QoG h) rfl (.inl rfl) (by simp) (by simp; omega) (by simp; omega) (Qa rfl (Xg rfl rfl (fun _ h => QgZ QoG h) rfl (by simp) rfl rfl rfl (by simp; omega) (by simp; omega) ?_)))))
   apply QoT [17] (by simp)
   ·simp [St.freezeL, St.freeze, rem, D.fz, D.fzS, Box.fz, lk, D.scrub]; exact ⟨rfl, rfl⟩
   ·exact Qc1 (ha.app hb hab)
   ·rfl
   ·simp [QbJ, D.fz, D.fzS, QcR, D.can, D.canS, ZE]
   ·exact .inl rfl
   refine Qa rfl (QO rfl rfl (QO rfl rfl (Qa rfl (Qa rfl ?_))))
   refine hK _ _ (Qb (kp1 rfl) ?_)
   refine Qf fun K hK => Qa rfl (Qa rfl ?_)
   refine hK _ _ (Qb (kp1 rfl) ?_)
   refine Qu (Yh rfl ?_)
   rw [QoA, if_pos ⟨h1, h2⟩]; rfl
theorem Qau {a : List (Cu × Cu)} (ha : Sm a) : Ok Tryz.prog 99 [ZE a] (ZE (QjB a)) := by
 refine Ok.ofT ZT Tryz.func99 QsI (Nat.le_of_ble_eq_true rfl) ?_
 show TW _ _ tf99.body _ _
 have hn := ha.1
 have hc1 := Qb6 a
 refine Qf fun K hK => Qa rfl ?_
 refine hK _ _ (Qb (kp1 rfl) ?_)
 refine QA ?_ -- 0
 refine Qf fun K hK => Qa rfl (QI (ZU ha) rfl rfl (.inr rfl) (Yd rfl ?_))
 refine hK _ _ (Qb (kp2 rfl rfl) ?_)
 refine Qw rfl (fun h1 => ?_) (fun h1 => ?_)
 ·try rw [h1]
  try simp only [qa, qb, qc, qd, qe, List.length_map] at h1
  refine Qf fun K hK => Qa rfl ?_
  refine hK _ _ (Qb (kp1 rfl) ?_)
  refine Qu (Qj (Yh rfl ?_))
  rw [QjB, if_neg (by simp [h1])]; rfl
 ·try rw [h1]
  try simp only [qa, qb, qc, qd, qe, List.length_map] at h1
  refine Qv (Qd (kp1 rfl) (Qf fun K hK => Qa rfl ?_))
  refine hK _ _ (Qb (kp2 rfl rfl) ?_)
  refine Qf fun K hK => Qa rfl (QI (Qaf ha) rfl rfl (.inl rfl) (Qa rfl ?_))
  refine hK _ _ (Qb (kp3 rfl rfl rfl) ?_)
  refine QA ?_ -- 1
  refine Qf fun K hK => Qa rfl ?_
  refine hK _ _ (Qb (kp4 rfl rfl rfl rfl) ?_)
  refine Qy ?_
  refine Zj (ι := Nat × List (Cu × Cu)) (fun ⟨i, out⟩ => ⟨[(0, ZE a), (3, .osl 3 out.length), (4, Qhc (YR a)), (5, .int .i64 i)], [(3, ⟨out.map QeO, 14, 108, true⟩)]⟩) (fun ⟨i, out⟩ => i <= (YR a).length /\ FillI (fun x y => !mIn a x y) (YR a) i out) (fun ⟨i, out⟩ => (YR a).length - i) (0, []) ?_ ?_ ?_
  ·exact le_trans (Z9 3 3 14 108 rfl rfl) (Q3 (l := [0, 3, 4, 5]) (lH := [3]) (kp4 rfl rfl rfl rfl) (Qe rfl Ql) rfl rfl rfl)
  ·exact ⟨Nat.zero_le _, FillI.zero⟩
  intro ⟨i, out⟩ hI
  obtain ⟨hI1, hI2⟩ := hI
  have hI3 := hI2.1
  try dsimp only
  refine QA ?_ -- 2
  refine Qf fun K hK => Qa rfl (Q1 rfl rfl (by first | exact Qp (by omega) (by omega) | rfl) (Qa rfl (QQ rfl rfl (Z6 rfl rfl ?_))))
  refine hK _ _ (Qb (kp5 rfl rfl rfl rfl rfl) ?_)
  refine Qw rfl (fun h2 => ?_) (fun h2 => ?_)
  ·try rw [h2]
   try simp only [qa, qb, qc, qd, qe, List.length_map] at h2
   refine Qv (Qd (kp4 rfl rfl rfl rfl) ?_)
   refine QA ?_ -- 3
   refine Qy (Qf fun K hK => Qa rfl (Qa rfl (Qa rfl (QJ rfl rfl rfl (by omega) (QR (by omega)) rfl (QN (ds0 := [1, 0]) (cs := [_, _, _, _, _, _, _]) rfl rfl rfl rfl rfl rfl (Qa rfl (Qa rfl (Q1 rfl rfl (by first | exact Qp (by omega) (by omega) | rfl) (QJ rfl rfl rfl (by omega) (Qki (by omega)) rfl (QN (ds0 := [1, 0]) (cs := [_, _, _, _, _, _, _]) rfl rfl rfl rfl rfl rfl ?_))))))))))
   refine QW (ds0 := [0]) (QaT ha (Yw ha _ (List.getElem_mem (by omega))) (Yw ha _ (List.getElem_mem (by omega)))) rfl rfl (.inr rfl) rfl rfl (Yd rfl ?_)
   refine hK _ _ (Qb (kp5 rfl rfl rfl rfl rfl) ?_)
   refine Qw rfl (fun h3 => ?_) (fun h3 => ?_)
   ·try rw [h3]
    try simp only [qa, qb, qc, qd, qe, List.length_map] at h3
    refine QL fun K hK => Qa rfl (Qa rfl (Qa rfl (QJ rfl rfl rfl (by omega) (QR (by omega)) rfl (QN (ds0 := [1, 0]) (cs := [_, _, _, _, _, _, _]) rfl rfl rfl rfl rfl rfl (Qa rfl (Qa rfl (Q1 rfl rfl (by first | exact Qp (by omega) (by omega) | rfl) (QJ rfl rfl rfl (by omega) (Qki (by omega)) rfl (QN (ds0 := [1, 0]) (cs := [_, _, _, _, _, _, _]) rfl rfl rfl rfl rfl rfl (QjY (ds0 := [0]) (Qj6 (k := 3) rfl rfl rfl (by decide) rfl (by decide) (by simp [D.ids, D.sid, dCu]) ⟨.osl 3 out.length, by simp, by simp [D.ids, D.sid]⟩ rfl rfl (Qag (by omega) hI2.2.1 (Yw ha _ (List.getElem_mem (by omega))) (Yw ha _ (List.getElem_mem (by omega))))) (fun _ h => by cases h) rfl rfl ?_))))))))))
    refine Qa rfl (hK _ ?_)
    refine Qg (Qd (kp4 rfl rfl rfl rfl) (QL fun K hK => Qa rfl (Q1 rfl rfl (by first | exact Qp (by omega) (by omega) | rfl) (Qa rfl (hK _ ?_)))))
    refine Qi (i + 1, Qb8 out (YR a)[i] (YR a)[i + 1]) ?_ ?_ ?_
    ·exact le_trans (Qma (l := [0, 4, 5]) (t := 40) (u := 3) 3 (kp3 rfl rfl rfl) rfl rfl rfl rfl) (Q3 (l := [0, 3, 4, 5]) (lH := [3]) (kp4 rfl rfl rfl rfl) (Qe rfl Ql) rfl rfl rfl)
    ·exact ⟨by omega, hI2.take (Yw ha) (by omega) (by simp; assumption)⟩
    ·show (YR a).length - (i + 1) < (YR a).length - i; omega
   ·try rw [h3]
    try simp only [qa, qb, qc, qd, qe, List.length_map] at h3
    refine Qv (Qg (Qd (kp4 rfl rfl rfl rfl) (QL fun K hK => Qa rfl (Q1 rfl rfl (by first | exact Qp (by omega) (by omega) | rfl) (Qa rfl (hK _ ?_))))))
    refine Qi (i + 1, out) ?_ ?_ ?_
    ·exact Q3 (l := [0, 3, 4, 5]) (lH := [3]) (kp4 rfl rfl rfl rfl) (Qe rfl Ql) rfl rfl rfl
    ·exact ⟨by omega, hI2.skip (by omega) (by simp; assumption)⟩
    ·show (YR a).length - (i + 1) < (YR a).length - i; omega
  ·try rw [h2]
   try simp only [qa, qb, qc, qd, qe, List.length_map] at h2
   refine Zg (QK (Qx (QD (Qd (kp1 rfl) (Qf fun K hK => Qa rfl (Qa rfl ?_))))))
   refine hK _ _ (Qb (kp1 rfl) ?_)
   refine Qu (Yh rfl ?_)
   rw [QjB, if_pos h1, hI2.done (by omega)]; simp [QbJ, D.fz, D.fzS, QcR, lk, D.can, D.canS, ZE]
end Go.Proofs
namespace Go.Proofs
open Go Go.Abs M3 M25
set_option linter.unusedVariables false
set_option linter.unusedSimpArgs false
theorem Qd7 {a b : QeV} (h1a : Sm a.1) (h2a : Sm a.2) (h1b : Sm b.1) (h2b : Sm b.2) (hl1 : a.1.length + b.1.length <= 1000000) (hl2 : a.2.length + b.2.length <= 1000000) : Ok Tryz.prog 83 [Qhd a, Qhd b] (Qhd (QoB a b)) := by
 refine Ok.ofT ZT Tryz.func83 Qss (Nat.le_of_ble_eq_true rfl) ?_
 show TW _ _ tf83.body _ _
 refine Qf fun K hK => Zw rfl rfl rfl (Zw rfl rfl rfl (ZF rfl ?_))
 refine hK _ _ (Qb (kp3 rfl rfl rfl) ?_)
 refine QA ?_ -- 0
 refine Qf fun K hK => QH (cs := [_, _]) rfl rfl rfl rfl (QI (YE h1a h2a) rfl rfl (.inr rfl) (Yd rfl (Qa rfl ?_)))
 refine QE (g := 8) rfl (fun h1 => ?_) (fun h1 => ?_)
 ·try rw [h1]
  try simp only [qa, qb, qc, qd, qe] at h1
  refine Qt rfl (Qt rfl (Qt rfl (Qo rfl rfl ?_)))
  refine hK _ _ (Qb (kp4 rfl rfl rfl rfl) ?_)
  refine Zu rfl (Qf fun K hK => QI (Z8) rfl rfl (.inl rfl) (Q6 rfl rfl rfl rfl rfl rfl rfl rfl ?_))
  refine hK _ _ (Qb (kp1 rfl) ?_)
  refine Qu (Qj (Post.eq (ZD (ds := [.sl _, .sl _]) (cs := [_, _]) rfl rfl rfl rfl rfl) ?_))
  rw [QoB, if_neg (by simp [h1])]; rfl
 ·try rw [h1]
  try simp only [qa, qb, qc, qd, qe] at h1
  refine Qk rfl (QH (cs := [_, _]) rfl rfl rfl rfl (Qk rfl (QI (YE h1b h2b) rfl rfl (.inr rfl) (Qk rfl (Yd rfl (Qo rfl rfl ?_))))))
  refine hK _ _ (Qb (kp4 rfl rfl rfl rfl) ?_)
  refine Qw rfl (fun h2 => ?_) (fun h2 => ?_)
  ·try rw [h2]
   try simp only [qa, qb, qc, qd, qe] at h2
   refine Qf fun K hK => QI (Z8) rfl rfl (.inl rfl) (Q6 rfl rfl rfl rfl rfl rfl rfl rfl ?_)
   refine hK _ _ (Qb (kp1 rfl) ?_)
   refine Qu (Qj (Post.eq (ZD (ds := [.sl _, .sl _]) (cs := [_, _]) rfl rfl rfl rfl rfl) ?_))
   rw [QoB, if_neg (by simp [h1, h2])]; rfl
  ·try rw [h2]
   try simp only [qa, qb, qc, qd, qe] at h2
   refine Qv (Qd (kp3 rfl rfl rfl) (Qf fun K hK => Qh rfl rfl (QU (ds0 := [7, 1, 0]) rfl rfl rfl rfl rfl (Qh rfl rfl (QU (ds0 := [7, 1, 0]) rfl rfl rfl rfl rfl (QW (ds0 := [1, 0]) (QaS h1a h1b hl1) rfl rfl (.inl rfl) rfl rfl (Qh rfl rfl (QU (ds0 := [2, 1, 0]) rfl rfl rfl rfl rfl (Qh rfl rfl (QU (ds0 := [2, 1, 0]) rfl rfl rfl rfl rfl ?_))))))))))
   refine QW (ds0 := [1, 0]) (QaS h2a h2b hl2) rfl rfl (.inl rfl) rfl rfl (QV rfl rfl (Y2 (ds0 := []) rfl rfl rfl rfl rfl rfl rfl rfl rfl rfl ?_))
   refine hK _ _ (Qb (kp1 rfl) ?_)
   refine Qu (Post.eq (ZD (ds := [.sl _, .sl _]) (cs := [_, _]) rfl rfl rfl rfl rfl) ?_)
   rw [QoB, if_pos ⟨h1, h2⟩]; rfl
theorem Qdq {a : QeV} (h1a : Sm a.1) (h2a : Sm a.2) : Ok Tryz.prog 84 [Qhd a] (Qhd (QhB a)) := by
 refine Ok.ofT ZT Tryz.func84 Qst (Nat.le_of_ble_eq_true rfl) ?_
 show TW _ _ tf84.body _ _
 refine Qf fun K hK => Zw rfl rfl rfl (ZF rfl ?_)
 refine hK _ _ (Qb (kp2 rfl rfl) ?_)
 refine QA ?_ -- 0
 refine Qf fun K hK => QH (cs := [_, _]) rfl rfl rfl rfl (QI (YE h1a h2a) rfl rfl (.inr rfl) (Yd rfl ?_))
 refine hK _ _ (Qb (kp3 rfl rfl rfl) ?_)
 refine Qw rfl (fun h1 => ?_) (fun h1 => ?_)
 ·try rw [h1]
  try simp only [qa, qb, qc, qd, qe] at h1
  refine Qf fun K hK => QI (Z8) rfl rfl (.inl rfl) (Q6 rfl rfl rfl rfl rfl rfl rfl rfl ?_)
  refine hK _ _ (Qb (kp1 rfl) ?_)
  refine Qu (Qj (Post.eq (ZD (ds := [.sl _, .sl _]) (cs := [_, _]) rfl rfl rfl rfl rfl) ?_))
  rw [QhB, if_neg (by simp [h1])]; rfl
 ·try rw [h1]
  try simp only [qa, qb, qc, qd, qe] at h1
  refine Qv (Qd (kp2 rfl rfl) (Qf fun K hK => Qh rfl rfl (QU (ds0 := [5, 1, 0]) rfl rfl rfl rfl rfl (QW (ds0 := [1, 0]) (Qau h1a) rfl rfl (.inl rfl) rfl rfl (Qh rfl rfl (QU (ds0 := [2, 1, 0]) rfl rfl rfl rfl rfl (QW (ds0 := [1, 0]) (Qau h2a) rfl rfl (.inl rfl) rfl rfl (QV rfl rfl (Y2 (ds0 := []) rfl rfl rfl rfl rfl rfl rfl rfl rfl rfl ?_)))))))))
  refine hK _ _ (Qb (kp1 rfl) ?_)
  refine Qu (Post.eq (ZD (ds := [.sl _, .sl _]) (cs := [_, _]) rfl rfl rfl rfl rfl) ?_)
  rw [QhB, if_pos h1]; rfl
end Go.Proofs
namespace Go.Proofs
open Go Go.Abs M3 M25
set_option linter.unusedVariables false
set_option linter.unusedSimpArgs false
theorem Z0 {v n : Int} (hn : n <= 9223372036854775807) (hv : I64 v) : Ok Tryz.prog 31 [.int .i64 v, .int .i64 n] (.int .i64 (mPl v n)) := by
 refine Ok.ofT ZT Tryz.func31 QrF (Nat.le_of_ble_eq_true rfl) ?_
 show TW _ _ tf31.body _ _
 refine Qf fun K hK => Qa rfl ?_
 refine hK _ _ (Qb (kp2 rfl rfl) ?_)
 refine QA ?_ -- 0
 refine Qf fun K hK => Qa rfl (Z6 rfl rfl ?_)
 refine hK _ _ (Qb (kp3 rfl rfl rfl) ?_)
 refine Qw rfl (fun h1 => ?_) (fun h1 => ?_)
 ·try rw [h1]
  try simp only [qa, qb, qc, qd, qe] at h1
  refine Qf fun K hK => Qa rfl ?_
  refine hK _ _ (Qb (kp1 rfl) ?_)
  refine Qu (Qj (QG rfl ?_))
  rw [mPl, if_pos h1]
 ·try rw [h1]
  try simp only [qa, qb, qc, qd, qe] at h1
  refine Qv (Qd (kp2 rfl rfl) (Qf fun K hK => Qa rfl (Qa rfl (Qnk rfl rfl (by omega) (Qa rfl ?_)))))
  refine hK _ _ (Qb (kp2 rfl rfl) ?_)
  refine QA ?_ -- 1
  refine Qf fun K hK => Qa rfl (Z6 rfl rfl ?_)
  refine hK _ _ (Qb (kp3 rfl rfl rfl) ?_)
  refine Qw rfl (fun h2 => ?_) (fun h2 => ?_)
  ·try rw [h2]
   try simp only [qa, qb, qc, qd, qe] at h2
   refine Qf fun K hK => Qa rfl (Qa rfl (Q1 rfl rfl (Qp (by have := Int.lt_tmod_of_pos v (show 0 < n by omega); omega) (by have := Int.tmod_lt_of_pos v (show 0 < n by omega); omega)) (Qa rfl ?_)))
   refine hK _ _ (Qb (kp1 rfl) ?_)
   refine Qu (Qj (QG rfl ?_))
   rw [mPl, if_neg h1, QfR, if_pos h2]
  ·try rw [h2]
   try simp only [qa, qb, qc, qd, qe] at h2
   refine Qv (Qd (kp1 rfl) (Qf fun K hK => Qa rfl (Qa rfl ?_)))
   refine hK _ _ (Qb (kp1 rfl) ?_)
   refine Qu (QG rfl ?_)
   rw [mPl, if_neg h1, QfR, if_neg h2]
theorem Qd6 {l : List Int} {i : Int} : Ok Tryz.prog 61 [Zo l, .int .i64 i] (.int .i64 (Qne l i)) := by
 refine Ok.ofT ZT Tryz.func61 Qr7 (Nat.le_of_ble_eq_true rfl) ?_
 show TW _ _ tf61.body _ _
 refine Qf fun K hK => Qa rfl ?_
 refine hK _ _ (Qb (kp2 rfl rfl) ?_)
 refine QA ?_ -- 0
 refine Qf fun K hK => Qa rfl (Z6 rfl rfl (Qa rfl ?_))
 refine QE (g := 7) rfl (fun h1 => ?_) (fun h1 => ?_)
 ·try rw [h1]
  try simp only [qa, qb, qc, qd, qe, List.length_map] at h1
  refine Qt rfl (Qt rfl (Qt rfl (Qt rfl (Qo rfl rfl ?_))))
  refine hK _ _ (Qb (kp3 rfl rfl rfl) ?_)
  refine Zu rfl (Qf fun K hK => Qa rfl (Qnk rfl rfl (by omega) (Qa rfl ?_)))
  refine hK _ _ (Qb (kp1 rfl) ?_)
  refine Qu (Qj (QG rfl ?_))
  rw [Qne, if_pos (by omega)]
 ·try rw [h1]
  try simp only [qa, qb, qc, qd, qe, List.length_map] at h1
  refine Qk rfl (Qa rfl (Qk rfl (Qa rfl (Qk rfl (QQ rfl rfl (Qk rfl (QeU rfl rfl (Qo rfl rfl ?_))))))))
  refine hK _ _ (Qb (kp3 rfl rfl rfl) ?_)
  refine Qw rfl (fun h2 => ?_) (fun h2 => ?_)
  ·try rw [h2]
   try simp only [qa, qb, qc, qd, qe, List.length_map] at h2
   refine Qf fun K hK => Qa rfl (Qnk rfl rfl (by omega) (Qa rfl ?_))
   refine hK _ _ (Qb (kp1 rfl) ?_)
   refine Qu (Qj (QG rfl ?_))
   rw [Qne, if_pos (by omega)]
  ·try rw [h2]
   try simp only [qa, qb, qc, qd, qe, List.length_map] at h2
   refine Qv (Qd (kp2 rfl rfl) (Qf fun K hK => Qa rfl (Qa rfl (QJ rfl rfl rfl (by omega) (ZB (by omega) (by omega)) rfl (QC rfl rfl rfl (Qa rfl ?_))))))
   refine hK _ _ (Qb (kp1 rfl) ?_)
   refine Qu (QG rfl ?_)
   exact (Qmh (by omega) (by omega)).symm
theorem XK {k : Nat} {L : List Int} {I n : Int} (hk : 1000000 <= k) (hL : ∀ x ∈ L, I64 x) (hn : n <= 9223372036854775807) (et : Nat) : OkH Tryz.prog 36 [.ref k 0 0, .int .i64 n] [(k, gB L I et)] (.int .i64 (nx L I n)) ((k, gB L (nxI I) et) :: [(k, gB L I et)]) := by
 refine OkH.lent hk ZT Tryz.func36 QrK (Nat.le_of_ble_eq_true rfl) rfl ?_
 show TW _ _ tf36.body _ _
 refine Qf fun K hK => Qa rfl ?_
 refine hK _ _ (Qb (kp2 rfl rfl) ?_)
 refine Qf fun K hK => Qa rfl (Ye rfl rfl (Qh rfl Qe3 (QC rfl (Z7 Qeh rfl) rfl (Q1 rfl rfl rfl (Ye rfl rfl (Qh rfl Qe3 (Q6 rfl Qeh rfl rfl rfl rfl rfl rfl ?_)))))))
 refine hK _ _ (Qb (kp2 rfl rfl) ?_)
 refine Qf fun K hK => Qa rfl (Ye rfl rfl (Qh rfl Qe3 (QU (ds0 := [3, 1, 0]) rfl (Z7 Qeh rfl) rfl rfl rfl (Qa rfl (Ye rfl rfl (Qh rfl Qe3 (QU (ds0 := [4, 3, 1, 0]) rfl (Z7 Qeh rfl) rfl rfl rfl (QaE rfl rfl rfl (QW (ds0 := [1, 0]) (Qd6) rfl rfl (.inr rfl) rfl rfl (Qa rfl ?_))))))))))
 refine QW (ds0 := [0]) (Z0 hn (QnQ hL (Qge _))) rfl rfl (.inr rfl) rfl rfl (Qa rfl ?_)
 refine hK _ _ (Qb (kp1 rfl) ?_)
 refine Qu ?_
 exact Yx rfl rfl (QpA Qeh)
end Go.Proofs
namespace Go.Proofs
open Go Go.Abs M3 M25
set_option linter.unusedVariables false
set_option linter.unusedSimpArgs false
theorem Y6 {v : Int} (h0 : 0 <= v) (h1v : v <= 61) : Ok Tryz.prog 50 [.int .i64 v] (.int .i64 (2 ^ v.toNat)) := by
 refine Ok.ofT ZT Tryz.func50 QrW (Nat.le_of_ble_eq_true rfl) ?_
 show TW _ _ tf50.body _ _
 refine Qf fun K hK => Qa rfl ?_
 refine hK _ _ (Qb (kp1 rfl) ?_)
 refine Qf fun K hK => Qa rfl ?_
 refine hK _ _ (Qb (kp2 rfl rfl) ?_)
 refine QA ?_ -- 0
 refine Qf fun K hK => Qa rfl ?_
 refine hK _ _ (Qb (kp3 rfl rfl rfl) ?_)
 refine Qy ?_
 refine Zj (ι := Nat) (fun i => ⟨[(0, .int .i64 v), (3, .int .i64 (2 ^ i)), (4, .int .i64 i)], []⟩) (fun i => (i : Int) <= v) (fun i => v.toNat - i) 0 ?_ ?_ ?_
 ·exact Za (kp3 rfl rfl rfl)
 ·exact h0
 intro i hI
 have hp := QhG (i := i + 1) (by omega)
 rw [Int.pow_succ] at hp
 try dsimp only
 refine QA ?_ -- 1
 refine Qf fun K hK => Qa rfl (Qa rfl (Z6 rfl rfl ?_))
 refine hK _ _ (Qb (kp4 rfl rfl rfl rfl) ?_)
 refine Qw rfl (fun h1 => ?_) (fun h1 => ?_)
 ·try rw [h1]
  try simp only [qa, qb, qc, qd, qe] at h1
  refine Qv (Qd (kp3 rfl rfl rfl) ?_)
  refine QA ?_ -- 2
  refine Qy (QL fun K hK => Qa rfl (QoV rfl rfl (Qp (by obtain ⟨p1, p2⟩ := hp; generalize (2 : Int) ^ i = z at *; omega) (by obtain ⟨p1, p2⟩ := hp; generalize (2 : Int) ^ i = z at *; omega)) (Qa rfl (hK _ ?_))))
  refine Qg (Qd (kp3 rfl rfl rfl) (QL fun K hK => Qa rfl (Q1 rfl rfl (Qp (by omega) (by omega)) (Qa rfl (hK _ ?_)))))
  refine Qi (i + 1) ?_ ?_ ?_
  ·exact Q3 (l := [0, 3, 4]) (lH := []) (kp3 rfl rfl rfl) Ql (by rw [Int.pow_succ]; rfl) rfl rfl
  ·show ((i + 1 : Nat) : Int) <= v; omega
  ·first | omega | (simp only; omega) | (dsimp only; omega)
 ·try rw [h1]
  try simp only [qa, qb, qc, qd, qe] at h1
  refine Zg (QK (Qx (QD (Qd (kp1 rfl) (Qf fun K hK => Qa rfl (Qa rfl ?_))))))
  refine hK _ _ (Qb (kp1 rfl) ?_)
  refine Qu (QG rfl ?_)
  rw [show v.toNat = i by omega]
theorem XL {h m : Int} : Ok Tryz.prog 29 [.int .i64 h, .int .i64 m] (.int .i64 (ZS h m)) := by
 refine Ok.ofT ZT Tryz.func29 QrE (Nat.le_of_ble_eq_true rfl) ?_
 show TW _ _ tf29.body _ _
 refine Qf fun K hK => Qa rfl ?_
 refine hK _ _ (Qb (kp2 rfl rfl) ?_)
 refine QA ?_ -- 0
 refine Qy (Qf fun K hK => Qa rfl (Qa rfl (QeM rfl rfl (Qa rfl (ZK rfl rfl (Qa rfl ?_))))))
 refine hK _ _ (Qb (kp3 rfl rfl rfl) ?_)
 refine Qw rfl (fun h1 => ?_) (fun h1 => ?_)
 ·try rw [h1]
  try simp only [qa, qb, qc, qd, qe] at h1
  refine Qf fun K hK => Qa rfl ?_
  refine hK _ _ (Qb (kp1 rfl) ?_)
  refine Qu (Qr (Qj (QG rfl ?_)))
  rw [ZS, if_pos h1]
 ·try rw [h1]
  try simp only [qa, qb, qc, qd, qe] at h1
  refine Qf fun K hK => Qa rfl (Qa rfl (QeM rfl rfl (ZK rfl rfl (Qa rfl ?_))))
  refine hK _ _ (Qb (kp1 rfl) ?_)
  refine Qw rfl (fun h2 => ?_) (fun h2 => ?_)
  ·try rw [h2]
   try simp only [qa, qb, qc, qd, qe] at h2
   refine Qf fun K hK => Qa rfl ?_
   refine hK _ _ (Qb (kp1 rfl) ?_)
   refine Qu (Qr (Qj (QG rfl ?_)))
   rw [ZS, if_neg h1, if_pos h2]
  ·try rw [h2]
   try simp only [qa, qb, qc, qd, qe] at h2
   refine Qv (Qg (Qd (Q5) (Qf fun K hK => Qa rfl ?_)))
   refine hK _ _ (Qb (kp1 rfl) ?_)
   refine Qu (QG rfl ?_)
   rw [ZS, if_neg h1, if_neg h2]
theorem Qia {h m : Int} : Ok Tryz.prog 87 [.int .i64 h, .int .i64 m] (.int .i64 (QaI h m)) := by
 refine Ok.ofT ZT Tryz.func87 Qsw (Nat.le_of_ble_eq_true rfl) ?_
 show TW _ _ tf87.body _ _
 refine Qf fun K hK => Qa rfl ?_
 refine hK _ _ (Qb (kp2 rfl rfl) ?_)
 refine QA ?_ -- 0
 refine Qy (Qf fun K hK => Qa rfl (Qa rfl (QeT rfl rfl (ZK rfl rfl (Qa rfl ?_)))))
 refine hK _ _ (Qb (kp3 rfl rfl rfl) ?_)
 refine Qw rfl (fun h1 => ?_) (fun h1 => ?_)
 ·try rw [h1]
  try simp only [qa, qb, qc, qd, qe] at h1
  refine Qf fun K hK => Qa rfl ?_
  refine hK _ _ (Qb (kp1 rfl) ?_)
  refine Qu (Qr (Qj (QG rfl ?_)))
  rw [QaI, if_pos h1]
 ·try rw [h1]
  try simp only [qa, qb, qc, qd, qe] at h1
  refine Qf fun K hK => Qa rfl (Qa rfl (QeM rfl rfl (ZK rfl rfl (Qa rfl ?_))))
  refine hK _ _ (Qb (kp1 rfl) ?_)
  refine Qw rfl (fun h2 => ?_) (fun h2 => ?_)
  ·try rw [h2]
   try simp only [qa, qb, qc, qd, qe] at h2
   refine Qf fun K hK => Qa rfl ?_
   refine hK _ _ (Qb (kp1 rfl) ?_)
   refine Qu (Qr (Qj (QG rfl ?_)))
   rw [QaI, if_neg h1, if_pos h2]
  ·try rw [h2]
   try simp only [qa, qb, qc, qd, qe] at h2
   refine Qv (Qg (Qd (Q5) (Qf fun K hK => Qa rfl ?_)))
   refine hK _ _ (Qb (kp1 rfl) ?_)
   refine Qu (QG rfl ?_)
   rw [QaI, if_neg h1, if_neg h2]
end Go.Proofs
namespace Go.Proofs
open Go Go.Abs M3 M25
set_option linter.unusedVariables false
set_option linter.unusedSimpArgs false
theorem Xj  : Ok Tryz.prog 53 [] (.sl (versions.map dVr)) := by
 refine Ok.ofT ZT Tryz.func53 QrZ (Nat.le_of_ble_eq_true rfl) ?_
 show TW _ _ tf53.body _ _
 refine Qf fun K hK => Qa rfl ?_
 refine hK _ _ (Qb (Q5) ?_)
 refine Qf fun K hK => QV rfl rfl (QV rfl rfl (QV rfl rfl (QV rfl rfl (QB rfl rfl (Qa rfl ?_)))))
 refine hK _ _ (Qb (kp1 rfl) ?_)
 refine Qu (Yh rfl ?_)
 rfl
end Go.Proofs
namespace M25
open Go Go.Abs M3
structure WantT where
 u : Int
 s : QeV
structure CandT where
 v : Vr
 sh : Int
 ns : List (List WantT)
 bs : List WantT
structure Qnn where
 n : List UInt8
 f : List UInt8
 cs : List CandT
abbrev Qq := List Qnn
def QeP (x : WantT) : List D := [.int .i64 x.u, ZE x.s.1, ZE x.s.2]
def Q9 (l : List WantT) : D := .sl (l.map QeP)
def QX (l : List (List WantT)) : D := .sl (l.map fun r => [Q9 r])
def Qpb (c : CandT) : List D := [.int .i64 c.v.a, .int .i64 c.v.b, .int .i64 c.v.c, .str c.v.p, .str c.v.q, .int .i64 c.sh, QX c.ns, Q9 c.bs]
def Qj7 (l : List CandT) : D := .sl (l.map Qpb)
def Yq (u : Qnn) : List D := [.str u.n, .str u.f, Qj7 u.cs]
def Z2 (w : Qq) : D := .agg [.sl (w.map Yq)]
structure TermT where
 u : Int
 m : Int
 deriving DecidableEq
structure StepT where
 u : Int
 m : Int
 l : Int
 c : Int
 deriving DecidableEq
structure RowT where
 k : Int
 u : Int
 a : Int
 b : Int
 t : List TermT
def Qc3 (t : TermT) : List D := [.int .i64 t.u, .int .i64 t.m]
def Zt (l : List TermT) : D := .sl (l.map Qc3)
def Qfp (s : StepT) : List D := [.int .i64 s.u, .int .i64 s.m, .int .i64 s.l, .int .i64 s.c]
def Zy (l : List StepT) : D := .sl (l.map Qfp)
def QlL (r : RowT) : List D := [.int .i64 r.k, .int .i64 r.u, .int .i64 r.a, .int .i64 r.b, Zt r.t]
def Qpc (l : List RowT) : D := .sl (l.map QlL)
def dDb (l : List (List TermT)) : D := .sl (l.map fun t => [Zt t])
abbrev QbK (a b : Int) : Int := Qam .and .i64 a b
abbrev bor (a b : Int) : Int := Qam .or .i64 a b
abbrev Qgg (a b : Int) : Int := Qam .andNot .i64 a b
def uAt (w : Qq) (u : Int) : Option Qnn := if u < 0 then none else w[u.toNat]?
theorem QkR {w : Qq} {u : Int} (h0 : 0 <= u) (h : u < w.length) : uAt w u = some (w[u.toNat]'(by omega)) := by
 rw [uAt, if_neg (by omega), List.getElem?_eq_getElem (by omega)]
theorem QjR {w : Qq} {u : Int} (h : u < 0 \/ (w.length : Int) <= u) : uAt w u = none := by
 unfold uAt
 split
 ·rfl
 ·rw [List.getElem?_eq_none]; omega
def YY (w : Qq) (u : Int) : Int := match uAt w u with
 | none => 0
 | some x => 2 ^ (min x.cs.length 16 + 1) - 1
theorem Qhy {w : Qq} {u : Int} (h0 : 0 <= u) (h : u < w.length) : YY w u = 2 ^ (min (w[u.toNat]'(by omega)).cs.length 16 + 1) - 1 := by
 rw [YY, QkR h0 h]
theorem QdH {w : Qq} {u : Int} (h : u < 0 \/ (w.length : Int) <= u) : YY w u = 0 := by rw [YY, QjR h]
theorem QdG (w : Qq) (u : Int) : 0 <= YY w u /\ YY w u <= 131071 := by
 unfold YY
 split
 ·omega
 ·rename_i x _
  have h1 : (2 : Nat) ^ (min x.cs.length 16 + 1) <= 2 ^ 17 := Nat.pow_le_pow_right (by omega) (by omega)
  have h2 : 1 <= (2 : Nat) ^ (min x.cs.length 16 + 1) := Nat.one_le_two_pow
  have h3 : ((2 ^ (min x.cs.length 16 + 1) : Nat) : Int) = (2 : Int) ^ (min x.cs.length 16 + 1) := by simp
  rw [<- h3]
  have h4 : (2 : Nat) ^ 17 = 131072 := by decide
  omega
def Qgq (v : Vr) : Prop := v.p.length <= 1000000 /\ v.q.length <= 1000000
structure WSm (w : Qq) : Prop where
 len : w.length <= 48
 cs : ∀ u ∈ w, u.cs.length <= 16
 vs : ∀ u ∈ w, ∀ c ∈ u.cs, Qgq c.v
 ns : ∀ u ∈ w, ∀ c ∈ u.cs, c.ns.length <= 1000 /\ c.bs.length <= 1000
 nl : ∀ u ∈ w, ∀ c ∈ u.cs, ∀ r ∈ c.ns, r.length <= 1000
 nw : ∀ u ∈ w, ∀ c ∈ u.cs, ∀ r ∈ c.ns, ∀ x ∈ r, Sm x.s.1 /\ Sm x.s.2
 bw : ∀ u ∈ w, ∀ c ∈ u.cs, ∀ x ∈ c.bs, Sm x.s.1 /\ Sm x.s.2
def QqM (s : QeV) (v : Vr) : Bool := Qlj s v.a v.b v.c v.p v.q
def QbI (s : QeV) (l : List CandT) : Nat -> Int
 | 0 => 0
 | n + 1 => QbI s l n + match l[n]? with
  | some c => if QqM s c.v = true then 2 ^ (n + 1) else 0
  | none => 0
theorem Qkz (s : QeV) (l : List CandT) : ∀ n, 0 <= QbI s l n /\ QbI s l n <= 2 ^ (n + 1) - 2
 | 0 => by simp [QbI]
 | n + 1 => by
  obtain ⟨h1, h2⟩ := Qkz s l n
  have h3 : (2 : Int) ^ (n + 1 + 1) = 2 ^ (n + 1) * 2 := Int.pow_succ ..
  have h4 : (0 : Int) < 2 ^ (n + 1) := Int.pow_pos (by omega)
  rw [QbI, h3]
  generalize (2 : Int) ^ (n + 1) = z at *
  split
  ·split <;> omega
  ·omega
theorem Qmu {s : QeV} {l : List CandT} {i : Nat} (h : i < l.length) (hp : QqM s l[i].v = true) : QbI s l (i + 1) = QbI s l i + 2 ^ (i + 1) := by
 rw [QbI, List.getElem?_eq_getElem h]; simp only [hp, if_true]
theorem QnW {s : QeV} {l : List CandT} {i : Nat} (h : i < l.length) (hp : QqM s l[i].v = false) : QbI s l (i + 1) = QbI s l i := by
 rw [QbI, List.getElem?_eq_getElem h]; simp only [hp, Bool.false_eq_true, if_false, Int.add_zero]
def Qjb (w : Qq) (x : WantT) : Int := match uAt w x.u with
 | none => 0
 | some un => QbI x.s un.cs (min un.cs.length 16)
theorem Qmn {w : Qq} {x : WantT} (h0 : 0 <= x.u) (h : x.u < w.length) : Qjb w x = QbI x.s (w[x.u.toNat]'(by omega)).cs (min (w[x.u.toNat]'(by omega)).cs.length 16) := by
 rw [Qjb, QkR h0 h]
theorem Qkv {w : Qq} {x : WantT} (h : x.u < 0 \/ (w.length : Int) <= x.u) : Qjb w x = 0 := by rw [Qjb, QjR h]
theorem Qps {n : Nat} (h : n <= 17) : 1 <= (2 : Int) ^ n /\ (2 : Int) ^ n <= 131072 := by
 have h1 : (2 : Nat) ^ n <= 2 ^ 17 := Nat.pow_le_pow_right (by omega) h
 have h2 : 1 <= (2 : Nat) ^ n := Nat.one_le_two_pow
 have h3 : ((2 ^ n : Nat) : Int) = (2 : Int) ^ n := by simp
 rw [<- h3]
 have h4 : (2 : Nat) ^ 17 = 131072 := by decide
 omega
theorem Qky (s : QeV) (l : List CandT) {n : Nat} (h : n <= 16) : 0 <= QbI s l n /\ QbI s l n <= 131070 := by
 obtain ⟨h1, h2⟩ := Qkz s l n
 have := Qps (n := n + 1) (by omega)
 omega
theorem Qpn (w : Qq) (x : WantT) : 0 <= Qjb w x /\ Qjb w x <= 131070 := by
 unfold Qjb
 split
 ·omega
 ·exact Qky _ _ (by omega)
def Xc (m : Int) : Nat -> List Int
 | 0 => []
 | n + 1 => Xc m n ++ if QbK m (2 ^ n) = 0 then [] else [(n : Int) - 1]
def Qbm (m : Int) : List Int := Xc m 17
theorem Qcm (m : Int) : ∀ n, (Xc m n).length <= n
 | 0 => Nat.le_refl _
 | n + 1 => by
  have := Qcm m n
  rw [Xc, List.length_append]
  split <;> simp <;> omega
def Qbz (f : Int) (u : Int) : List TermT -> Int
 | [] => f
 | t :: r => if t.u = u then t.m else Qbz f u r
def Qc7 (w : Qq) (l : List TermT) (u : Int) : Int := Qbz (YY w u) u l
theorem Qln {f u : Int} {l : List TermT} {i : Nat} (h : i < l.length) (hn : ¬ l[i].u = u) : Qbz f u (l.drop i) = Qbz f u (l.drop (i + 1)) := by
 rw [List.drop_eq_getElem_cons h, Qbz, if_neg hn]
theorem Qmt {f u : Int} {l : List TermT} {i : Nat} (h : i < l.length) (hn : l[i].u = u) : Qbz f u (l.drop i) = l[i].m := by
 rw [List.drop_eq_getElem_cons h, Qbz, if_pos hn]
def QbU (w : Qq) : Nat -> List Int
 | 0 => []
 | n + 1 => QbU w n ++ [YY w n]
theorem Qc5 (w : Qq) : ∀ n, (QbU w n).length = n
 | 0 => rfl
 | n + 1 => by rw [QbU, List.length_append, Qc5 w n]; rfl
def QaY (w : Qq) : List Int := QbU w w.length
def Xw (w : Qq) (ms : List Int) : Nat -> List TermT
 | 0 => []
 | n + 1 => Xw w ms n ++ if ms.getD n 0 = YY w n then [] else [⟨n, ms.getD n 0⟩]
theorem QgN (w : Qq) (ms : List Int) : ∀ n, (Xw w ms n).length <= n
 | 0 => Nat.le_refl _
 | n + 1 => by
  have := QgN w ms n
  rw [Xw, List.length_append]
  split <;> simp <;> omega
def QiE (w : Qq) (ms : List Int) : Option (List TermT) := if ms.all (fun m => !decide (m = 0)) = true then some (Xw w ms ms.length) else none
def dOT (o : Option (List TermT)) : D := .tup [Zt (o.getD []), .bool o.isSome]
def Xv (ms : List Int) (l : List TermT) : List Int := l.foldl (fun ms t => ms.set t.u.toNat (QbK (ms.getD t.u.toNat 0) t.m)) ms
def inW (w : Qq) (u : Int) : Bool := decide (0 <= u) && decide (u < w.length)
def QcV (w : Qq) (l : List TermT) : Option (List TermT) := if l.all (fun t => inW w t.u) = true then QiE w (Xv (QaY w) l) else none
def QgH (l : List TermT) (u : Int) : List TermT := l.filter fun t => !decide (t.u = u)
def Ym (l : List TermT) : Nat -> List TermT
 | 0 => []
 | n + 1 => Ym l n ++ l.filter fun t => decide (t.u = ((n : Nat) : Int))
def QhD (l : List TermT) : List TermT := Ym l 48
def Yk (w : Qq) (u : Int) (p : Nat) (l : List WantT) (bar : Bool) : Option (List TermT) :=
 QcV w (⟨u, QbK (YY w u) (2 * 2 ^ p)⟩ :: l.map fun x => ⟨x.u, if bar = true then Qjb w x else YY w x.u - Qjb w x⟩)
def Qjw (r x : RowT) : Bool := decide (x.k = r.k) && decide (x.u = r.u) && decide (QgH x.t r.u = QgH r.t r.u)
def QnJ (w : Qq) (r x : RowT) : RowT := { x with t := QhD (⟨r.u, bor (Qc7 w x.t r.u) (Qc7 w r.t r.u)⟩ :: QgH x.t r.u) }
def Xf (w : Qq) (r : RowT) : List RowT -> List RowT
 | [] => [r]
 | x :: l => if Qjw r x = true then QnJ w r x :: l else x :: Xf w r l
def YN (w : Qq) (u : Int) (p : Nat) (l : List (List WantT)) (rows : List RowT) : List RowT := l.foldl (fun rows n => match Yk w u p n false with
 | some t => Xf w ⟨2, u, 0, 0, t⟩ rows
 | none => rows) rows
def QbC (w : Qq) (u : Int) (p : Nat) (l : List WantT) (rows : List RowT) : List RowT := l.foldl (fun rows n => match Yk w u p [n] true with
 | some t => Xf w ⟨3, u, 0, 0, t⟩ rows
 | none => rows) rows
def YF (w : Qq) (u : Int) (cs : List CandT) : Nat -> List RowT -> List RowT
 | 0, rows => rows
 | n + 1, rows => match cs[n]? with
  | some c => QbC w u n c.bs (YN w u n c.ns (YF w u cs n rows))
  | none => YF w u cs n rows
def Yr (w : Qq) : Nat -> List RowT
 | 0 => [⟨1, 0, 0, 0, [⟨0, 1⟩]⟩]
 | n + 1 => match w[n]? with
  | some u => YF w n u.cs u.cs.length (Yr w n)
  | none => Yr w n
def Qb5 (w : Qq) : List RowT := Yr w w.length
def mDB (w : Qq) : List (List TermT) := (Qb5 w).map RowT.t
/-! ### Trails -/
def Zi (w : Qq) (l : List StepT) (u : Int) : Int := l.foldl (fun a s => if s.u = u /\ inW w u = true then s.m else a) (YY w u)
def Xu (l : List StepT) : Int := match l.getLast? with
 | none => 0
 | some s => s.l
def QdF (l : List StepT) (u : Int) : Bool := l.any fun s => decide (s.u = u) && decide (s.c = -1)
def Qpq : List Int -> Int
 | [x] => x
 | _ => -1
def QfS (m : Int) : Int := Qpq (Qbm m)
def QdL (w : Qq) (l : List StepT) (s : StepT) : Bool :=
 inW w s.u && decide (-1 <= s.c) && decide (QbK s.m (Zi w l s.u) = s.m) &&
  if s.c = -1 then decide (0 <= QfS s.m) && !QdF l s.u && decide (s.l = IntKind.i64.wrap (Xu l + 1))
  else !decide (s.m = 0) && !decide (s.m = Zi w l s.u) && decide (s.l = Xu l)
def Qek (w : Qq) (l : List StepT) : Bool := (List.range l.length).all fun i => match l[i]? with
 | some s => QdL w (l.take i) s
 | none => true
def QfT (w : Qq) (l : List StepT) (inc : List TermT) : Bool := inc.all fun t => decide (ZS (Zi w l t.u) t.m = 2)
def ZO (have_ : Int -> Int) : List TermT -> Int -> Int
 | [], at_ => at_
 | t :: r, at_ => if ZS (have_ t.u) t.m = 0 then -1 else if ZS (have_ t.u) t.m = 1 then (if 0 <= at_ then -1 else ZO have_ r t.u) else ZO have_ r at_
def QeR (w : Qq) (l : List StepT) (inc : List TermT) : Int := ZO (Zi w l) inc (-1)
def YG (w : Qq) (l : List StepT) : Nat -> List (List TermT) -> Int × Int
 | _, [] => (-1, -1)
 | i, x :: r => if QfT w l x = true then (i, -1) else if 0 <= QeR w l x then (i, QeR w l x) else YG w l (i + 1) r
def ZM (w : Qq) (db : List (List TermT)) (l : List StepT) : Int × Int := YG w l 0 db
def Yl (w : Qq) (l : List StepT) (t : TermT) (c : Int) : Option (List StepT) :=
 if c < 0 \/ inW w t.u = false then none
 else if IntKind.i64.wrap (Zi w l t.u - QbK (Zi w l t.u) t.m) = 0 \/ IntKind.i64.wrap (Zi w l t.u - QbK (Zi w l t.u) t.m) = Zi w l t.u then none
 else some (l ++ [⟨t.u, IntKind.i64.wrap (Zi w l t.u - QbK (Zi w l t.u) t.m), Xu l, c⟩])
def Xl (w : Qq) (l : List StepT) (u p : Int) : Option (List StepT) := match uAt w u with
 | none => none
 | some x => if p < 0 \/ (x.cs.length : Int) <= p then none
  else if QdL w l ⟨u, IntKind.i64.wrap (2 * 2 ^ min p.toNat 64), IntKind.i64.wrap (Xu l + 1), -1⟩ = true then some (l ++ [⟨u, IntKind.i64.wrap (2 * 2 ^ min p.toNat 64), IntKind.i64.wrap (Xu l + 1), -1⟩]) else none
def dOS (o : Option (List StepT)) : D := .tup [Zy (o.getD []), .bool o.isSome]
def Qdb (w : Qq) (db : List (List TermT)) : Nat -> List StepT -> List StepT × Int
 | 0, out => (out, -1)
 | n + 1, out => if (ZM w db out).2 < 0 then (out, (ZM w db out).1)
  else Qdb w db n ((Yl w out ⟨(ZM w db out).2, Qc7 w (db.getD (ZM w db out).1.toNat []) (ZM w db out).2⟩ (ZM w db out).1).getD [])
def Qel (w : Qq) (db : List (List TermT)) (l : List StepT) : List StepT × Int := Qdb w db (w.length * 18 + 1) l
end M25
namespace M25
open Go Go.Abs M3
section
variable {fr : List (Nat × D)} {H : List (Nat × Box)} {t u : Nat}
theorem Qj0 {k n : Nat} {b : Box} {d : D} (hb : lk H k = some b) (hp : b.pr = true) (hn : n = b.rows.length) (hd : .sl b.rows = d) : QbJ ⟨fr, H⟩ (.osl k n) = d := by
 unfold QbJ; rw [QqL (S := QcR) rfl hb hp hn]; exact hd
theorem X5 {e : YA} {k n : Nat} {b : Box} {d : D} (h : lk fr t = some (.osl k n)) (hb : lk H k = some b) (hp : b.pr = true) (hn : n = b.rows.length) (hd : .sl b.rows = d) (he : e = .ret \/ e = .normal := by first | exact .inl rfl | exact .inr rfl) : Post [.tmp t] d e ⟨fr, H⟩ :=
 Yh h (Qj0 hb hp hn hd) he
theorem QfZ {e : YA} {k n : Nat} {b : Box} {q d d' : D} (h : lk fr t = some (.osl k n)) (hb : lk H k = some b) (hp : b.pr = true) (hn : n = b.rows.length) (hd : .sl b.rows = d) (h2 : lk fr u = some q) (hd2 : QbJ ⟨fr, H⟩ q = d') (he : e = .ret \/ e = .normal := by first | exact .inl rfl | exact .inr rfl) : Post [.tmp t, .tmp u] (.tup [d, d']) e ⟨fr, H⟩ :=
 QT h h2 ⟨Qj0 hb hp hn hd, hd2⟩ he
end
theorem QqN (n : Nat) : (min (n : Int) 16 + 1).toNat = min n 16 + 1 := by omega
theorem Qi9 {n : Nat} (h : n <= 62) : IntKind.i64.wrap ((2 : Int) ^ n - 1) = 2 ^ n - 1 := by
 have := QhG h; exact Qp (by omega) (by omega)
theorem Qqd (i : Nat) : (2 : Int) ^ ((i : Int) + 1).toNat = 2 ^ (i + 1) := by rw [Qnb]
theorem Qoi (s : QeV) (l : List CandT) {i : Nat} (h : i < 16) : IntKind.i64.wrap (QbI s l i + (2 : Int) ^ ((i : Int) + 1).toNat) = QbI s l i + 2 ^ (i + 1) := by
 rw [Qqd]
 have h1 := Qky s l (n := i) (by omega)
 have h2 := Qps (n := i + 1) (by omega)
 exact Qp (by omega) (by omega)
theorem XZ {m : Int} {n : Nat} (h : ¬ QbK m (2 ^ n) = 0) : Xc m (n + 1) = Xc m n ++ [(n : Int) - 1] := by rw [Xc, if_neg h]
theorem Qbb {m : Int} {n : Nat} (h : QbK m (2 ^ n) = 0) : Xc m (n + 1) = Xc m n := by rw [Xc, if_pos h, List.append_nil]
theorem Qoq {l : List TermT} {u : Int} {i : Nat} (h : i < l.length) : QgH (l.take (i + 1)) u = QgH (l.take i) u ++ if l[i].u = u then [] else [l[i]] := by
 rw [List.take_succ_eq_append_getElem h, QgH, List.filter_append]
 congr 1
 simp only [List.filter_cons, List.filter_nil]
 by_cases hu : l[i].u = u <;> simp [hu]
theorem Qa5 {l : List TermT} {u : Int} {i : Nat} (h : i < l.length) (hn : ¬ l[i].u = u) : QgH (l.take (i + 1)) u = QgH (l.take i) u ++ [l[i]] := by rw [Qoq h, if_neg hn]
theorem Qdk {l : List TermT} {u : Int} {i : Nat} (h : i < l.length) (hn : l[i].u = u) : QgH (l.take (i + 1)) u = QgH (l.take i) u := by rw [Qoq h, if_pos hn, List.append_nil]
theorem Qfk (l : List TermT) (u : Int) : (QgH l u).length <= l.length := List.length_filter_le ..
theorem Qns (l : List TermT) (u : Int) (i : Nat) : (QgH (l.take i) u).length <= l.length := Nat.le_trans (Qfk ..) (List.length_take_le' ..)
def Qey (l : List TermT) (u : Nat) (i : Nat) : List TermT := (l.take i).filter fun t => decide (t.u = ((u : Nat) : Int))
theorem Qpy {l : List TermT} {u i : Nat} (h : i < l.length) (hn : l[i].u = ((u : Nat) : Int)) : Qey l u (i + 1) = Qey l u i ++ [l[i]] := by
 rw [Qey, List.take_succ_eq_append_getElem h, List.filter_append]; simp [hn, Qey]
theorem Qqf {l : List TermT} {u i : Nat} (h : i < l.length) (hn : ¬ l[i].u = ((u : Nat) : Int)) : Qey l u (i + 1) = Qey l u i := by
 rw [Qey, List.take_succ_eq_append_getElem h, List.filter_append]; simp [hn, Qey]
theorem QmW (l : List TermT) (u i : Nat) : (Qey l u i).length <= l.length := Nat.le_trans (List.length_filter_le ..) (List.length_take_le' ..)
theorem Qi3 (l : List TermT) (u : Nat) : Ym l (u + 1) = Ym l u ++ Qey l u l.length := by rw [Ym, Qey, List.take_length]
theorem QgY (l : List TermT) : ∀ n, (Ym l n).length <= n * l.length
 | 0 => by simp [Ym]
 | n + 1 => by
  have := QgY l n
  rw [Qi3, List.length_append, Nat.succ_mul]
  have := QmW l n l.length
  omega
theorem X0 (w : Qq) (n : Nat) : QbU w (n + 1) = QbU w n ++ [YY w n] := rfl
theorem X2 {w : Qq} {ms : List Int} {n : Nat} (h : n < ms.length) (hn : ¬ ms[n] = YY w n) : Xw w ms (n + 1) = Xw w ms n ++ [⟨n, ms[n]⟩] := by
 rw [Xw, List.getD_eq_getElem?_getD, List.getElem?_eq_getElem h]; simp [hn]
theorem Qbn {w : Qq} {ms : List Int} {n : Nat} (h : n < ms.length) (hn : ms[n] = YY w n) : Xw w ms (n + 1) = Xw w ms n := by
 rw [Xw, List.getD_eq_getElem?_getD, List.getElem?_eq_getElem h]; simp [hn]
theorem Qlk {w : Qq} {ms : List Int} {i : Nat} (h : i < ms.length) (hz : ms[i] = 0) : QiE w ms = none := by
 rw [QiE, if_neg]
 rw [XJ h (by simp [hz])]; simp
theorem Qml {w : Qq} {ms : List Int} {i : Nat} (hi : ms.length <= i) (h : (ms.take i).all (fun m => !decide (m = 0)) = true) : QiE w ms = some (Xw w ms ms.length) := by
 rw [List.take_of_length_le hi] at h; rw [QiE, if_pos h]
theorem QfE {w : Qq} {u : Int} (h0 : 0 <= u) (h : u < w.length) : inW w u = true := by simp [inW, h0, h]
theorem Qbg {w : Qq} {u : Int} (h : u < 0 \/ (w.length : Int) <= u) : inW w u = false := by
 simp only [inW, Bool.and_eq_false_iff, decide_eq_false_iff_not]; omega
theorem QbV {w : Qq} {u : Int} : inW w u = true ↔ 0 <= u /\ u < w.length := by simp [inW]
theorem Qll (l : List TermT) : ∀ ms : List Int, (Xv ms l).length = ms.length := by
 induction l with
 | nil => intro ms; rfl
 | cons t l ih => intro ms; rw [Xv, List.foldl_cons]; exact (ih _).trans (List.length_set ..)
theorem QnU {ms : List Int} {l : List TermT} {i : Nat} (h : i < l.length) : Xv ms (l.take (i + 1)) = (Xv ms (l.take i)).set l[i].u.toNat (QbK ((Xv ms (l.take i)).getD l[i].u.toNat 0) l[i].m) := by
 rw [List.take_succ_eq_append_getElem h, Xv, List.foldl_append]; rfl
theorem Qkx {ms : List Int} {l : List TermT} {i : Nat} (h : i < l.length) (hu : l[i].u.toNat < (Xv ms (l.take i)).length) : Xv ms (l.take (i + 1)) = (Xv ms (l.take i)).set l[i].u.toNat (QbK ((Xv ms (l.take i))[l[i].u.toNat]) l[i].m) := by
 rw [QnU h, List.getD_eq_getElem?_getD, List.getElem?_eq_getElem hu]; rfl
theorem Qna {x y : TermT} : Qay [0, 0] (Qc3 x) (Qc3 y) = some (decide (x = y)) := by
 obtain ⟨a, b⟩ := x
 obtain ⟨c, d⟩ := y
 simp only [Qc3, Qay, if_true, Option.map_some, Bool.and_true, Option.some.injEq]
 rw [Bool.eq_iff_iff]
 simp only [Bool.and_eq_true, decide_eq_true_eq, TermT.mk.injEq]
theorem Qm5 {x y : StepT} : Qay [0, 0, 0, 0] (Qfp x) (Qfp y) = some (decide (x = y)) := by
 obtain ⟨a, b, e, f⟩ := x
 obtain ⟨c, d, g, h⟩ := y
 simp only [Qfp, Qay, if_true, Option.map_some, Bool.and_true, Option.some.injEq]
 rw [Bool.eq_iff_iff]
 simp only [Bool.and_eq_true, decide_eq_true_eq, StepT.mk.injEq]
theorem Qi6 {α : Type} {a b : List α} {i : Nat} (ha : i < a.length) (hb : i < b.length) (h : a.take i = b.take i) (he : a[i] = b[i]) : a.take (i + 1) = b.take (i + 1) := by
 rw [List.take_succ_eq_append_getElem ha, List.take_succ_eq_append_getElem hb, h, he]
theorem QmS {α : Type} [DecidableEq α] {a b : List α} {i : Nat} (ha : i < a.length) (hb : i < b.length) (he : ¬ a[i] = b[i]) : decide (a = b) = false := decide_eq_false fun e => he (by subst e; rfl)
theorem Qfb {e : Int} (h1 : 0 <= e) (h2 : e <= 18446744073709551615) : IntKind.u64.wrap e = e := by
 unfold IntKind.wrap
 simp only [IntKind.bits, IntKind.signed, Bool.false_and, Bool.false_eq_true, if_false]
 omega
theorem Qnd {p : Nat} (h : p <= 60) : IntKind.i64.wrap ((2 : Int) * 2 ^ min ((p : Nat) : Int).toNat IntKind.i64.bits) = 2 * 2 ^ p := by
 rw [show min ((p : Nat) : Int).toNat IntKind.i64.bits = p from by simp only [IntKind.bits, Int.toNat_natCast]; omega]
 have := QhG (i := p + 1) (by omega)
 rw [Int.pow_succ] at this
 exact Qp (by omega) (by omega)
theorem QpE (w : Qq) (u : Int) (x : WantT) : IntKind.i64.wrap (YY w u - Qjb w x) = YY w u - Qjb w x := by
 have h1 := QdG w u
 have h2 := Qpn w x
 exact Qp (by omega) (by omega)
def clF (w : Qq) (bar : Bool) (x : WantT) : TermT := ⟨x.u, if bar = true then Qjb w x else YY w x.u - Qjb w x⟩
def clT (w : Qq) (u : Int) (p : Nat) (bar : Bool) (l : List WantT) : List TermT := ⟨u, QbK (YY w u) (2 * 2 ^ p)⟩ :: l.map (clF w bar)
theorem Qa9 {w : Qq} {u : Int} {p : Nat} {bar : Bool} {l : List WantT} {i : Nat} (h : i < l.length) (hb : bar = false) : clT w u p bar (l.take (i + 1)) = clT w u p bar (l.take i) ++ [⟨l[i].u, YY w l[i].u - Qjb w l[i]⟩] := by
 rw [clT, List.take_succ_eq_append_getElem h, List.map_append, <- List.cons_append]; simp [clT, clF, hb]
theorem Qa8 {w : Qq} {u : Int} {p : Nat} {bar : Bool} {l : List WantT} {i : Nat} (h : i < l.length) (hb : bar = true) : clT w u p bar (l.take (i + 1)) = clT w u p bar (l.take i) ++ [⟨l[i].u, Qjb w l[i]⟩] := by
 rw [clT, List.take_succ_eq_append_getElem h, List.map_append, <- List.cons_append]; simp [clT, clF, hb]
theorem QlJ (w : Qq) (u : Int) (p : Nat) (bar : Bool) (l : List WantT) : (clT w u p bar l).length = l.length + 1 := by simp [clT]
theorem QgL {w : Qq} {l : List TermT} {i : Nat} (h : i < l.length) (hu : inW w l[i].u = false) : QcV w l = none := by
 rw [QcV, XJ h hu]; rfl
theorem Qmm {w : Qq} {l : List TermT} (h : l.all (fun t => inW w t.u) = true) : QcV w l = QiE w (Xv (QaY w) l) := by
 rw [QcV, if_pos h]
theorem Qfw (w : Qq) (l : List TermT) : (Xv (QaY w) l).length = w.length := by rw [Qll, QaY, Qc5]
def srt (l : List TermT) (u i : Nat) : List TermT := Ym l u ++ Qey l u i
theorem Qbs {l : List TermT} {u i : Nat} (h : i < l.length) (hn : l[i].u = ((u : Nat) : Int)) : srt l u (i + 1) = srt l u i ++ [l[i]] := by rw [srt, Qpy h hn, <- List.append_assoc]; rfl
theorem QdZ {l : List TermT} {u i : Nat} (h : i < l.length) (hn : ¬ l[i].u = ((u : Nat) : Int)) : srt l u (i + 1) = srt l u i := by rw [srt, Qqf h hn]; rfl
theorem X6 (l : List TermT) (u : Nat) : srt l u 0 = Ym l u := by simp [srt, Qey]
theorem Qbr (l : List TermT) (u : Nat) {i : Nat} (h : l.length = i) : Ym l (u + 1) = srt l u i := by rw [Qi3, h]; rfl
theorem Qpz (l : List TermT) (u i : Nat) : (srt l u i).length <= u * l.length + l.length := by
 have h1 := QgY l u
 have h2 := QmW l u i
 rw [srt, List.length_append]; omega
end M25
namespace Go.Proofs
open Go Go.Abs M3 M25
set_option linter.unusedVariables false
set_option linter.unusedSimpArgs false
theorem Zz {w : Qq} (hw : WSm w) {u : Int} : Ok Tryz.prog 27 [Z2 w, .int .i64 u] (.int .i64 (YY w u)) := by
 refine Ok.ofT ZT Tryz.func27 QrC (Nat.le_of_ble_eq_true rfl) ?_
 show TW _ _ tf27.body _ _
 refine Qf fun K hK => Zw rfl rfl rfl (Qa rfl ?_)
 refine hK _ _ (Qb (kp2 rfl rfl) ?_)
 refine QA ?_ -- 0
 refine Qf fun K hK => Qa rfl (Z6 rfl rfl (Qa rfl ?_))
 refine QE (g := 7) rfl (fun h1 => ?_) (fun h1 => ?_)
 ·try rw [h1]
  try simp only [qa, qb, qc, qd, qe, List.length_map] at h1
  refine Qt rfl (Qt rfl (Qt rfl (Qt rfl (Qt rfl (Qo rfl rfl ?_)))))
  refine hK _ _ (Qb (kp3 rfl rfl rfl) ?_)
  refine Zu rfl (Qf fun K hK => Qa rfl ?_)
  refine hK _ _ (Qb (kp1 rfl) ?_)
  refine Qu (Qj (QG rfl ?_))
  rw [QdH (by omega)]
 ·try rw [h1]
  try simp only [qa, qb, qc, qd, qe, List.length_map] at h1
  refine Qk rfl (Qa rfl (Qk rfl (Qh rfl rfl (Qk rfl (QC rfl rfl rfl (Qk rfl (QQ rfl rfl (Qk rfl (QeU rfl rfl (Qo rfl rfl ?_))))))))))
  refine hK _ _ (Qb (kp3 rfl rfl rfl) ?_)
  refine Qw rfl (fun h2 => ?_) (fun h2 => ?_)
  ·try rw [h2]
   try simp only [qa, qb, qc, qd, qe, List.length_map] at h2
   refine Qf fun K hK => Qa rfl ?_
   refine hK _ _ (Qb (kp1 rfl) ?_)
   refine Qu (Qj (QG rfl ?_))
   rw [QdH (by omega)]
  ·try rw [h2]
   try simp only [qa, qb, qc, qd, qe, List.length_map] at h2
   refine Qv (Qd (kp2 rfl rfl) (Qf fun K hK => Qh rfl rfl (QC rfl rfl rfl (Qa rfl (QJ rfl rfl rfl (by omega) (ZB (by omega) (by omega)) rfl (Q8 rfl rfl (QC rfl rfl rfl (QQ rfl rfl (QqC rfl rfl (Q1 rfl rfl (by first | exact Qp (by omega) (by omega) | rfl) ?_))))))))))
   refine QI (Y6 (by omega) (by omega)) rfl rfl (.inr rfl) (QaE rfl rfl (Qi9 (by omega)) (Qa rfl ?_))
   refine hK _ _ (Qb (kp1 rfl) ?_)
   refine Qu (QG rfl ?_)
   rw [Qhy (by omega) (by omega), List.length_map, QqN]
theorem YW {w : Qq} (hw : WSm w) {l : List TermT} (hl : l.length <= 1000000) {u : Int} : Ok Tryz.prog 28 [Z2 w, Zt l, .int .i64 u] (.int .i64 (Qc7 w l u)) := by
 refine Ok.ofT ZT Tryz.func28 QrD (Nat.le_of_ble_eq_true rfl) ?_
 show TW _ _ tf28.body _ _
 refine Qf fun K hK => Zw rfl rfl rfl (Qa rfl ?_)
 refine hK _ _ (Qb (kp3 rfl rfl rfl) ?_)
 refine QA ?_ -- 0
 refine Qf fun K hK => Qa rfl ?_
 refine hK _ _ (Qb (kp4 rfl rfl rfl rfl) ?_)
 refine Qy ?_
 refine Zj (ι := Nat) (fun i => ⟨[(1, Zt l), (2, .int .i64 u), (3, .ref 3 0 0), (7, .int .i64 i)], [(3, ⟨[[.sl ((w).map Yq)]], 1, 26, true⟩)]⟩) (fun i => i <= l.length /\ Qbz (YY w u) u l = Qbz (YY w u) u (l.drop i)) (fun i => l.length - i) 0 ?_ ?_ ?_
 ·exact Q3 (l := [1, 2, 3, 7]) (lH := [3]) (kp4 rfl rfl rfl rfl) (Qe rfl Ql) rfl rfl rfl
 ·exact ⟨Nat.zero_le _, by simp⟩
 intro i hI
 try dsimp only
 refine QA ?_ -- 1
 refine Qf fun K hK => Qa rfl (Qa rfl (QQ rfl rfl (Z6 rfl rfl ?_)))
 refine hK _ _ (Qb (kp5 rfl rfl rfl rfl rfl) ?_)
 refine Qw rfl (fun h1 => ?_) (fun h1 => ?_)
 ·try rw [h1]
  try simp only [qa, qb, qc, qd, qe, List.length_map] at h1
  refine Qv (Qd (kp4 rfl rfl rfl rfl) ?_)
  refine QA ?_ -- 2
  refine Qy (Qf fun K hK => Qa rfl (Qa rfl (QJ rfl rfl rfl (by omega) (QR (by omega)) rfl (Q8 rfl rfl (QC rfl rfl rfl (Qa rfl (ZK rfl rfl ?_)))))))
  refine hK _ _ (Qb (kp5 rfl rfl rfl rfl rfl) ?_)
  refine Qw rfl (fun h2 => ?_) (fun h2 => ?_)
  ·try rw [h2]
   try simp only [qa, qb, qc, qd, qe, List.length_map] at h2
   refine Qf fun K hK => Qa rfl (Qa rfl (QJ rfl rfl rfl (by omega) (QR (by omega)) rfl (Q8 rfl rfl (QC rfl rfl rfl (Qa rfl ?_)))))
   refine hK _ _ (Qb (kp1 rfl) ?_)
   refine Qu (Qr (Qj (Q0 (Qr (Qj (QG rfl ?_))))))
   rw [Qc7, hI.2, Qmt (by omega) h2]
  ·try rw [h2]
   try simp only [qa, qb, qc, qd, qe, List.length_map] at h2
   refine Qv (Qg (Qd (kp4 rfl rfl rfl rfl) (QL fun K hK => Qa rfl (Q1 rfl rfl (by first | exact Qp (by omega) (by omega) | rfl) (Qa rfl (hK _ ?_))))))
   refine Qi (i + 1) ?_ ?_ ?_
   ·exact Q3 (l := [1, 2, 3, 7]) (lH := [3]) (kp4 rfl rfl rfl rfl) (Qe rfl Ql) rfl rfl rfl
   ·exact ⟨by omega, by rw [hI.2, Qln (by omega) (by assumption)]⟩
   ·first | omega | (simp only; omega) | (dsimp only; omega)
 ·try rw [h1]
  try simp only [qa, qb, qc, qd, qe, List.length_map] at h1
  refine Zg (QK (Qx (QD (Qd (kp2 rfl rfl) (Qf fun K hK => QH (cs := [_]) rfl rfl rfl rfl (Qa rfl (QI (Zz hw) rfl rfl (.inr rfl) (Qa rfl ?_))))))))
  refine hK _ _ (Qb (kp1 rfl) ?_)
  refine Qu (QG rfl ?_)
  rw [Qc7, hI.2, List.drop_eq_nil_of_le (by omega)]; rfl
theorem QcX {w : Qq} (hw : WSm w) {x : WantT} (hx : Sm x.s.1 /\ Sm x.s.2) : Ok Tryz.prog 89 [Z2 w, .agg (QeP x)] (.int .i64 (Qjb w x)) := by
 refine Ok.ofT ZT Tryz.func89 Qsy (Nat.le_of_ble_eq_true rfl) ?_
 show TW _ _ tf89.body _ _
 refine Qf fun K hK => Zw rfl rfl rfl (Zw rfl rfl rfl (Qa rfl ?_))
 refine hK _ _ (Qb (kp2 rfl rfl) ?_)
 refine QA ?_ -- 0
 refine Qf fun K hK => Qh rfl rfl (QC rfl rfl rfl (Z6 rfl rfl (Qa rfl ?_)))
 refine QE (g := 11) rfl (fun h1 => ?_) (fun h1 => ?_)
 ·try rw [h1]
  try simp only [qa, qb, qc, qd, qe, List.length_map] at h1
  refine Qt rfl (Qt rfl (Qt rfl (Qt rfl (Qt rfl (Qt rfl (Qo rfl rfl ?_))))))
  refine hK _ _ (Qb (kp3 rfl rfl rfl) ?_)
  refine Zu rfl (Qf fun K hK => Qa rfl ?_)
  refine hK _ _ (Qb (kp1 rfl) ?_)
  refine Qu (Qj (QG rfl ?_))
  rw [Qkv (by omega)]
 ·try rw [h1]
  try simp only [qa, qb, qc, qd, qe, List.length_map] at h1
  refine Qk rfl (Qh rfl rfl (Qk rfl (QC rfl rfl rfl (Qk rfl (Qh rfl rfl (Qk rfl (QC rfl rfl rfl (Qk rfl (QQ rfl rfl (Qk rfl (QeU rfl rfl ?_)))))))))))
  refine Qo rfl rfl ?_
  refine hK _ _ (Qb (kp3 rfl rfl rfl) ?_)
  refine Qw rfl (fun h2 => ?_) (fun h2 => ?_)
  ·try rw [h2]
   try simp only [qa, qb, qc, qd, qe, List.length_map] at h2
   refine Qf fun K hK => Qa rfl ?_
   refine hK _ _ (Qb (kp1 rfl) ?_)
   refine Qu (Qj (QG rfl ?_))
   rw [Qkv (by omega)]
  ·try rw [h2]
   try simp only [qa, qb, qc, qd, qe, List.length_map] at h2
   refine Qv (Qd (kp2 rfl rfl) (Qf fun K hK => Qa rfl ?_))
   refine hK _ _ (Qb (kp3 rfl rfl rfl) ?_)
   refine Qf fun K hK => Qh rfl rfl (QC rfl rfl rfl (Qh rfl rfl (QC rfl rfl rfl (QJ rfl rfl rfl (by omega) (ZB (by omega) (by omega)) rfl (Q8 rfl rfl (QC rfl rfl rfl (Qa rfl ?_)))))))
   refine hK _ _ (Qb (kp3 rfl rfl rfl) ?_)
   refine QA ?_ -- 1
   refine Qf fun K hK => Qa rfl ?_
   refine hK _ _ (Qb (kp4 rfl rfl rfl rfl) ?_)
   refine Qy ?_
   refine Zj (ι := Nat) (fun i => ⟨[(3, .ref 3 0 0), (5, .int .i64 (QbI x.s (w[x.u.toNat]'(by omega)).cs i)), (6, Qj7 (w[x.u.toNat]'(by omega)).cs), (7, .int .i64 i)], [(3, ⟨[[.int .i64 (x).u, ZE (x).s.1, ZE (x).s.2]], 3, 77, true⟩)]⟩) (fun i => i <= (min (w[x.u.toNat]'(by omega)).cs.length 16)) (fun i => (min (w[x.u.toNat]'(by omega)).cs.length 16) - i) 0 ?_ ?_ ?_
   ·exact Q3 (l := [3, 5, 6, 7]) (lH := [3]) (kp4 rfl rfl rfl rfl) (Qe rfl Ql) rfl rfl rfl
   ·exact Nat.zero_le _
   intro i hI
   try dsimp only
   refine QA ?_ -- 2
   refine Qf fun K hK => Qa rfl (Qa rfl (QQ rfl rfl (Z6 rfl rfl (Qa rfl ?_))))
   refine QE (g := 30) rfl (fun h3 => ?_) (fun h3 => ?_)
   ·try rw [h3]
    try simp only [qa, qb, qc, qd, qe, List.length_map] at h3
    refine Qk rfl (Qa rfl (Qk rfl (Z6 rfl rfl (Qo rfl rfl ?_))))
    refine hK _ _ (Qb (kp5 rfl rfl rfl rfl rfl) ?_)
    refine Qw rfl (fun h4 => ?_) (fun h4 => ?_)
    ·try rw [h4]
     try simp only [qa, qb, qc, qd, qe, List.length_map] at h4
     refine Qv (Qd (kp4 rfl rfl rfl rfl) ?_)
     refine QA ?_ -- 3
     refine Qy (Qf fun K hK => Qh rfl rfl (QN (ds0 := [0]) (cs := [_, _]) rfl rfl rfl rfl rfl rfl (Qa rfl (Qa rfl (QJ rfl rfl rfl (by omega) (QR (by omega)) rfl (Q8 rfl rfl (QN (ds0 := [0]) (cs := [_, _, _, _, _]) rfl rfl rfl rfl rfl rfl (QW (ds0 := []) (Qdp hx.1 hx.2 (hw.vs _ (List.getElem_mem _) _ (List.getElem_mem (by omega))).1 (hw.vs _ (List.getElem_mem _) _ (List.getElem_mem (by omega))).2) rfl rfl (.inr rfl) rfl rfl ?_))))))))
     refine hK _ _ (Qb (kp5 rfl rfl rfl rfl rfl) ?_)
     refine Qw rfl (fun h5 => ?_) (fun h5 => ?_)
     ·try rw [h5]
      try simp only [qa, qb, qc, qd, qe, List.length_map] at h5
      refine QL fun K hK => Qa rfl (Qa rfl (Q1 rfl rfl (by first | exact Qp (by omega) (by omega) | rfl) (QI (Y6 (by omega) (by omega)) rfl rfl (.inr rfl) (Q1 rfl rfl (Qoi _ _ (by omega)) (Qa rfl (hK _ ?_))))))
      refine Qg (Qd (kp4 rfl rfl rfl rfl) (QL fun K hK => Qa rfl (Q1 rfl rfl (by first | exact Qp (by omega) (by omega) | rfl) (Qa rfl (hK _ ?_)))))
      refine Qi (i + 1) ?_ ?_ ?_
      ·exact Q3 (l := [3, 5, 6, 7]) (lH := [3]) (kp4 rfl rfl rfl rfl) (Qe rfl Ql) (by rw [Qmu (by omega) (by assumption)]; rfl) rfl rfl
      ·omega
      ·first | omega | (simp only; omega) | (dsimp only; omega)
     ·try rw [h5]
      try simp only [qa, qb, qc, qd, qe, List.length_map] at h5
      refine Qv (Qg (Qd (kp4 rfl rfl rfl rfl) (QL fun K hK => Qa rfl (Q1 rfl rfl (by first | exact Qp (by omega) (by omega) | rfl) (Qa rfl (hK _ ?_))))))
      refine Qi (i + 1) ?_ ?_ ?_
      ·exact Q3 (l := [3, 5, 6, 7]) (lH := [3]) (kp4 rfl rfl rfl rfl) (Qe rfl Ql) (by rw [QnW (by omega) (by assumption)]; rfl) rfl rfl
      ·omega
      ·first | omega | (simp only; omega) | (dsimp only; omega)
    ·try rw [h4]
     try simp only [qa, qb, qc, qd, qe, List.length_map] at h4
     refine Zg (QK (Qx (QD (Qd (kp1 rfl) (Qf fun K hK => Qa rfl (Qa rfl ?_))))))
     refine hK _ _ (Qb (kp1 rfl) ?_)
     refine Qu (QG rfl ?_)
     rw [Qmn (by omega) (by omega), show i = min (w[x.u.toNat]'(by omega)).cs.length 16 by omega]
   ·try rw [h3]
    try simp only [qa, qb, qc, qd, qe, List.length_map] at h3
    refine Qt rfl (Qt rfl (Qo rfl rfl ?_))
    refine hK _ _ (Qb (kp5 rfl rfl rfl rfl rfl) ?_)
    refine ZI rfl (Zg (QK (Qx (QD (Qd (kp1 rfl) (Qf fun K hK => Qa rfl (Qa rfl ?_)))))))
    refine hK _ _ (Qb (kp1 rfl) ?_)
    refine Qu (QG rfl ?_)
    rw [Qmn (by omega) (by omega), show i = min (w[x.u.toNat]'(by omega)).cs.length 16 by omega]
theorem XO {m : Int} : Ok Tryz.prog 39 [.int .i64 m] (Zo (Qbm m)) := by
 refine Ok.ofT ZT Tryz.func39 QrN (Nat.le_of_ble_eq_true rfl) ?_
 show TW _ _ tf39.body _ _
 refine Qf fun K hK => Qa rfl ?_
 refine hK _ _ (Qb (kp1 rfl) ?_)
 refine Qf fun K hK => Qa rfl ?_
 refine hK _ _ (Qb (kp2 rfl rfl) ?_)
 refine QA ?_ -- 0
 refine Qf fun K hK => Qa rfl ?_
 refine hK _ _ (Qb (kp3 rfl rfl rfl) ?_)
 refine Qy ?_
 refine Zj (ι := Nat) (fun i => ⟨[(0, .int .i64 m), (3, .osl 3 (Xc m i).length), (4, .int .i64 i)], [(3, ⟨(Xc m i).map (fun x => [.int .i64 x]), 1, 3, true⟩)]⟩) (fun i => i <= 17) (fun i => 17 - i) 0 ?_ ?_ ?_
 ·exact le_trans (Z9 3 3 1 3 rfl rfl) (Q3 (l := [0, 3, 4]) (lH := [3]) (kp3 rfl rfl rfl) (Qe rfl Ql) rfl rfl rfl)
 ·exact Nat.zero_le _
 intro i hI
 have hlen := Qcm m i
 try dsimp only
 refine QA ?_ -- 1
 refine Qf fun K hK => Qa rfl (Qol rfl rfl ?_)
 refine hK _ _ (Qb (kp4 rfl rfl rfl rfl) ?_)
 refine Qw rfl (fun h1 => ?_) (fun h1 => ?_)
 ·try rw [h1]
  try simp only [qa, qb, qc, qd, qe] at h1
  refine Qv (Qd (kp3 rfl rfl rfl) ?_)
  refine QA ?_ -- 2
  refine Qy (Qf fun K hK => Qa rfl (Qa rfl (QI (Y6 (by omega) (by omega)) rfl rfl (.inr rfl) (QeM rfl rfl (XI rfl rfl ?_)))))
  refine hK _ _ (Qb (kp4 rfl rfl rfl rfl) ?_)
  refine Qw rfl (fun h2 => ?_) (fun h2 => ?_)
  ·try rw [h2]
   try simp only [qa, qb, qc, qd, qe] at h2
   refine QL fun K hK => Qa rfl (Qa rfl (QaE rfl rfl (by first | exact Qp (by omega) (by omega) | rfl) (QB rfl rfl (Xg rfl rfl (fun _ h => YU rfl rfl rfl h) rfl (by simp) rfl rfl rfl (by simp; omega) (by simp; omega) (Qa rfl (hK _ ?_))))))
   refine Qg (Qd (kp3 rfl rfl rfl) (QL fun K hK => Qa rfl (Q1 rfl rfl (by first | exact Qp (by omega) (by omega) | rfl) (Qa rfl (hK _ ?_)))))
   refine Qi (i + 1) ?_ ?_ ?_
   ·exact Q3 (l := [0, 3, 4]) (lH := [3]) (kp3 rfl rfl rfl) (Qe rfl Ql) (by first | (rw [XZ (m := m) (n := i) h2]; done) | (rw [XZ (m := m) (n := i) h2]; rfl) | (rw [XZ (m := m) (n := i) h2, List.length_append]; rfl) | (simp [XZ (m := m) (n := i) h2]; done) | (simp [XZ (m := m) (n := i) h2]; omega) | rfl) (by first | (rw [XZ (m := m) (n := i) h2]; done) | (rw [XZ (m := m) (n := i) h2]; rfl) | (rw [XZ (m := m) (n := i) h2, List.map_append]; rfl) | (simp [XZ (m := m) (n := i) h2]; done) | rfl) rfl
   ·omega
   ·first | omega | (simp only; omega) | (dsimp only; omega)
  ·try rw [h2]
   try simp only [qa, qb, qc, qd, qe] at h2
   refine Qv (Qg (Qd (kp3 rfl rfl rfl) (QL fun K hK => Qa rfl (Q1 rfl rfl (by first | exact Qp (by omega) (by omega) | rfl) (Qa rfl (hK _ ?_))))))
   refine Qi (i + 1) ?_ ?_ ?_
   ·exact Q3 (l := [0, 3, 4]) (lH := [3]) (kp3 rfl rfl rfl) (Qe rfl Ql) (by first | (rw [Qbb (m := m) (n := i) h2]; done) | (rw [Qbb (m := m) (n := i) h2]; rfl) | (rw [Qbb (m := m) (n := i) h2, List.length_append]; rfl) | (simp [Qbb (m := m) (n := i) h2]; done) | (simp [Qbb (m := m) (n := i) h2]; omega) | rfl) (by first | (rw [Qbb (m := m) (n := i) h2]; done) | (rw [Qbb (m := m) (n := i) h2]; rfl) | (rw [Qbb (m := m) (n := i) h2, List.map_append]; rfl) | (simp [Qbb (m := m) (n := i) h2]; done) | rfl) rfl
   ·omega
   ·first | omega | (simp only; omega) | (dsimp only; omega)
 ·try rw [h1]
  try simp only [qa, qb, qc, qd, qe] at h1
  refine Zg (QK (Qx (QD (Qd (kp1 rfl) (Qf fun K hK => Qa rfl (Qa rfl ?_))))))
  refine hK _ _ (Qb (kp1 rfl) ?_)
  refine Qu ?_
  exact X5 rfl rfl rfl (by simp) (by rw [Qbm, show (17 : Nat) = i by omega]; rfl)
theorem XQ {a b : List TermT} (ha : a.length <= 1000000) : Ok Tryz.prog 19 [Zt a, Zt b] (.bool (decide (a = b))) := by
 refine Ok.ofT ZT Tryz.func19 Qrz (Nat.le_of_ble_eq_true rfl) ?_
 show TW _ _ tf19.body _ _
 refine Qf fun K hK => Qa rfl ?_
 refine hK _ _ (Qb (kp2 rfl rfl) ?_)
 refine QA ?_ -- 0
 refine Qf fun K hK => Qa rfl (QQ rfl rfl (Qa rfl (QQ rfl rfl (XI rfl rfl ?_))))
 refine hK _ _ (Qb (kp3 rfl rfl rfl) ?_)
 refine Qw rfl (fun h1 => ?_) (fun h1 => ?_)
 ·try rw [h1]
  try simp only [qa, qb, qc, qd, qe, List.length_map] at h1
  refine Qf fun K hK => Qa rfl ?_
  refine hK _ _ (Qb (kp1 rfl) ?_)
  refine Qu (Qj (Qs rfl ?_))
  rw [decide_eq_false fun e => h1 (by rw [e])]
 ·try rw [h1]
  try simp only [qa, qb, qc, qd, qe, List.length_map] at h1
  refine Qv (Qd (kp2 rfl rfl) ?_)
  refine QA ?_ -- 1
  refine Qf fun K hK => Qa rfl ?_
  refine hK _ _ (Qb (kp3 rfl rfl rfl) ?_)
  refine Qy ?_
  refine Zj (ι := Nat) (fun i => ⟨[(0, Zt a), (1, Zt b), (5, .int .i64 i)], []⟩) (fun i => i <= a.length /\ a.take i = b.take i) (fun i => a.length - i) 0 ?_ ?_ ?_
  ·exact Za (kp3 rfl rfl rfl)
  ·exact ⟨Nat.zero_le _, by simp⟩
  intro i hI
  try dsimp only
  refine QA ?_ -- 2
  refine Qf fun K hK => Qa rfl (Qa rfl (QQ rfl rfl (Z6 rfl rfl ?_)))
  refine hK _ _ (Qb (kp4 rfl rfl rfl rfl) ?_)
  refine Qw rfl (fun h2 => ?_) (fun h2 => ?_)
  ·try rw [h2]
   try simp only [qa, qb, qc, qd, qe, List.length_map] at h2
   refine Qv (Qd (kp3 rfl rfl rfl) ?_)
   refine QA ?_ -- 3
   refine Qy (Qf fun K hK => Qa rfl (Qa rfl (QJ rfl rfl rfl (by omega) (QR (by omega)) rfl (QN (ds0 := [0]) (cs := [_, _]) rfl rfl rfl rfl rfl rfl (Qa rfl (Qa rfl (QJ rfl rfl rfl (by omega) (QR (by omega)) rfl (QN (ds0 := [0]) (cs := [_, _]) rfl rfl rfl rfl rfl rfl (Qok rfl rfl Qna ?_)))))))))
   refine hK _ _ (Qb (kp4 rfl rfl rfl rfl) ?_)
   refine Qw rfl (fun h3 => ?_) (fun h3 => ?_)
   ·try rw [h3]
    try simp only [qa, qb, qc, qd, qe, List.length_map] at h3
    refine Qf fun K hK => Qa rfl ?_
    refine hK _ _ (Qb (kp1 rfl) ?_)
    refine Qu (Qr (Qj (Q0 (Qr (Qj (Qs rfl ?_))))))
    rw [QmS (i := i) (by omega) (by omega) h3]
   ·try rw [h3]
    try simp only [qa, qb, qc, qd, qe, List.length_map] at h3
    refine Qv (Qg (Qd (kp3 rfl rfl rfl) (QL fun K hK => Qa rfl (Q1 rfl rfl (by first | exact Qp (by omega) (by omega) | rfl) (Qa rfl (hK _ ?_))))))
    refine Qi (i + 1) ?_ ?_ ?_
    ·exact Za (kp3 rfl rfl rfl)
    ·exact ⟨by omega, Qi6 (by omega) (by omega) hI.2 h3⟩
    ·first | omega | (simp only; omega) | (dsimp only; omega)
  ·try rw [h2]
   try simp only [qa, qb, qc, qd, qe, List.length_map] at h2
   refine Zg (QK (Qx (QD (Qd (Q5) (Qf fun K hK => Qa rfl ?_)))))
   refine hK _ _ (Qb (kp1 rfl) ?_)
   refine Qu (Qs rfl ?_)
   rw [List.take_of_length_le (by omega), List.take_of_length_le (by omega)] at hI; exact (decide_eq_true hI.2).symm
end Go.Proofs
namespace Go.Proofs
open Go Go.Abs M3 M25
set_option linter.unusedVariables false
set_option linter.unusedSimpArgs false
theorem QbO {w : Qq} (hw : WSm w) (et : Nat) (het : et = 3) : OkH Tryz.prog 73 [Z2 w] [] (.osl 500000 (QaY w).length) [(500000, ⟨(QaY w).map (fun x => [.int .i64 x]), 1, et, true⟩)] := by
 subst het
 refine OkH.new ZT Tryz.func73 Qsi (Nat.le_of_ble_eq_true rfl) rfl ?_
 show TW _ _ tf73.body _ _
 have hn := hw.len
 refine Qf fun K hK => Zw rfl rfl rfl (Qa rfl ?_)
 refine hK _ _ (Qb (kp1 rfl) ?_)
 refine Qf fun K hK => Qa rfl ?_
 refine hK _ _ (Qb (kp2 rfl rfl) ?_)
 refine QA ?_ -- 0
 refine Qf fun K hK => Qa rfl ?_
 refine hK _ _ (Qb (kp3 rfl rfl rfl) ?_)
 refine Qy ?_
 refine Zj (ι := Nat) (fun i => ⟨[(1, .ref 1 0 0), (3, .osl 500000 (QbU w i).length), (4, .int .i64 i)], [(1, ⟨[[.sl ((w).map Yq)]], 1, 26, true⟩), (500000, ⟨(QbU w i).map (fun x => [.int .i64 x]), 1, 3, true⟩)]⟩) (fun i => i <= w.length) (fun i => w.length - i) 0 ?_ ?_ ?_
 ·exact le_trans (Z9 3 500000 1 3 rfl rfl) (Q3 (l := [1, 3, 4]) (lH := [1, 500000]) (kp3 rfl rfl rfl) (Qe rfl (Qe rfl Ql)) rfl rfl rfl)
 ·exact Nat.zero_le _
 intro i hI
 have hlen := Qc5 w i
 try dsimp only
 refine QA ?_ -- 1
 refine Qf fun K hK => Qa rfl (Qh rfl rfl (QC rfl rfl rfl (QQ rfl rfl (Z6 rfl rfl ?_))))
 refine hK _ _ (Qb (kp4 rfl rfl rfl rfl) ?_)
 refine Qw rfl (fun h1 => ?_) (fun h1 => ?_)
 ·try rw [h1]
  try simp only [qa, qb, qc, qd, qe, List.length_map] at h1
  refine Qv (Qd (kp3 rfl rfl rfl) ?_)
  refine QA ?_ -- 2
  refine Qy (QL fun K hK => Qa rfl (QH (cs := [_]) rfl rfl rfl rfl (Qa rfl (QI (Zz hw) rfl rfl (.inr rfl) (QB rfl rfl (Xg rfl rfl (fun _ h => YU rfl rfl rfl h) rfl (by simp) rfl rfl rfl (by simp; omega) (by simp; omega) (Qa rfl (hK _ ?_))))))))
  refine Qg (Qd (kp3 rfl rfl rfl) (QL fun K hK => Qa rfl (Q1 rfl rfl (by first | exact Qp (by omega) (by omega) | rfl) (Qa rfl (hK _ ?_)))))
  refine Qi (i + 1) ?_ ?_ ?_
  ·exact Q3 (l := [1, 3, 4]) (lH := [1, 500000]) (kp3 rfl rfl rfl) (Qe rfl (Qe rfl Ql)) (by first | (rw [X0]; done) | (rw [X0]; rfl) | (rw [X0, List.length_append]; rfl) | (simp [X0]; done) | (simp [X0]; omega) | rfl) (by first | (rw [X0]; done) | (rw [X0]; rfl) | (rw [X0, List.map_append]; rfl) | (simp [X0]; done) | rfl) rfl
  ·omega
  ·first | omega | (simp only; omega) | (dsimp only; omega)
 ·try rw [h1]
  try simp only [qa, qb, qc, qd, qe, List.length_map] at h1
  refine Zg (QK (Qx (QD (Qd (kp1 rfl) (Qf fun K hK => Qa rfl (Qa rfl ?_))))))
  refine hK _ _ (Qb (kp1 rfl) ?_)
  refine Qu ?_
  refine Yx rfl ?_ (Qch ?_)
  ·rw [QaY, show w.length = i by omega]; rfl
  ·rw [QaY, show w.length = i by omega]; rfl
theorem QcI {w : Qq} (hw : WSm w) {ms : List Int} (hm : ms.length <= 1000000) : Ok Tryz.prog 74 [Z2 w, Zo ms] (dOT (QiE w ms)) := by
 refine Ok.ofT ZT Tryz.func74 Qsj (Nat.le_of_ble_eq_true rfl) ?_
 show TW _ _ tf74.body _ _
 refine Qf fun K hK => Zw rfl rfl rfl (Qa rfl (Qa rfl ?_))
 refine hK _ _ (Qb (kp2 rfl rfl) ?_)
 refine Qf fun K hK => Qa rfl ?_
 refine hK _ _ (Qb (kp3 rfl rfl rfl) ?_)
 refine QA ?_ -- 0
 refine Qf fun K hK => Qa rfl ?_
 refine hK _ _ (Qb (kp4 rfl rfl rfl rfl) ?_)
 refine Qy ?_
 refine Zj (ι := Nat) (fun i => ⟨[(1, Zo ms), (2, .ref 2 0 0), (6, .osl 6 (Xw w ms i).length), (7, .int .i64 i)], [(2, ⟨[[.sl ((w).map Yq)]], 1, 26, true⟩), (6, ⟨(Xw w ms i).map Qc3, 2, 56, true⟩)]⟩) (fun i => i <= ms.length /\ (ms.take i).all (fun m => !decide (m = 0)) = true) (fun i => ms.length - i) 0 ?_ ?_ ?_
 ·exact le_trans (Z9 6 6 2 56 rfl rfl) (Q3 (l := [1, 2, 6, 7]) (lH := [2, 6]) (kp4 rfl rfl rfl rfl) (Qe rfl (Qe rfl Ql)) rfl rfl rfl)
 ·exact ⟨Nat.zero_le _, by simp⟩
 intro i hI
 have hlen := QgN w ms i
 try dsimp only
 refine QA ?_ -- 1
 refine Qf fun K hK => Qa rfl (Qa rfl (QQ rfl rfl (Z6 rfl rfl ?_)))
 refine hK _ _ (Qb (kp5 rfl rfl rfl rfl rfl) ?_)
 refine Qw rfl (fun h1 => ?_) (fun h1 => ?_)
 ·try rw [h1]
  try simp only [qa, qb, qc, qd, qe, List.length_map] at h1
  refine Qv (Qd (kp4 rfl rfl rfl rfl) ?_)
  refine QA ?_ -- 2
  refine Qy ?_
  refine QA ?_ -- 3
  refine Qf fun K hK => Qa rfl (Qa rfl (QJ rfl rfl rfl (by omega) (QR (by omega)) rfl (QC rfl rfl rfl (ZK rfl rfl ?_))))
  refine hK _ _ (Qb (kp5 rfl rfl rfl rfl rfl) ?_)
  refine Qw rfl (fun h2 => ?_) (fun h2 => ?_)
  ·try rw [h2]
   try simp only [qa, qb, qc, qd, qe, List.length_map] at h2
   refine Qf fun K hK => Qa rfl (Qa rfl ?_)
   refine hK _ _ (Qb (kp2 rfl rfl) ?_)
   refine Qu (Qj (Qr (Qj (Q0 (Qr (Qj ?_))))))
   rw [Qlk (i := i) (by omega) h2]
   exact QT rfl rfl ⟨rfl, rfl⟩
  ·try rw [h2]
   try simp only [qa, qb, qc, qd, qe, List.length_map] at h2
   refine Qv (Qd (kp4 rfl rfl rfl rfl) (Qf fun K hK => Qa rfl (Qa rfl (QJ rfl rfl rfl (by omega) (QR (by omega)) rfl (QU (ds0 := [0]) rfl rfl rfl rfl rfl (QN (ds0 := [1, 0]) (cs := [_]) rfl rfl rfl rfl rfl rfl (Qa rfl (QW (ds0 := [0]) (Zz hw) rfl rfl (.inr rfl) rfl rfl (XI rfl rfl ?_)))))))))
   refine hK _ _ (Qb (kp5 rfl rfl rfl rfl rfl) ?_)
   refine Qw rfl (fun h3 => ?_) (fun h3 => ?_)
   ·try rw [h3]
    try simp only [qa, qb, qc, qd, qe, List.length_map] at h3
    refine QL fun K hK => Qa rfl (Qa rfl (Qa rfl (Qa rfl (QJ rfl rfl rfl (by omega) (QR (by omega)) rfl (QC rfl rfl rfl (QV rfl rfl (QB rfl rfl (Xg rfl rfl (fun _ h => YU rfl rfl rfl h) rfl (by simp) rfl rfl rfl (by simp; omega) (by simp; omega) (Qa rfl (hK _ ?_))))))))))
    refine Qg (Qd (kp4 rfl rfl rfl rfl) (QL fun K hK => Qa rfl (Q1 rfl rfl (by first | exact Qp (by omega) (by omega) | rfl) (Qa rfl (hK _ ?_)))))
    refine Qi (i + 1) ?_ ?_ ?_
    ·exact Q3 (l := [1, 2, 6, 7]) (lH := [2, 6]) (kp4 rfl rfl rfl rfl) (Qe rfl (Qe rfl Ql)) (by first | (rw [X2 (by omega) h3]; done) | (rw [X2 (by omega) h3]; rfl) | (rw [X2 (by omega) h3, List.length_append]; rfl) | (simp [X2 (by omega) h3]; done) | (simp [X2 (by omega) h3]; omega) | rfl) (by first | (rw [X2 (by omega) h3]; done) | (rw [X2 (by omega) h3]; rfl) | (rw [X2 (by omega) h3, List.map_append]; rfl) | (simp [X2 (by omega) h3]; done) | rfl) rfl
    ·exact ⟨by omega, Yb (by omega) hI.2 (by simpa using h2)⟩
    ·first | omega | (simp only; omega) | (dsimp only; omega)
   ·try rw [h3]
    try simp only [qa, qb, qc, qd, qe, List.length_map] at h3
    refine Qv (Qg (Qd (kp4 rfl rfl rfl rfl) (QL fun K hK => Qa rfl (Q1 rfl rfl (by first | exact Qp (by omega) (by omega) | rfl) (Qa rfl (hK _ ?_))))))
    refine Qi (i + 1) ?_ ?_ ?_
    ·exact Q3 (l := [1, 2, 6, 7]) (lH := [2, 6]) (kp4 rfl rfl rfl rfl) (Qe rfl (Qe rfl Ql)) (by first | (rw [Qbn (by omega) h3]; done) | (rw [Qbn (by omega) h3]; rfl) | (rw [Qbn (by omega) h3, List.length_append]; rfl) | (simp [Qbn (by omega) h3]; done) | (simp [Qbn (by omega) h3]; omega) | rfl) (by first | (rw [Qbn (by omega) h3]; done) | (rw [Qbn (by omega) h3]; rfl) | (rw [Qbn (by omega) h3, List.map_append]; rfl) | (simp [Qbn (by omega) h3]; done) | rfl) rfl
    ·exact ⟨by omega, Yb (by omega) hI.2 (by simpa using h2)⟩
    ·first | omega | (simp only; omega) | (dsimp only; omega)
 ·try rw [h1]
  try simp only [qa, qb, qc, qd, qe, List.length_map] at h1
  refine Zg (QK (Qx (QD (Qd (kp1 rfl) (Qf fun K hK => Qa rfl (Qa rfl (Qa rfl ?_)))))))
  refine hK _ _ (Qb (kp2 rfl rfl) ?_)
  refine Qu ?_
  rw [Qml (i := i) (by omega) hI.2]
  exact QfZ rfl rfl rfl (by simp) (by show D.sl _ = Zt (Xw w ms ms.length); rw [show ms.length = i by omega]; rfl) rfl rfl
theorem XP {w : Qq} (hw : WSm w) {l : List TermT} (hl : l.length <= 2000000) : Ok Tryz.prog 52 [Z2 w, Zt l] (dOT (QcV w l)) := by
 refine Ok.ofT ZT Tryz.func52 QrY (Nat.le_of_ble_eq_true rfl) ?_
 show TW _ _ tf52.body _ _
 have hn := hw.len
 refine Qf fun K hK => Zw rfl rfl rfl (Qa rfl (Qa rfl ?_))
 refine hK _ _ (Qb (kp2 rfl rfl) ?_)
 refine Qf fun K hK => QH (cs := [_]) rfl rfl rfl rfl (Yj (Qj4 rfl (by intro x hx; simp at hx; subst hx; rfl) rfl rfl rfl (QbO hw _ rfl)) (Qa rfl ?_))
 refine hK _ _ (Qb (kp3 rfl rfl rfl) ?_)
 refine Qfd (ι := Unit) (fun _ => ⟨[(2, .ref 2 0 0), (6, Zo (Xv (QaY w) l))], [(2, ⟨[[.sl ((w).map Yq)]], 1, 26, true⟩)]⟩) (fun _ => l.all (fun t => inW w t.u) = true) ?_ ?_
 ·skip
  refine Qf fun K hK => Qa rfl ?_
  refine hK _ _ (Qb (kp4 rfl rfl rfl rfl) ?_)
  refine Qy ?_
  refine Zj (ι := Nat) (fun i => ⟨[(1, Zt l), (2, .ref 2 0 0), (6, .osl 500000 (Xv (QaY w) (l.take i)).length), (7, .int .i64 i)], [(2, ⟨[[.sl ((w).map Yq)]], 1, 26, true⟩), (500000, ⟨(Xv (QaY w) (l.take i)).map (fun x => [.int .i64 x]), 1, 3, true⟩)]⟩) (fun i => i <= l.length /\ (l.take i).all (fun t => inW w t.u) = true) (fun i => l.length - i) 0 ?_ ?_ ?_
  ·exact Q3 (l := [1, 2, 6, 7]) (lH := [2, 500000]) (kp4 rfl rfl rfl rfl) (Qe rfl (Qe rfl Ql)) rfl rfl rfl
  ·exact ⟨Nat.zero_le _, by simp⟩
  intro i hI
  have hlen := Qfw w (l.take i)
  try dsimp only
  refine QA ?_ -- 1
  refine Qf fun K hK => Qa rfl (Qa rfl (QQ rfl rfl (Z6 rfl rfl ?_)))
  refine hK _ _ (Qb (kp5 rfl rfl rfl rfl rfl) ?_)
  refine Qw rfl (fun h1 => ?_) (fun h1 => ?_)
  ·try rw [h1]
   try simp only [qa, qb, qc, qd, qe, List.length_map] at h1
   refine Qv (Qd (kp4 rfl rfl rfl rfl) ?_)
   refine QA ?_ -- 2
   refine Qy ?_
   refine QA ?_ -- 3
   refine Qf fun K hK => Qa rfl (Qa rfl (QJ rfl rfl rfl (by omega) (QR (by omega)) rfl (Q8 rfl rfl (QC rfl rfl rfl (Z6 rfl rfl (Qa rfl ?_))))))
   refine QE (g := 22) rfl (fun h2 => ?_) (fun h2 => ?_)
   ·try rw [h2]
    try simp only [qa, qb, qc, qd, qe, List.length_map] at h2
    refine Qt rfl (Qt rfl (Qt rfl (Qt rfl (Qt rfl (Qt rfl (Qt rfl (Qt rfl (Qo rfl rfl ?_))))))))
    refine hK _ _ (Qb (kp5 rfl rfl rfl rfl rfl) ?_)
    refine Zu rfl (Qf fun K hK => Qa rfl (Qa rfl ?_))
    refine hK _ _ (Qb (kp2 rfl rfl) ?_)
    refine Qu (Qj (Qr (Qj (Q0 (Qr (QdB ?_))))))
    rw [QgL (i := i) (by omega) (Qbg (by omega))]
    exact QT rfl rfl ⟨rfl, rfl⟩
   ·try rw [h2]
    try simp only [qa, qb, qc, qd, qe, List.length_map] at h2
    refine Qk rfl (Qa rfl (Qk rfl (Qa rfl (Qk rfl (QJ rfl rfl rfl (by omega) (QR (by omega)) rfl (Qk rfl (Q8 rfl rfl (Qk rfl (QC rfl rfl rfl (Qk rfl (Qa rfl ?_)))))))))))
    refine Qk rfl (QQ rfl rfl (Qk rfl (QeU rfl rfl (Qo rfl rfl ?_))))
    refine hK _ _ (Qb (kp5 rfl rfl rfl rfl rfl) ?_)
    refine Qw rfl (fun h3 => ?_) (fun h3 => ?_)
    ·try rw [h3]
     try simp only [qa, qb, qc, qd, qe, List.length_map] at h3
     refine Qf fun K hK => Qa rfl (Qa rfl ?_)
     refine hK _ _ (Qb (kp2 rfl rfl) ?_)
     refine Qu (Qj (Qr (Qj (Q0 (Qr (QdB ?_))))))
     rw [QgL (i := i) (by omega) (Qbg (by omega))]
     exact QT rfl rfl ⟨rfl, rfl⟩
    ·try rw [h3]
     try simp only [qa, qb, qc, qd, qe, List.length_map] at h3
     refine Qv (Qd (kp4 rfl rfl rfl rfl) (QL fun K hK => Qa rfl (Qa rfl (Qa rfl (QJ rfl rfl rfl (by omega) (QR (by omega)) rfl (Q8 rfl rfl (QU (ds0 := [1, 0]) rfl rfl rfl rfl rfl (Qa rfl (Qa rfl (Qa rfl ?_))))))))))
     refine QJ rfl rfl rfl (by omega) (QR (by omega)) rfl (Q8 rfl rfl (QU (ds0 := [9, 8, 2, 0]) rfl rfl rfl rfl rfl (XH (ds0 := [8, 2, 0]) rfl rfl rfl (by simp) (by omega) (by omega) rfl rfl rfl (QU (ds0 := [2, 0]) rfl (Z7 rfl (ZB (by omega) (by omega))) rfl rfl rfl (Qa rfl (Qa rfl (QJ rfl rfl rfl (by omega) (QR (by omega)) rfl (Q8 rfl rfl (QU (ds0 := [2, 0]) rfl rfl rfl rfl rfl (QeM rfl rfl (XH (ds0 := [0]) rfl rfl rfl (by simp) (by omega) (by omega) rfl rfl rfl ?_)))))))))))
     refine Y2 (ds0 := []) rfl rfl (ZB (by omega) (by omega)) rfl rfl rfl rfl rfl rfl rfl (hK _ ?_)
     refine Qg (Qd (kp4 rfl rfl rfl rfl) (QL fun K hK => Qa rfl (Q1 rfl rfl (by first | exact Qp (by omega) (by omega) | rfl) (Qa rfl (hK _ ?_)))))
     refine Qi (i + 1) ?_ ?_ ?_
     ·exact Q3 (l := [1, 2, 6, 7]) (lH := [2, 500000]) (kp4 rfl rfl rfl rfl) (Qe rfl (Qe rfl Ql)) (by rw [Qkx (by omega) (by omega), List.length_set]; rfl) (by rw [Qkx (by omega) (by omega), List.map_set]; rfl) rfl
     ·exact ⟨by omega, Yb (by omega) hI.2 (QfE (by omega) (by omega))⟩
     ·first | omega | (simp only; omega) | (dsimp only; omega)
  ·try rw [h1]
   try simp only [qa, qb, qc, qd, qe, List.length_map] at h1
   refine Zg (QK (Qx (QD ?_)))
   refine ZY () ?_ ?_
   ·exact le_trans (QeH (l := [2]) (lH := [2]) 500000 6 (kp1 rfl) (Qe rfl Ql) rfl rfl rfl (by first | (simp; done) | (simp; omega)) rfl rfl rfl rfl) (Q3 (l := [2, 6]) (lH := [2]) (kp2 rfl rfl) (Qe rfl Ql) (by rw [List.take_of_length_le (show l.length <= i by omega)]; rfl) rfl rfl)
   ·exact Xy (by omega) hI.2
 intro _ hJ
 try dsimp only
 refine Qf fun K hK => QH (cs := [_]) rfl rfl rfl rfl (Qa rfl (QI (QcI hw (by rw [Qfw]; omega)) rfl rfl (.inl rfl) (QO rfl rfl (QO rfl rfl (Qa rfl (Qa rfl ?_))))))
 refine hK _ _ (Qb (kp2 rfl rfl) ?_)
 refine Qu ?_
 rw [Qmm hJ]
 exact QT rfl rfl ⟨rfl, rfl⟩
theorem Y7 {l : List TermT} (hl : l.length <= 2000000) {u : Int} : Ok Tryz.prog 90 [Zt l, .int .i64 u] (Zt (QgH l u)) := by
 refine Ok.ofT ZT Tryz.func90 Qsz (Nat.le_of_ble_eq_true rfl) ?_
 show TW _ _ tf90.body _ _
 refine Qf fun K hK => Qa rfl ?_
 refine hK _ _ (Qb (kp2 rfl rfl) ?_)
 refine Qf fun K hK => Qa rfl ?_
 refine hK _ _ (Qb (kp3 rfl rfl rfl) ?_)
 refine QA ?_ -- 0
 refine Qf fun K hK => Qa rfl ?_
 refine hK _ _ (Qb (kp4 rfl rfl rfl rfl) ?_)
 refine Qy ?_
 refine Zj (ι := Nat) (fun i => ⟨[(0, Zt l), (1, .int .i64 u), (5, .osl 5 (QgH (l.take i) u).length), (6, .int .i64 i)], [(5, ⟨(QgH (l.take i) u).map Qc3, 2, 56, true⟩)]⟩) (fun i => i <= l.length) (fun i => l.length - i) 0 ?_ ?_ ?_
 ·exact le_trans (Z9 5 5 2 56 rfl rfl) (Q3 (l := [0, 1, 5, 6]) (lH := [5]) (kp4 rfl rfl rfl rfl) (Qe rfl Ql) rfl rfl rfl)
 ·exact Nat.zero_le _
 intro i hI
 have hlen := Qns l u i
 try dsimp only
 refine QA ?_ -- 1
 refine Qf fun K hK => Qa rfl (Qa rfl (QQ rfl rfl (Z6 rfl rfl ?_)))
 refine hK _ _ (Qb (kp5 rfl rfl rfl rfl rfl) ?_)
 refine Qw rfl (fun h1 => ?_) (fun h1 => ?_)
 ·try rw [h1]
  try simp only [qa, qb, qc, qd, qe, List.length_map] at h1
  refine Qv (Qd (kp4 rfl rfl rfl rfl) ?_)
  refine QA ?_ -- 2
  refine Qy (Qf fun K hK => Qa rfl (Qa rfl (QJ rfl rfl rfl (by omega) (QR (by omega)) rfl (Q8 rfl rfl (QC rfl rfl rfl (Qa rfl (XI rfl rfl ?_)))))))
  refine hK _ _ (Qb (kp5 rfl rfl rfl rfl rfl) ?_)
  refine Qw rfl (fun h2 => ?_) (fun h2 => ?_)
  ·try rw [h2]
   try simp only [qa, qb, qc, qd, qe, List.length_map] at h2
   refine QL fun K hK => Qa rfl (Qa rfl (Qa rfl (QJ rfl rfl rfl (by omega) (QR (by omega)) rfl (QH (cs := [_, _]) rfl rfl rfl rfl (QB rfl rfl (Xg rfl rfl (fun _ h => YU rfl rfl rfl h) rfl (by simp) rfl rfl rfl (by simp; omega) (by simp; omega) (Qa rfl (hK _ ?_))))))))
   refine Qg (Qd (kp4 rfl rfl rfl rfl) (QL fun K hK => Qa rfl (Q1 rfl rfl (by first | exact Qp (by omega) (by omega) | rfl) (Qa rfl (hK _ ?_)))))
   refine Qi (i + 1) ?_ ?_ ?_
   ·exact Q3 (l := [0, 1, 5, 6]) (lH := [5]) (kp4 rfl rfl rfl rfl) (Qe rfl Ql) (by first | (rw [Qa5 (by omega) h2]; done) | (rw [Qa5 (by omega) h2]; rfl) | (rw [Qa5 (by omega) h2, List.length_append]; rfl) | (simp [Qa5 (by omega) h2]; done) | (simp [Qa5 (by omega) h2]; omega) | rfl) (by first | (rw [Qa5 (by omega) h2]; done) | (rw [Qa5 (by omega) h2]; rfl) | (rw [Qa5 (by omega) h2, List.map_append]; rfl) | (simp [Qa5 (by omega) h2]; done) | rfl) rfl
   ·omega
   ·first | omega | (simp only; omega) | (dsimp only; omega)
  ·try rw [h2]
   try simp only [qa, qb, qc, qd, qe, List.length_map] at h2
   refine Qv (Qg (Qd (kp4 rfl rfl rfl rfl) (QL fun K hK => Qa rfl (Q1 rfl rfl (by first | exact Qp (by omega) (by omega) | rfl) (Qa rfl (hK _ ?_))))))
   refine Qi (i + 1) ?_ ?_ ?_
   ·exact Q3 (l := [0, 1, 5, 6]) (lH := [5]) (kp4 rfl rfl rfl rfl) (Qe rfl Ql) (by first | (rw [Qdk (by omega) h2]; done) | (rw [Qdk (by omega) h2]; rfl) | (rw [Qdk (by omega) h2, List.length_append]; rfl) | (simp [Qdk (by omega) h2]; done) | (simp [Qdk (by omega) h2]; omega) | rfl) (by first | (rw [Qdk (by omega) h2]; done) | (rw [Qdk (by omega) h2]; rfl) | (rw [Qdk (by omega) h2, List.map_append]; rfl) | (simp [Qdk (by omega) h2]; done) | rfl) rfl
   ·omega
   ·first | omega | (simp only; omega) | (dsimp only; omega)
 ·try rw [h1]
  try simp only [qa, qb, qc, qd, qe, List.length_map] at h1
  refine Zg (QK (Qx (QD (Qd (kp1 rfl) (Qf fun K hK => Qa rfl (Qa rfl ?_))))))
  refine hK _ _ (Qb (kp1 rfl) ?_)
  refine Qu ?_
  exact X5 rfl rfl rfl (by simp) (by rw [List.take_of_length_le (show l.length <= i by omega)]; rfl)
theorem QbE {l : List TermT} (hl : l.length <= 3000000) : Ok Tryz.prog 91 [Zt l] (Zt (QhD l)) := by
 refine Ok.ofT ZT Tryz.func91 QsA (Nat.le_of_ble_eq_true rfl) ?_
 show TW _ _ tf91.body _ _
 refine Qf fun K hK => Qa rfl ?_
 refine hK _ _ (Qb (kp1 rfl) ?_)
 refine Qf fun K hK => Qa rfl ?_
 refine hK _ _ (Qb (kp2 rfl rfl) ?_)
 refine QA ?_ -- 0
 refine Qf fun K hK => Qa rfl ?_
 refine hK _ _ (Qb (kp3 rfl rfl rfl) ?_)
 refine Qy ?_
 refine Zj (ι := Nat) (fun u => ⟨[(0, Zt l), (3, .osl 3 (Ym l u).length), (4, .int .i64 u)], [(3, ⟨(Ym l u).map Qc3, 2, 56, true⟩)]⟩) (fun u => u <= 48) (fun u => 48 - u) 0 ?_ ?_ ?_
 ·exact le_trans (Z9 3 3 2 56 rfl rfl) (Q3 (l := [0, 3, 4]) (lH := [3]) (kp3 rfl rfl rfl) (Qe rfl Ql) rfl rfl rfl)
 ·exact Nat.zero_le _
 intro u hU
 have hlen2 : u * l.length <= 48 * 3000000 := Nat.mul_le_mul (by omega) hl
 try dsimp only
 refine QA ?_ -- 1
 refine Qf fun K hK => Qa rfl (Z6 rfl rfl ?_)
 refine hK _ _ (Qb (kp4 rfl rfl rfl rfl) ?_)
 refine Qw rfl (fun h1 => ?_) (fun h1 => ?_)
 ·try rw [h1]
  try simp only [qa, qb, qc, qd, qe, List.length_map] at h1
  refine Qv (Qd (kp3 rfl rfl rfl) ?_)
  refine QA ?_ -- 2
  refine Qy (Qf fun K hK => Qa rfl ?_)
  refine hK _ _ (Qb (kp4 rfl rfl rfl rfl) ?_)
  refine Qy ?_
  refine Zj (ι := Nat) (fun i => ⟨[(0, Zt l), (3, .osl 3 (srt l u i).length), (4, .int .i64 u), (5, .int .i64 i)], [(3, ⟨(srt l u i).map Qc3, 2, 56, true⟩)]⟩) (fun i => i <= l.length) (fun i => l.length - i) 0 ?_ ?_ ?_
  ·exact Q3 (l := [0, 3, 4, 5]) (lH := [3]) (kp4 rfl rfl rfl rfl) (Qe rfl Ql) (by first | (rw [X6]; done) | (rw [X6]; rfl) | (rw [X6, List.length_append]; rfl) | (simp [X6]; done) | (simp [X6]; omega) | rfl) (by first | (rw [X6]; done) | (rw [X6]; rfl) | (rw [X6, List.map_append]; rfl) | (simp [X6]; done) | rfl) rfl
  ·exact Nat.zero_le _
  intro i hI
  have hlen3 := Qpz l u i
  try dsimp only
  refine QA ?_ -- 3
  refine Qf fun K hK => Qa rfl (Qa rfl (QQ rfl rfl (Z6 rfl rfl ?_)))
  refine hK _ _ (Qb (kp5 rfl rfl rfl rfl rfl) ?_)
  refine Qw rfl (fun h2 => ?_) (fun h2 => ?_)
  ·try rw [h2]
   try simp only [qa, qb, qc, qd, qe, List.length_map] at h2
   refine Qv (Qd (kp4 rfl rfl rfl rfl) ?_)
   refine QA ?_ -- 4
   refine Qy (Qf fun K hK => Qa rfl (Qa rfl (QJ rfl rfl rfl (by omega) (QR (by omega)) rfl (Q8 rfl rfl (QC rfl rfl rfl (Qa rfl (ZK rfl rfl ?_)))))))
   refine hK _ _ (Qb (kp5 rfl rfl rfl rfl rfl) ?_)
   refine Qw rfl (fun h3 => ?_) (fun h3 => ?_)
   ·try rw [h3]
    try simp only [qa, qb, qc, qd, qe, List.length_map] at h3
    refine QL fun K hK => Qa rfl (Qa rfl (Qa rfl (QJ rfl rfl rfl (by omega) (QR (by omega)) rfl (QH (cs := [_, _]) rfl rfl rfl rfl (QB rfl rfl (Xg rfl rfl (fun _ h => YU rfl rfl rfl h) rfl (by simp) rfl rfl rfl (by simp; omega) (by simp; omega) (Qa rfl (hK _ ?_))))))))
    refine Qg (Qd (kp4 rfl rfl rfl rfl) (QL fun K hK => Qa rfl (Q1 rfl rfl (by first | exact Qp (by omega) (by omega) | rfl) (Qa rfl (hK _ ?_)))))
    refine Qi (i + 1) ?_ ?_ ?_
    ·exact Q3 (l := [0, 3, 4, 5]) (lH := [3]) (kp4 rfl rfl rfl rfl) (Qe rfl Ql) (by first | (rw [Qbs (by omega) h3]; done) | (rw [Qbs (by omega) h3]; rfl) | (rw [Qbs (by omega) h3, List.length_append]; rfl) | (simp [Qbs (by omega) h3]; done) | (simp [Qbs (by omega) h3]; omega) | rfl) (by first | (rw [Qbs (by omega) h3]; done) | (rw [Qbs (by omega) h3]; rfl) | (rw [Qbs (by omega) h3, List.map_append]; rfl) | (simp [Qbs (by omega) h3]; done) | rfl) rfl
    ·omega
    ·first | omega | (simp only; omega) | (dsimp only; omega)
   ·try rw [h3]
    try simp only [qa, qb, qc, qd, qe, List.length_map] at h3
    refine Qv (Qg (Qd (kp4 rfl rfl rfl rfl) (QL fun K hK => Qa rfl (Q1 rfl rfl (by first | exact Qp (by omega) (by omega) | rfl) (Qa rfl (hK _ ?_))))))
    refine Qi (i + 1) ?_ ?_ ?_
    ·exact Q3 (l := [0, 3, 4, 5]) (lH := [3]) (kp4 rfl rfl rfl rfl) (Qe rfl Ql) (by first | (rw [QdZ (by omega) h3]; done) | (rw [QdZ (by omega) h3]; rfl) | (rw [QdZ (by omega) h3, List.length_append]; rfl) | (simp [QdZ (by omega) h3]; done) | (simp [QdZ (by omega) h3]; omega) | rfl) (by first | (rw [QdZ (by omega) h3]; done) | (rw [QdZ (by omega) h3]; rfl) | (rw [QdZ (by omega) h3, List.map_append]; rfl) | (simp [QdZ (by omega) h3]; done) | rfl) rfl
    ·omega
    ·first | omega | (simp only; omega) | (dsimp only; omega)
  ·try rw [h2]
   try simp only [qa, qb, qc, qd, qe, List.length_map] at h2
   refine Zg (QK (Qx (QD (Qg (Qd (kp3 rfl rfl rfl) (QL fun K hK => Qa rfl (Q1 rfl rfl (by first | exact Qp (by omega) (by omega) | rfl) (Qa rfl (hK _ ?_)))))))))
   refine Qi (u + 1) ?_ ?_ ?_
   ·exact Q3 (l := [0, 3, 4]) (lH := [3]) (kp3 rfl rfl rfl) (Qe rfl Ql) (by first | (rw [Qbr l u (show l.length = i by omega)]; done) | (rw [Qbr l u (show l.length = i by omega)]; rfl) | (rw [Qbr l u (show l.length = i by omega), List.length_append]; rfl) | (simp [Qbr l u (show l.length = i by omega)]; done) | (simp [Qbr l u (show l.length = i by omega)]; omega) | rfl) (by first | (rw [Qbr l u (show l.length = i by omega)]; done) | (rw [Qbr l u (show l.length = i by omega)]; rfl) | (rw [Qbr l u (show l.length = i by omega), List.map_append]; rfl) | (simp [Qbr l u (show l.length = i by omega)]; done) | rfl) rfl
   ·omega
   ·first | omega | (simp only; omega) | (dsimp only; omega)
 ·try rw [h1]
  try simp only [qa, qb, qc, qd, qe, List.length_map] at h1
  refine Zg (QK (Qx (QD (Qd (kp1 rfl) (Qf fun K hK => Qa rfl (Qa rfl ?_))))))
  refine hK _ _ (Qb (kp1 rfl) ?_)
  refine Qu ?_
  exact X5 rfl rfl rfl (by simp) (by rw [QhD, show (48 : Nat) = u by omega]; rfl)
theorem Xr {w : Qq} (hw : WSm w) {u : Int} {p : Nat} (hp : p <= 60) {l : List WantT} (hl : l.length <= 1000000) (hx : ∀ x ∈ l, Sm x.s.1 /\ Sm x.s.2) {bar : Bool} : Ok Tryz.prog 71 [Z2 w, .int .i64 u, .int .i64 (p : Nat), Q9 l, .bool bar] (dOT (Yk w u p l bar)) := by
 refine Ok.ofT ZT Tryz.func71 Qsg (Nat.le_of_ble_eq_true rfl) ?_
 show TW _ _ tf71.body _ _
 refine Qf fun K hK => Zw rfl rfl rfl (Qa rfl (Qa rfl ?_))
 refine hK _ _ (Qb (kp5 rfl rfl rfl rfl rfl) ?_)
 refine Qf fun K hK => Qa rfl (QH (cs := [_]) rfl rfl rfl rfl (Qa rfl (QI (Zz hw) rfl rfl (.inr rfl) (Qa rfl (Qh2 rfl (Qfb (by omega) (by omega)) (QoW rfl rfl (by omega) (Qnd hp) (QeM rfl rfl (QV rfl rfl (QB rfl rfl (Qa rfl ?_))))))))))
 refine hK _ _ (Qb (kp4 rfl rfl rfl rfl) ?_)
 refine Qfd (ι := Unit) (fun _ => ⟨[(5, .ref 5 0 0), (12, Zt (clT w u p bar l))], [(5, ⟨[[.sl ((w).map Yq)]], 1, 26, true⟩)]⟩) (fun _ => True) ?_ ?_
 ·skip
  refine Qf fun K hK => Qa rfl ?_
  refine hK _ _ (Qb (kp5 rfl rfl rfl rfl rfl) ?_)
  refine Qy ?_
  refine Zj (ι := Nat) (fun i => ⟨[(3, Q9 l), (4, .bool bar), (5, .ref 5 0 0), (12, .osl 24 (clT w u p bar (l.take i)).length), (13, .int .i64 i)], [(5, ⟨[[.sl ((w).map Yq)]], 1, 26, true⟩), (24, ⟨(clT w u p bar (l.take i)).map Qc3, 2, 56, true⟩)]⟩) (fun i => i <= l.length) (fun i => l.length - i) 0 ?_ ?_ ?_
  ·exact Q3 (l := [3, 4, 5, 12, 13]) (lH := [5, 24]) (kp5 rfl rfl rfl rfl rfl) (Qe rfl (Qe rfl Ql)) rfl rfl rfl
  ·exact Nat.zero_le _
  intro i hI
  have hlen := QlJ w u p bar (l.take i)
  have hlen2 : (l.take i).length <= l.length := List.length_take_le' ..
  try dsimp only
  refine QA ?_ -- 1
  refine Qf fun K hK => Qa rfl (Qa rfl (QQ rfl rfl (Z6 rfl rfl ?_)))
  refine hK _ _ (Qb (kp6 rfl rfl rfl rfl rfl rfl) ?_)
  refine Qw rfl (fun h1 => ?_) (fun h1 => ?_)
  ·try rw [h1]
   try simp only [qa, qb, qc, qd, qe, List.length_map] at h1
   refine Qv (Qd (kp5 rfl rfl rfl rfl rfl) ?_)
   refine QA ?_ -- 2
   refine Qy (Qf fun K hK => QN (ds0 := [1, 0]) (cs := [_]) rfl rfl rfl rfl rfl rfl (Qa rfl (Qa rfl (QJ rfl rfl rfl (by omega) (QR (by omega)) rfl (QN (ds0 := [1, 0]) (cs := [_, _, _]) rfl rfl rfl rfl rfl rfl (QW (ds0 := [0]) (QcX hw (hx _ (List.getElem_mem (by omega)))) rfl rfl (.inr rfl) rfl rfl (Qa rfl ?_)))))))
   refine hK _ _ (Qb (kp6 rfl rfl rfl rfl rfl rfl) ?_)
   refine QA ?_ -- 3
   refine Qf fun K hK => Qa rfl (Yd rfl ?_)
   refine hK _ _ (Qb (kp7 rfl rfl rfl rfl rfl rfl rfl) ?_)
   refine Qw rfl (fun h2 => ?_) (fun h2 => ?_)
   ·try rw [h2]
    try simp only [qa, qb, qc, qd, qe, List.length_map] at h2
    refine QL fun K hK => QN (ds0 := [3, 1, 0]) (cs := [_]) rfl rfl rfl rfl rfl rfl (Qa rfl (Qa rfl (QJ rfl rfl rfl (by omega) (QR (by omega)) rfl (Q8 rfl rfl (QU (ds0 := [3, 1, 0]) rfl rfl rfl rfl rfl (QW (ds0 := [1, 0]) (Zz hw) rfl rfl (.inr rfl) rfl rfl (Qa rfl (QaE rfl rfl (QpE w _ _) (Qa rfl (hK _ ?_))))))))))
    refine Qd (kp6 rfl rfl rfl rfl rfl rfl) (QL fun K hK => Qa rfl (Qa rfl (Qa rfl (QJ rfl rfl rfl (by omega) (QR (by omega)) rfl (Q8 rfl rfl (QC rfl rfl rfl (Qa rfl (QV rfl rfl (QB rfl rfl (Xg rfl rfl (fun _ h => YU rfl rfl rfl h) rfl (by simp) rfl rfl rfl (by simp; omega) (by simp; omega) ?_))))))))))
    refine Qa rfl (hK _ ?_)
    refine Qg (Qd (kp5 rfl rfl rfl rfl rfl) (QL fun K hK => Qa rfl (Q1 rfl rfl (by first | exact Qp (by omega) (by omega) | rfl) (Qa rfl (hK _ ?_)))))
    refine Qi (i + 1) ?_ ?_ ?_
    ·exact Q3 (l := [3, 4, 5, 12, 13]) (lH := [5, 24]) (kp5 rfl rfl rfl rfl rfl) (Qe rfl (Qe rfl Ql)) (by first | (rw [Qa9 (by omega) h2]; done) | (rw [Qa9 (by omega) h2]; rfl) | (rw [Qa9 (by omega) h2, List.length_append]; rfl) | (simp [Qa9 (by omega) h2]; done) | (simp [Qa9 (by omega) h2]; omega) | rfl) (by first | (rw [Qa9 (by omega) h2]; done) | (rw [Qa9 (by omega) h2]; rfl) | (rw [Qa9 (by omega) h2, List.map_append]; rfl) | (simp [Qa9 (by omega) h2]; done) | rfl) rfl
    ·omega
    ·first | omega | (simp only; omega) | (dsimp only; omega)
   ·try rw [h2]
    try simp only [qa, qb, qc, qd, qe, List.length_map] at h2
    refine Qv (Qd (kp6 rfl rfl rfl rfl rfl rfl) (QL fun K hK => Qa rfl (Qa rfl (Qa rfl (QJ rfl rfl rfl (by omega) (QR (by omega)) rfl (Q8 rfl rfl (QC rfl rfl rfl (Qa rfl (QV rfl rfl (QB rfl rfl ?_))))))))))
    refine Xg rfl rfl (fun _ h => YU rfl rfl rfl h) rfl (by simp) rfl rfl rfl (by simp; omega) (by simp; omega) (Qa rfl (hK _ ?_))
    refine Qg (Qd (kp5 rfl rfl rfl rfl rfl) (QL fun K hK => Qa rfl (Q1 rfl rfl (by first | exact Qp (by omega) (by omega) | rfl) (Qa rfl (hK _ ?_)))))
    refine Qi (i + 1) ?_ ?_ ?_
    ·exact Q3 (l := [3, 4, 5, 12, 13]) (lH := [5, 24]) (kp5 rfl rfl rfl rfl rfl) (Qe rfl (Qe rfl Ql)) (by first | (rw [Qa8 (by omega) h2]; done) | (rw [Qa8 (by omega) h2]; rfl) | (rw [Qa8 (by omega) h2, List.length_append]; rfl) | (simp [Qa8 (by omega) h2]; done) | (simp [Qa8 (by omega) h2]; omega) | rfl) (by first | (rw [Qa8 (by omega) h2]; done) | (rw [Qa8 (by omega) h2]; rfl) | (rw [Qa8 (by omega) h2, List.map_append]; rfl) | (simp [Qa8 (by omega) h2]; done) | rfl) rfl
    ·omega
    ·first | omega | (simp only; omega) | (dsimp only; omega)
  ·try rw [h1]
   try simp only [qa, qb, qc, qd, qe, List.length_map] at h1
   refine Zg (QK (Qx (QD ?_)))
   refine ZY () ?_ ?_
   ·exact le_trans (QeH (l := [5]) (lH := [5]) 24 12 (kp1 rfl) (Qe rfl Ql) rfl rfl rfl (by first | (simp; done) | (simp; omega)) rfl rfl rfl rfl) (Q3 (l := [5, 12]) (lH := [5]) (kp2 rfl rfl) (Qe rfl Ql) (by rw [List.take_of_length_le (show l.length <= i by omega)]; rfl) rfl rfl)
   ·exact trivial
 intro _ hJ
 try dsimp only
 refine Qf fun K hK => QH (cs := [_]) rfl rfl rfl rfl (Qa rfl (QI (XP hw (by rw [QlJ]; omega)) rfl rfl (.inl rfl) (QO rfl rfl (QO rfl rfl (Qa rfl (Qa rfl ?_))))))
 refine hK _ _ (Qb (kp2 rfl rfl) ?_)
 refine Qu ?_
 exact QT rfl rfl ⟨rfl, rfl⟩
end Go.Proofs
namespace M25
open Go Go.Abs M3
def IncOk (w : Qq) (l : List TermT) : Prop := l.Pairwise (fun a b => a.u < b.u) /\ ∀ t ∈ l, 0 <= t.u /\ t.u < w.length
theorem QgW : ∀ (l : List TermT) (a b : Int), l.Pairwise (fun x y => x.u < y.u) -> (∀ t ∈ l, a <= t.u /\ t.u < b) -> a <= b -> (l.length : Int) <= b - a
 | [], a, b, _, _, h => by simp; omega
 | t :: l, a, b, hp, hb, h => by
  rw [List.pairwise_cons] at hp
  have h1 := hb t (by simp)
  have := QgW l (t.u + 1) b hp.2 (fun s hs => ⟨by have := hp.1 s hs; omega, (hb s (by simp [hs])).2⟩) (by omega)
  simp only [List.length_cons]; omega
theorem IncOk.len {w : Qq} {l : List TermT} (h : IncOk w l) : l.length <= w.length := by
 have := QgW l 0 w.length h.1 h.2 (by omega)
 omega
theorem IncOk.nil (w : Qq) : IncOk w [] := ⟨List.Pairwise.nil, by simp⟩
theorem QiJ (w : Qq) (ms : List Int) : ∀ n, (Xw w ms n).Pairwise (fun a b => a.u < b.u) /\ ∀ t ∈ Xw w ms n, 0 <= t.u /\ t.u < n
 | 0 => ⟨List.Pairwise.nil, by simp [Xw]⟩
 | n + 1 => by
  obtain ⟨h1, h2⟩ := QiJ w ms n
  rw [Xw]
  split
  ·rw [List.append_nil]; exact ⟨h1, fun t ht => by have := h2 t ht; omega⟩
  ·refine ⟨List.pairwise_append.2 ⟨h1, List.pairwise_singleton _ _, fun a ha b hb => ?_⟩, fun t ht => ?_⟩
   ·simp only [List.mem_singleton] at hb; subst hb; exact (h2 a ha).2
   ·rcases List.mem_append.1 ht with ht | ht
    ·have := h2 t ht; omega
    ·simp only [List.mem_singleton] at ht; subst ht; simp only; omega
theorem QdJ {w : Qq} {l t : List TermT} (h : QcV w l = some t) : IncOk w t := by
 unfold QcV at h
 split at h
 ·unfold QiE at h
  split at h
  ·cases h
   obtain ⟨h1, h2⟩ := QiJ w (Xv (QaY w) l) (Xv (QaY w) l).length
   refine ⟨h1, fun t ht => ?_⟩
   have := h2 t ht
   rw [Qfw] at this
   exact this
  ·cases h
 ·cases h
theorem IncOk.ne {w : Qq} {l : List TermT} (h : IncOk w l) : l.Pairwise (fun a b => a.u ≠ b.u) := h.1.imp fun h => by omega
theorem Qf9 {l : List TermT} (hl : l.Pairwise (fun a b => a.u ≠ b.u)) : ∀ n, (Ym l n).Pairwise (fun a b => a.u < b.u) /\ ∀ t ∈ Ym l n, t ∈ l /\ 0 <= t.u /\ t.u < n
 | 0 => ⟨List.Pairwise.nil, by simp [Ym]⟩
 | n + 1 => by
  obtain ⟨h1, h2⟩ := Qf9 hl n
  rw [Ym]
  have hf : ∀ t ∈ l.filter (fun t => decide (t.u = ((n : Nat) : Int))), t ∈ l /\ t.u = n := fun t ht => by
   simpa using List.mem_filter.1 ht
  refine ⟨List.pairwise_append.2 ⟨h1, ?_, fun a ha b hb => ?_⟩, fun t ht => ?_⟩
  ·refine List.Pairwise.imp_of_mem (fun {a b} ha hb hab => ?_) (hl.filter _)
   have := (hf a ha).2
   have := (hf b hb).2
   omega
  ·rw [(hf b hb).2]; exact (h2 a ha).2.2
  ·rcases List.mem_append.1 ht with ht | ht
   ·have := h2 t ht; exact ⟨this.1, by omega, by omega⟩
   ·have := hf t ht; exact ⟨this.1, by omega, by omega⟩
theorem Qlm {w : Qq} {l : List TermT} (hl : l.Pairwise (fun a b => a.u ≠ b.u)) (hb : ∀ t ∈ l, 0 <= t.u /\ t.u < w.length) : IncOk w (QhD l) := by
 obtain ⟨h1, h2⟩ := Qf9 hl 48
 exact ⟨h1, fun t ht => hb t (h2 t ht).1⟩
theorem QnK {w : Qq} {r x : RowT} (hx : IncOk w x.t) (h0 : 0 <= r.u) (h1 : r.u < w.length) : IncOk w (QnJ w r x).t := by
 refine Qlm (List.pairwise_cons.2 ⟨fun t ht => ?_, hx.ne.filter _⟩) fun t ht => ?_
 ·have := (List.mem_filter.1 ht).2
  simp only [Bool.not_eq_true', decide_eq_false_iff_not] at this
  exact fun e => this e.symm
 ·rcases List.mem_cons.1 ht with rfl | ht
  ·exact ⟨h0, h1⟩
  ·exact hx.2 t (List.mem_filter.1 ht).1
def QaQ (w : Qq) (rows : List RowT) : Prop := ∀ x ∈ rows, IncOk w x.t
theorem QjG {w : Qq} {r : RowT} (hr : IncOk w r.t) (h0 : 0 <= r.u) (h1 : r.u < w.length) : ∀ {rows : List RowT}, QaQ w rows -> QaQ w (Xf w r rows)
 | [], _ => fun x hx => by
  simp only [Xf, List.mem_singleton] at hx; subst hx; exact hr
 | y :: rows, h => fun x hx => by
  rw [Xf] at hx
  split at hx
  ·rcases List.mem_cons.1 hx with rfl | hx
   ·exact QnK (h y (by simp)) h0 h1
   ·exact h x (by simp [hx])
  ·rcases List.mem_cons.1 hx with rfl | hx
   ·exact h x (by simp)
   ·exact QjG hr h0 h1 (fun z hz => h z (by simp [hz])) x hx
theorem QhH (w : Qq) (r : RowT) : ∀ rows : List RowT, (Xf w r rows).length <= rows.length + 1
 | [] => by simp [Xf]
 | x :: rows => by
  have := QhH w r rows
  rw [Xf]; split <;> simp <;> omega
theorem Qjx {r x : RowT} (h : ¬ x.k = r.k \/ ¬ x.u = r.u \/ ¬ QgH x.t r.u = QgH r.t r.u) : Qjw r x = false := by
 simp only [Qjw, Bool.and_eq_false_iff, decide_eq_false_iff_not]
 rcases h with h | h | h
 ·exact .inl (.inl h)
 ·exact .inl (.inr h)
 ·exact .inr h
theorem Qmg {r x : RowT} (h1 : x.k = r.k) (h2 : x.u = r.u) (h3 : QgH x.t r.u = QgH r.t r.u) : Qjw r x = true := by simp [Qjw, h1, h2, h3]
theorem Qf0 {w : Qq} {r : RowT} {rows : List RowT} {i : Nat} (h : i < rows.length) (hn : Qjw r rows[i] = false) (hi : Xf w r rows = rows.take i ++ Xf w r (rows.drop i)) : Xf w r rows = rows.take (i + 1) ++ Xf w r (rows.drop (i + 1)) := by
 rw [hi, List.drop_eq_getElem_cons h, Xf, if_neg (by rw [hn]; simp), List.take_succ_eq_append_getElem h, List.append_assoc]; rfl
theorem QkF {w : Qq} {r : RowT} {rows : List RowT} {i : Nat} (h : i < rows.length) (hn : Qjw r rows[i] = true) (hi : Xf w r rows = rows.take i ++ Xf w r (rows.drop i)) : Xf w r rows = rows.set i (QnJ w r rows[i]) := by
 rw [hi, List.drop_eq_getElem_cons h, Xf, if_pos hn, List.set_eq_take_append_cons_drop, if_pos h]
theorem QkG {w : Qq} {r : RowT} {rows : List RowT} {i : Nat} (h : rows.length <= i) (hi : Xf w r rows = rows.take i ++ Xf w r (rows.drop i)) : Xf w r rows = rows ++ [r] := by
 rw [hi, List.drop_eq_nil_of_le h, List.take_of_length_le h, Xf]
theorem QkC {w : Qq} {u : Int} {p : Nat} {l : List (List WantT)} {rows : List RowT} {i : Nat} (h : i < l.length) : YN w u p (l.take (i + 1)) rows = match Yk w u p l[i] false with
  | some t => Xf w ⟨2, u, 0, 0, t⟩ (YN w u p (l.take i) rows)
  | none => YN w u p (l.take i) rows := by
 rw [List.take_succ_eq_append_getElem h, YN, List.foldl_append]; rfl
theorem QiL {w : Qq} {u : Int} {p : Nat} {l : List (List WantT)} {rows : List RowT} {i : Nat} (h : i < l.length) (ho : (Yk w u p l[i] false).isSome = true) : YN w u p (l.take (i + 1)) rows = Xf w ⟨2, u, 0, 0, (Yk w u p l[i] false).getD []⟩ (YN w u p (l.take i) rows) := by
 rw [QkC h]
 cases hc : Yk w u p l[i] false with
 | none => rw [hc] at ho; cases ho
 | some t => rfl
theorem QkB {w : Qq} {u : Int} {p : Nat} {l : List (List WantT)} {rows : List RowT} {i : Nat} (h : i < l.length) (ho : (Yk w u p l[i] false).isSome = false) : YN w u p (l.take (i + 1)) rows = YN w u p (l.take i) rows := by
 rw [QkC h]
 cases hc : Yk w u p l[i] false with
 | none => rfl
 | some t => rw [hc] at ho; cases ho
theorem QlG {w : Qq} {u : Int} {p : Nat} {l : List WantT} {rows : List RowT} {i : Nat} (h : i < l.length) : QbC w u p (l.take (i + 1)) rows = match Yk w u p [l[i]] true with
  | some t => Xf w ⟨3, u, 0, 0, t⟩ (QbC w u p (l.take i) rows)
  | none => QbC w u p (l.take i) rows := by
 rw [List.take_succ_eq_append_getElem h, QbC, List.foldl_append]; rfl
theorem Qj2 {w : Qq} {u : Int} {p : Nat} {l : List WantT} {rows : List RowT} {i : Nat} (h : i < l.length) (ho : (Yk w u p [l[i]] true).isSome = true) : QbC w u p (l.take (i + 1)) rows = Xf w ⟨3, u, 0, 0, (Yk w u p [l[i]] true).getD []⟩ (QbC w u p (l.take i) rows) := by
 rw [QlG h]
 cases hc : Yk w u p [l[i]] true with
 | none => rw [hc] at ho; cases ho
 | some t => rfl
theorem QlF {w : Qq} {u : Int} {p : Nat} {l : List WantT} {rows : List RowT} {i : Nat} (h : i < l.length) (ho : (Yk w u p [l[i]] true).isSome = false) : QbC w u p (l.take (i + 1)) rows = QbC w u p (l.take i) rows := by
 rw [QlG h]
 cases hc : Yk w u p [l[i]] true with
 | none => rfl
 | some t => rw [hc] at ho; cases ho
theorem QlY {w : Qq} {u : Int} {p : Nat} {l : List WantT} {b : Bool} : IncOk w ((Yk w u p l b).getD []) := by
 cases hc : Yk w u p l b with
 | none => exact IncOk.nil w
 | some t => exact QdJ hc
theorem QdP {w : Qq} {u : Int} {p : Nat} (h0 : 0 <= u) (h1 : u < w.length) : ∀ {l : List (List WantT)} {rows : List RowT}, QaQ w rows -> QaQ w (YN w u p l rows) /\ (YN w u p l rows).length <= rows.length + l.length
 | [], rows, h => ⟨h, Nat.le_refl _⟩
 | x :: l, rows, h => by
  rw [YN, List.foldl_cons]
  cases hc : Yk w u p x false with
  | none =>
   obtain ⟨q1, q2⟩ := QdP h0 h1 (l := l) h
   exact ⟨q1, Nat.le_trans q2 (by simp)⟩
  | some t =>
   obtain ⟨q1, q2⟩ := QdP (p := p) h0 h1 (l := l) (QjG (r := ⟨2, u, 0, 0, t⟩) (QdJ hc) h0 h1 h)
   have := QhH w ⟨2, u, 0, 0, t⟩ rows
   exact ⟨q1, Nat.le_trans q2 (by simp only [List.length_cons]; omega)⟩
theorem QeX {w : Qq} {u : Int} {p : Nat} (h0 : 0 <= u) (h1 : u < w.length) : ∀ {l : List WantT} {rows : List RowT}, QaQ w rows -> QaQ w (QbC w u p l rows) /\ (QbC w u p l rows).length <= rows.length + l.length
 | [], rows, h => ⟨h, Nat.le_refl _⟩
 | x :: l, rows, h => by
  rw [QbC, List.foldl_cons]
  cases hc : Yk w u p [x] true with
  | none =>
   obtain ⟨q1, q2⟩ := QeX h0 h1 (l := l) h
   exact ⟨q1, Nat.le_trans q2 (by simp)⟩
  | some t =>
   obtain ⟨q1, q2⟩ := QeX (p := p) h0 h1 (l := l) (QjG (r := ⟨3, u, 0, 0, t⟩) (QdJ hc) h0 h1 h)
   have := QhH w ⟨3, u, 0, 0, t⟩ rows
   exact ⟨q1, Nat.le_trans q2 (by simp only [List.length_cons]; omega)⟩
theorem Qhb {w : Qq} {u : Int} {cs : List CandT} {n : Nat} {rows : List RowT} (h : n < cs.length) : YF w u cs (n + 1) rows = QbC w u n cs[n].bs (YN w u n cs[n].ns (YF w u cs n rows)) := by
 rw [YF, List.getElem?_eq_getElem h]
theorem Qfn {w : Qq} {u : Int} {cs : List CandT} (h0 : 0 <= u) (h1 : u < w.length) (hc : ∀ c ∈ cs, c.ns.length <= 1000 /\ c.bs.length <= 1000) {rows : List RowT} (h : QaQ w rows) : ∀ n, n <= cs.length -> QaQ w (YF w u cs n rows) /\ (YF w u cs n rows).length <= rows.length + n * 2000
 | 0, _ => ⟨h, by simp [YF]⟩
 | n + 1, hn => by
  obtain ⟨q1, q2⟩ := Qfn h0 h1 hc h n (by omega)
  rw [Qhb (by omega)]
  obtain ⟨q3, q4⟩ := QdP (p := n) h0 h1 (l := cs[n].ns) q1
  obtain ⟨q5, q6⟩ := QeX (p := n) h0 h1 (l := cs[n].bs) q3
  have := hc cs[n] (List.getElem_mem _)
  exact ⟨q5, by omega⟩
theorem QjL {w : Qq} {n : Nat} (h : n < w.length) : Yr w (n + 1) = YF w n w[n].cs w[n].cs.length (Yr w n) := by
 rw [Yr, List.getElem?_eq_getElem h]
theorem Qcf {w : Qq} (hw : WSm w) (h0 : 0 < w.length) : ∀ n, n <= w.length -> QaQ w (Yr w n) /\ (Yr w n).length <= 1 + n * 32000
 | 0, _ => ⟨fun x hx => by
   simp only [Yr, List.mem_singleton] at hx; subst hx
   exact ⟨List.pairwise_singleton _ _, fun t ht => by simp only [List.mem_singleton] at ht; subst ht; exact ⟨Int.le_refl _, by simp only; omega⟩⟩, by simp [Yr]⟩
 | n + 1, hn => by
  obtain ⟨q1, q2⟩ := Qcf hw h0 n (by omega)
  rw [QjL (by omega)]
  obtain ⟨q3, q4⟩ := Qfn (u := n) (by omega) (by omega) (fun c hc => hw.ns w[n] (List.getElem_mem _) c hc) q1 w[n].cs.length (Nat.le_refl _)
  have := hw.cs w[n] (List.getElem_mem _)
  refine ⟨q3, ?_⟩
  have h5 : w[n].cs.length * 2000 <= 16 * 2000 := Nat.mul_le_mul_right _ this
  omega
theorem Qmj {w : Qq} (hw : WSm w) (h0 : 0 < w.length) : ∀ t ∈ mDB w, IncOk w t := fun t ht => by
 obtain ⟨r, hr, rfl⟩ := List.mem_map.1 ht
 exact (Qcf hw h0 w.length (Nat.le_refl _)).1 r hr
theorem Qhx {w : Qq} (hw : WSm w) (h0 : 0 < w.length) : (mDB w).length <= 1600000 := by
 have := (Qcf hw h0 w.length (Nat.le_refl _)).2
 have := hw.len
 rw [mDB, List.length_map, Qb5]; omega
theorem Qqe {l : List TermT} : ∀ r ∈ l.map Qc3, r.length = 2 := fun r hr => by obtain ⟨x, _, rfl⟩ := List.mem_map.1 hr; rfl
theorem QqR {l : List WantT} : ∀ r ∈ l.map QeP, r.length = 3 := fun r hr => by obtain ⟨x, _, rfl⟩ := List.mem_map.1 hr; rfl
theorem QjK {l : List StepT} : ∀ r ∈ l.map Qfp, r.length = 4 := fun r hr => by obtain ⟨x, _, rfl⟩ := List.mem_map.1 hr; rfl
theorem QmZ {α : Type} {f : α -> List D} {l : List α} {i : Nat} (h : i < l.length) : ((l.map f).take ((i : Int) + 1).toNat).drop ((i : Nat) : Int).toNat = [l[i]].map f := by
 rw [Qnb, Int.toNat_natCast, List.drop_take, show i + 1 - i = 1 by omega, List.drop_eq_getElem_cons (by simpa using h)]
 simp
theorem WSm.nsLen {w : Qq} (hw : WSm w) {u i : Nat} (hu : u < w.length) (hi : i < w[u].cs.length) : w[u].cs[i].ns.length <= 1000 := (hw.ns _ (List.getElem_mem _) _ (List.getElem_mem _)).1
theorem WSm.bsLen {w : Qq} (hw : WSm w) {u i : Nat} (hu : u < w.length) (hi : i < w[u].cs.length) : w[u].cs[i].bs.length <= 1000 := (hw.ns _ (List.getElem_mem _) _ (List.getElem_mem _)).2
theorem WSm.csLen {w : Qq} (hw : WSm w) {u : Nat} (hu : u < w.length) : w[u].cs.length <= 16 := hw.cs _ (List.getElem_mem _)
theorem Qpl {w : Qq} (hw : WSm w) {u i : Nat} (hu : u < w.length) (hi : i <= w[u].cs.length) : QaQ w (YF w u w[u].cs i (Yr w u)) /\ (YF w u w[u].cs i (Yr w u)).length <= 10000000 := by
 obtain ⟨q1, q2⟩ := Qcf hw (by omega) u (by omega)
 obtain ⟨q3, q4⟩ := Qfn (u := u) (by omega) (by omega) (fun c hc => hw.ns w[u] (List.getElem_mem _) c hc) q1 i hi
 have := hw.csLen hu
 have := hw.len
 have h5 : i * 2000 <= 16 * 2000 := Nat.mul_le_mul_right _ (by omega)
 have h6 : u * 32000 <= 48 * 32000 := Nat.mul_le_mul_right _ (by omega)
 exact ⟨q3, by omega⟩
theorem Qhw {w : Qq} (hw : WSm w) {u i : Nat} (hu : u < w.length) (hi : i < w[u].cs.length) (k : Nat) : QaQ w (YN w u i (w[u].cs[i].ns.take k) (YF w u w[u].cs i (Yr w u))) /\ (YN w u i (w[u].cs[i].ns.take k) (YF w u w[u].cs i (Yr w u))).length <= 20000000 := by
 obtain ⟨q1, q2⟩ := Qpl hw hu (Nat.le_of_lt hi)
 obtain ⟨q3, q4⟩ := QdP (u := u) (p := i) (by omega) (by omega) (l := w[u].cs[i].ns.take k) q1
 have := hw.nsLen hu hi
 have h2 : (w[u].cs[i].ns.take k).length <= w[u].cs[i].ns.length := List.length_take_le' ..
 exact ⟨q3, by omega⟩
theorem Qkr {w : Qq} (hw : WSm w) {u i : Nat} (hu : u < w.length) (hi : i < w[u].cs.length) (k : Nat) : QaQ w (QbC w u i (w[u].cs[i].bs.take k) (YN w u i w[u].cs[i].ns (YF w u w[u].cs i (Yr w u)))) /\ (QbC w u i (w[u].cs[i].bs.take k) (YN w u i w[u].cs[i].ns (YF w u w[u].cs i (Yr w u)))).length <= 30000000 := by
 obtain ⟨q1, q2⟩ := Qhw hw hu hi w[u].cs[i].ns.length
 rw [List.take_length] at q1 q2
 obtain ⟨q3, q4⟩ := QeX (u := u) (p := i) (by omega) (by omega) (l := w[u].cs[i].bs.take k) q1
 have := hw.bsLen hu hi
 have h2 : (w[u].cs[i].bs.take k).length <= w[u].cs[i].bs.length := List.length_take_le' ..
 exact ⟨q3, by omega⟩
end M25
namespace Go.Proofs
open Go Go.Abs M3 M25
set_option linter.unusedVariables false
set_option linter.unusedSimpArgs false
theorem Qab {w : Qq} (hw : WSm w) {r : RowT} {rows : List RowT} (hr : QaQ w rows) (hrr : IncOk w r.t) (hl : rows.length <= 100000000) : OkH Tryz.prog 72 [Z2 w, .osl 500000 rows.length, .agg (QlL r)] [(500000, ⟨(rows).map QlL, 5, 95, true⟩)] (.osl 500000 (Xf w r rows).length) [(500000, ⟨(Xf w r rows).map QlL, 5, 95, true⟩)] := by
 refine OkH.mv ZT Tryz.func72 Qsh (Nat.le_of_ble_eq_true rfl) rfl ?_
 show TW _ _ tf72.body _ _
 have hn := hw.len
 refine Qf fun K hK => Zw rfl rfl rfl (Zw rfl rfl rfl (Qa rfl ?_))
 refine hK _ _ (Qb (kp3 rfl rfl rfl) ?_)
 refine QA ?_ -- 0
 refine Qf fun K hK => Qa rfl ?_
 refine hK _ _ (Qb (kp4 rfl rfl rfl rfl) ?_)
 refine Qy ?_
 refine Zj (ι := Nat) (fun i => ⟨[(1, .osl 500000 rows.length), (3, .ref 3 0 0), (5, .ref 5 0 0), (7, .int .i64 i)], [(3, ⟨[[.sl ((w).map Yq)]], 1, 26, true⟩), (5, ⟨[[.int .i64 (r).k, .int .i64 (r).u, .int .i64 (r).a, .int .i64 (r).b, Zt (r).t]], 5, 95, true⟩), (500000, ⟨(rows).map QlL, 5, 95, true⟩)]⟩) (fun i => i <= rows.length /\ Xf w r rows = rows.take i ++ Xf w r (rows.drop i)) (fun i => rows.length - i) 0 ?_ ?_ ?_
 ·exact Q3 (l := [1, 3, 5, 7]) (lH := [3, 5, 500000]) (kp4 rfl rfl rfl rfl) (Qe rfl (Qe rfl (Qe rfl Ql))) rfl rfl rfl
 ·exact ⟨Nat.zero_le _, by simp⟩
 intro i hI
 try dsimp only
 refine QA ?_ -- 1
 refine Qf fun K hK => Qa rfl (Qa rfl (QQ rfl rfl (Z6 rfl rfl ?_)))
 refine hK _ _ (Qb (kp5 rfl rfl rfl rfl rfl) ?_)
 refine Qw rfl (fun h1 => ?_) (fun h1 => ?_)
 ·try rw [h1]
  try simp only [qa, qb, qc, qd, qe, List.length_map] at h1
  refine Qv (Qd (kp4 rfl rfl rfl rfl) ?_)
  refine QA ?_ -- 2
  refine Qy (Qf fun K hK => Qa rfl (Qa rfl (Xh rfl rfl rfl (by simp) (by omega) (by omega) rfl (QH (cs := [_, _, _, _, _]) rfl (Z7 rfl (QR (by omega))) rfl rfl (ZF rfl (Q6 rfl rfl rfl rfl rfl rfl rfl rfl ?_))))))
  refine hK _ _ (Qb (kp5 rfl rfl rfl rfl rfl) ?_)
  refine Qf fun K hK => Qh rfl rfl (QU (ds0 := [20, 19, 18, 17, 16, 15, 14, 13, 12, 11, 10, 9, 8, 7, 6, 5, 4, 3, 2, 1, 0]) rfl rfl rfl rfl rfl (Qh rfl rfl (QU (ds0 := [20, 19, 18, 17, 16, 15, 14, 13, 12, 11, 10, 9, 8, 7, 6, 5, 4, 3, 2, 1, 0]) rfl rfl rfl rfl rfl ?_)))
  first | refine ZK rfl rfl ?_ | refine Qg5 rfl rfl ?_
  refine Qa rfl ?_
  refine QE (g := 25) rfl (fun h2 => ?_) (fun h2 => ?_)
  ·try rw [h2]
   try simp only [qa, qb, qc, qd, qe, List.length_map] at h2
   refine Qk rfl (Qh rfl rfl (Qk rfl (QU (ds0 := [14, 13, 12, 11, 10, 9, 8, 7, 6, 5, 4, 3, 2, 1, 0]) rfl rfl rfl rfl rfl (Qk rfl (Qh rfl rfl (Qk rfl (QU (ds0 := [14, 13, 12, 11, 10, 9, 8, 7, 6, 5, 4, 3, 2, 1, 0]) rfl rfl rfl rfl rfl (Qk rfl ?_))))))))
   first | refine ZK rfl rfl ?_ | refine Qg5 rfl rfl ?_
   refine Qo rfl rfl (Qa rfl ?_)
   refine QE (g := 32) rfl (fun h3 => ?_) (fun h3 => ?_)
   ·try rw [h3]
    try simp only [qa, qb, qc, qd, qe, List.length_map] at h3
    refine Qk rfl (Qh rfl rfl (Qk rfl (QU (ds0 := [7, 1, 0]) rfl rfl rfl rfl rfl (Qk rfl (Qh rfl rfl (Qk rfl (QU (ds0 := [7, 1, 0]) rfl rfl rfl rfl rfl (Qk rfl (QW (ds0 := [1, 0]) (Y7 (Nat.le_trans (hr _ (List.getElem_mem (by omega))).len (by omega))) rfl rfl (.inl rfl) rfl rfl (Qk rfl (Qh rfl rfl ?_)))))))))))
    refine Qk rfl (QU (ds0 := [2, 1, 0]) rfl rfl rfl rfl rfl (Qk rfl (Qh rfl rfl (Qk rfl (QU (ds0 := [2, 1, 0]) rfl rfl rfl rfl rfl (Qk rfl (QW (ds0 := [1, 0]) (Y7 (Nat.le_trans hrr.len (by omega))) rfl rfl (.inl rfl) rfl rfl (Qk rfl (QW (ds0 := [0]) (XQ (Nat.le_trans (Qfk _ _) (Nat.le_trans (hr _ (List.getElem_mem (by omega))).len (by omega)))) rfl rfl (.inr rfl) rfl rfl (Qo rfl rfl ?_))))))))))
    refine hK _ _ (Qb (kp6 rfl rfl rfl rfl rfl rfl) ?_)
    refine Qw rfl (fun h4 => ?_) (fun h4 => ?_)
    ·try rw [h4]
     try simp only [qa, qb, qc, qd, qe, List.length_map] at h4
     refine Qf fun K hK => Qh rfl rfl (QU (ds0 := [8, 7, 1, 0]) rfl rfl rfl rfl rfl (QN (ds0 := [16, 9, 8, 7, 1, 0]) (cs := [_]) rfl rfl rfl rfl rfl rfl (Qh rfl rfl (QU (ds0 := [16, 9, 8, 7, 1, 0]) rfl rfl rfl rfl rfl (Qh rfl rfl (QU (ds0 := [16, 9, 8, 7, 1, 0]) rfl rfl rfl rfl rfl (QW (ds0 := [9, 8, 7, 1, 0]) (YW hw (Nat.le_trans (hr _ (List.getElem_mem (by omega))).len (by omega))) rfl rfl (.inr rfl) rfl rfl (QN (ds0 := [10, 9, 8, 7, 1, 0]) (cs := [_]) rfl rfl rfl rfl rfl rfl (Qh rfl rfl (QU (ds0 := [10, 9, 8, 7, 1, 0]) rfl rfl rfl rfl rfl ?_))))))))))
     refine Qh rfl rfl (QU (ds0 := [10, 9, 8, 7, 1, 0]) rfl rfl rfl rfl rfl (QW (ds0 := [9, 8, 7, 1, 0]) (YW hw (Nat.le_trans hrr.len (by omega))) rfl rfl (.inr rfl) rfl rfl (Qrm rfl rfl (QV rfl rfl (QB rfl rfl (Qh rfl rfl (QU (ds0 := [2, 1, 0]) rfl rfl rfl rfl rfl (Qh rfl rfl (QU (ds0 := [2, 1, 0]) rfl rfl rfl rfl rfl (QW (ds0 := [1, 0]) (Y7 (Nat.le_trans (hr _ (List.getElem_mem (by omega))).len (by omega))) rfl rfl (.inl rfl) rfl rfl (Qa3 (ds0 := [0]) rfl rfl (by simp [D.ids, D.sid, Zt]) ⟨rfl, Qqe, rfl⟩ rfl rfl (by simp) rfl rfl (by have q1 := Qfk (rows[i]'(by omega)).t r.u; have q2 := (hr _ (List.getElem_mem (show i < rows.length by omega))).len; simp; omega) (by have q1 := Qfk (rows[i]'(by omega)).t r.u; have q2 := (hr _ (List.getElem_mem (show i < rows.length by omega))).len; simp; omega) rfl rfl ?_)))))))))))
     refine Qa rfl ?_
     refine hK _ _ (Qb (kp3 rfl rfl rfl) ?_)
     refine Qnm (QeH (l := [1, 7]) (lH := [500000]) 67 9 (kp2 rfl rfl) (Qe rfl Ql) rfl rfl rfl (by first | (simp; done) | (simp; omega)) rfl rfl rfl rfl) (Qf fun K hK => Qa rfl (Qa rfl (Qa rfl (QI (QbE (l := ⟨r.u, bor (Qc7 w (rows[i]'(by omega)).t r.u) (Qc7 w r.t r.u)⟩ :: QgH (rows[i]'(by omega)).t r.u) (by have q1 := Qfk (rows[i]'(by omega)).t r.u; have q2 := (hr _ (List.getElem_mem (show i < rows.length by omega))).len; simp; omega)) rfl rfl (.inl rfl) (Xh rfl rfl rfl (by simp) (by omega) (by omega) rfl (Qh rfl rfl (Q6 rfl rfl (QR (by omega)) rfl rfl rfl rfl rfl ?_)))))))
     refine hK _ _ (Qb (kp1 rfl) ?_)
     refine Qf fun K hK => Qa rfl (Qa rfl ?_)
     refine hK _ _ (Qb (kp1 rfl) ?_)
     refine Qu (Qr (Qj (Q0 (Qr (Qj ?_)))))
     refine Yx rfl ?_ (Qch ?_)
     ·rw [QkF (i := i) (by omega) (Qmg h2 h3 h4) hI.2]; simp [Qlu, D.fz, D.fzS, Qf7, D.can, D.canS]
     ·rw [QkF (i := i) (by omega) (Qmg h2 h3 h4) hI.2]; simp [lk, List.map_set, QlL, QnJ, setRow, D.sid, Zt]
    ·try rw [h4]
     try simp only [qa, qb, qc, qd, qe, List.length_map] at h4
     refine Qv (Qg (Qd (kp4 rfl rfl rfl rfl) (QL fun K hK => Qa rfl (Q1 rfl rfl (by first | exact Qp (by omega) (by omega) | rfl) (Qa rfl (hK _ ?_))))))
     refine Qi (i + 1) ?_ ?_ ?_
     ·exact Q3 (l := [1, 3, 5, 7]) (lH := [3, 5, 500000]) (kp4 rfl rfl rfl rfl) (Qe rfl (Qe rfl (Qe rfl Ql))) rfl rfl rfl
     ·exact ⟨by omega, Qf0 (by omega) (Qjx (by first | exact .inl h2 | exact .inr (.inl h3) | exact .inr (.inr h4))) hI.2⟩
     ·first | omega | (simp only; omega) | (dsimp only; omega)
   ·try rw [h3]
    try simp only [qa, qb, qc, qd, qe, List.length_map] at h3
    refine Qt rfl (Qt rfl (Qt rfl (Qt rfl (Qt rfl (Qt rfl (Qt rfl (Qt rfl (Qt rfl (Qt rfl (Qt rfl (Qo rfl rfl ?_)))))))))))
    refine hK _ _ (Qb (kp6 rfl rfl rfl rfl rfl rfl) ?_)
    refine ZI rfl (Qv (Qg (Qd (kp4 rfl rfl rfl rfl) (QL fun K hK => Qa rfl (Q1 rfl rfl (by first | exact Qp (by omega) (by omega) | rfl) (Qa rfl (hK _ ?_)))))))
    refine Qi (i + 1) ?_ ?_ ?_
    ·exact Q3 (l := [1, 3, 5, 7]) (lH := [3, 5, 500000]) (kp4 rfl rfl rfl rfl) (Qe rfl (Qe rfl (Qe rfl Ql))) rfl rfl rfl
    ·exact ⟨by omega, Qf0 (by omega) (Qjx (by first | exact .inl h2 | exact .inr (.inl h3) | exact .inr (.inr h4))) hI.2⟩
    ·first | omega | (simp only; omega) | (dsimp only; omega)
  ·try rw [h2]
   try simp only [qa, qb, qc, qd, qe, List.length_map] at h2
   refine Qt rfl (Qt rfl (Qt rfl (Qt rfl (Qt rfl (Qo rfl rfl (Qa rfl (Qt rfl (Qt rfl (Qt rfl (Qt rfl (Qt rfl ?_)))))))))))
   refine Qt rfl (Qt rfl (Qt rfl (Qt rfl (Qt rfl (Qt rfl (Qo rfl rfl ?_))))))
   refine hK _ _ (Qb (kp6 rfl rfl rfl rfl rfl rfl) ?_)
   refine ZI rfl (Qv (Qg (Qd (kp4 rfl rfl rfl rfl) (QL fun K hK => Qa rfl (Q1 rfl rfl (by first | exact Qp (by omega) (by omega) | rfl) (Qa rfl (hK _ ?_)))))))
   refine Qi (i + 1) ?_ ?_ ?_
   ·exact Q3 (l := [1, 3, 5, 7]) (lH := [3, 5, 500000]) (kp4 rfl rfl rfl rfl) (Qe rfl (Qe rfl (Qe rfl Ql))) rfl rfl rfl
   ·exact ⟨by omega, Qf0 (by omega) (Qjx (by first | exact .inl h2 | exact .inr (.inl h3) | exact .inr (.inr h4))) hI.2⟩
   ·first | omega | (simp only; omega) | (dsimp only; omega)
 ·try rw [h1]
  try simp only [qa, qb, qc, qd, qe, List.length_map] at h1
  refine Zg (QK (Qx (QD (Qd (kp2 rfl rfl) (Qf fun K hK => Qa rfl (QH (cs := [_, _, _, _, _]) rfl rfl rfl rfl (QB rfl rfl (Xg rfl rfl (fun _ h => YU rfl rfl rfl h) rfl (by simp) rfl rfl rfl (by simp; omega) (by simp; omega) (Qa rfl ?_)))))))))
  refine hK _ _ (Qb (kp1 rfl) ?_)
  refine Qu ?_
  refine Yx rfl ?_ (Qch ?_)
  ·rw [QkG (i := i) (by omega) hI.2]; simp [Qlu, D.fz, D.fzS, Qf7, D.can, D.canS]
  ·rw [QkG (i := i) (by omega) hI.2]; simp [lk, QlL, D.sid, Zt]
theorem Qaa {w : Qq} (hw : WSm w) : Ok Tryz.prog 51 [Z2 w] (Qpc (Qb5 w)) := by
 refine Ok.ofT ZT Tryz.func51 QrX (Nat.le_of_ble_eq_true rfl) ?_
 show TW _ _ tf51.body _ _
 have hn := hw.len
 refine Qf fun K hK => Zw rfl rfl rfl (Qa rfl ?_)
 refine hK _ _ (Qb (kp1 rfl) ?_)
 refine Qf fun K hK => QV rfl rfl (QB rfl rfl (QV rfl rfl (QB rfl rfl (Qa rfl ?_))))
 refine hK _ _ (Qb (kp2 rfl rfl) ?_)
 refine QA ?_ -- 0
 refine Qf fun K hK => Qa rfl ?_
 refine hK _ _ (Qb (kp3 rfl rfl rfl) ?_)
 refine Qy ?_
 refine Zj (ι := Nat) (fun j => ⟨[(1, .ref 1 0 0), (3, .osl 3 (Yr w j).length), (4, .int .i64 j)], [(1, ⟨[[.sl ((w).map Yq)]], 1, 26, true⟩), (3, ⟨(Yr w j).map QlL, 5, 95, true⟩)]⟩) (fun j => j <= w.length) (fun j => w.length - j) 0 ?_ ?_ ?_
 ·exact le_trans (Qix 14 _ (by decide)) (le_trans (QfG (k := 16) (b := ⟨[[.int .i64 1, .int .i64 0, .int .i64 0, .int .i64 0, .sl [[.int .i64 0, .int .i64 1]]]], 5, 95, false⟩) rfl (by simp) (by simp [D.sid])) (le_trans (QfF (l := [1, 4]) (lH := [1]) 16 3 3 (kp2 rfl rfl) (Qe rfl Ql) rfl rfl rfl rfl rfl rfl rfl) (Q3 (l := [1, 3, 4]) (lH := [1, 3]) (kp3 rfl rfl rfl) (Qe rfl (Qe rfl Ql)) rfl rfl rfl)))
 ·exact Nat.zero_le _
 intro j hU
 try dsimp only
 refine QA ?_ -- 1
 refine Qf fun K hK => Qa rfl (Qh rfl rfl (QC rfl rfl rfl (QQ rfl rfl (Z6 rfl rfl ?_))))
 refine hK _ _ (Qb (kp4 rfl rfl rfl rfl) ?_)
 refine Qw rfl (fun h1 => ?_) (fun h1 => ?_)
 ·try rw [h1]
  try simp only [qa, qb, qc, qd, qe, List.length_map] at h1
  refine Qv (Qd (kp3 rfl rfl rfl) ?_)
  refine QA ?_ -- 2
  refine Qy (Qf fun K hK => Qa rfl ?_)
  refine hK _ _ (Qb (kp4 rfl rfl rfl rfl) ?_)
  refine Qy ?_
  refine Zj (ι := Nat) (fun i => ⟨[(1, .ref 1 0 0), (3, .osl 3 (YF w j (w[j]'(by omega)).cs i (Yr w j)).length), (4, .int .i64 j), (5, .int .i64 i)], [(1, ⟨[[.sl ((w).map Yq)]], 1, 26, true⟩), (3, ⟨(YF w j (w[j]'(by omega)).cs i (Yr w j)).map QlL, 5, 95, true⟩)]⟩) (fun i => i <= (w[j]'(by omega)).cs.length) (fun i => (w[j]'(by omega)).cs.length - i) 0 ?_ ?_ ?_
  ·exact Q3 (l := [1, 3, 4, 5]) (lH := [1, 3]) (kp4 rfl rfl rfl rfl) (Qe rfl (Qe rfl Ql)) rfl rfl rfl
  ·exact Nat.zero_le _
  intro i hI
  have hcs := hw.csLen (u := j) (by omega)
  try dsimp only
  refine QA ?_ -- 3
  refine Qf fun K hK => Qa rfl (Qh rfl rfl (QC rfl rfl rfl (Qa rfl (QJ rfl rfl rfl (by omega) (QR (by omega)) rfl (Q8 rfl rfl (QC rfl rfl rfl (QQ rfl rfl (Z6 rfl rfl ?_))))))))
  refine hK _ _ (Qb (kp5 rfl rfl rfl rfl rfl) ?_)
  refine Qw rfl (fun h2 => ?_) (fun h2 => ?_)
  ·try rw [h2]
   try simp only [qa, qb, qc, qd, qe, List.length_map] at h2
   refine Qv (Qd (kp4 rfl rfl rfl rfl) ?_)
   refine QA ?_ -- 4
   refine Qy (Qf fun K hK => Qh rfl rfl (QC rfl rfl rfl (Qa rfl (QJ rfl rfl rfl (by omega) (QR (by omega)) rfl (Q8 rfl rfl (QC rfl rfl rfl (Qa rfl (QJ rfl rfl rfl (by omega) (QR (by omega)) rfl (QH (cs := [_, _, _, _, _, _, _, _]) rfl rfl rfl rfl (ZF rfl ?_))))))))))
   refine Q6 rfl rfl rfl rfl rfl rfl rfl rfl ?_
   refine hK _ _ (Qb (kp5 rfl rfl rfl rfl rfl) ?_)
   refine QA ?_ -- 5
   refine Qf fun K hK => Qa rfl ?_
   refine hK _ _ (Qb (kp6 rfl rfl rfl rfl rfl rfl) ?_)
   refine Qy ?_
   refine Zj (ι := Nat) (fun k => ⟨[(1, .ref 1 0 0), (3, .osl 3 (YN w j i (((w[j]'(by omega)).cs[i]'(by omega)).ns.take k) (YF w j (w[j]'(by omega)).cs i (Yr w j))).length), (4, .int .i64 j), (5, .int .i64 i), (6, .ref 6 0 0), (7, .int .i64 k)], [(1, ⟨[[.sl ((w).map Yq)]], 1, 26, true⟩), (3, ⟨(YN w j i (((w[j]'(by omega)).cs[i]'(by omega)).ns.take k) (YF w j (w[j]'(by omega)).cs i (Yr w j))).map QlL, 5, 95, true⟩), (6, ⟨[Qpb ((w[j]'(by omega)).cs[i]'(by omega))], 8, 70, true⟩)]⟩) (fun k => k <= ((w[j]'(by omega)).cs[i]'(by omega)).ns.length) (fun k => ((w[j]'(by omega)).cs[i]'(by omega)).ns.length - k) 0 ?_ ?_ ?_
   ·exact Q3 (l := [1, 3, 4, 5, 6, 7]) (lH := [1, 3, 6]) (kp6 rfl rfl rfl rfl rfl rfl) (Qe rfl (Qe rfl (Qe rfl Ql))) rfl rfl rfl
   ·exact Nat.zero_le _
   intro k hK1
   have hnl := hw.nsLen (u := j) (i := i) (by omega) (by omega)
   try dsimp only
   refine QA ?_ -- 6
   refine Qf fun K hK => Qa rfl (Qh rfl rfl (QC rfl rfl rfl (QQ rfl rfl (Z6 rfl rfl ?_))))
   refine hK _ _ (Qb (kp7 rfl rfl rfl rfl rfl rfl rfl) ?_)
   refine Qw rfl (fun h3 => ?_) (fun h3 => ?_)
   ·try rw [h3]
    try simp only [qa, qb, qc, qd, qe, List.length_map] at h3
    refine Qv (Qd (kp6 rfl rfl rfl rfl rfl rfl) ?_)
    refine QA ?_ -- 7
    refine Qy (Qf fun K hK => QN (ds0 := [5, 4, 3, 2, 1, 0]) (cs := [_]) rfl rfl rfl rfl rfl rfl (Qa rfl (Qa rfl (Qh rfl rfl (QU (ds0 := [7, 6, 5, 4, 3, 2, 1, 0]) rfl rfl rfl rfl rfl (Qa rfl (QJ rfl rfl rfl (by omega) (QR (by omega)) rfl (QU (ds0 := [5, 4, 3, 2, 1, 0]) rfl rfl rfl rfl rfl (QW (ds0 := [4, 3, 2, 1, 0]) (Xr hw (p := i) (by omega) (Nat.le_trans (hw.nl _ (List.getElem_mem (by omega)) _ (List.getElem_mem (by omega)) _ (List.getElem_mem (by omega))) (by omega)) (hw.nw _ (List.getElem_mem (by omega)) _ (List.getElem_mem (by omega)) _ (List.getElem_mem (by omega)))) rfl rfl (.inl rfl) rfl rfl (Qa rfl ?_))))))))))
    refine QO rfl rfl (QO rfl rfl (Qa rfl (Qa rfl ?_)))
    refine hK _ _ (Qb (kp8 rfl rfl rfl rfl rfl rfl rfl rfl) ?_)
    refine Qf fun K hK => Qa rfl ?_
    refine hK _ _ (Qb (kp8 rfl rfl rfl rfl rfl rfl rfl rfl) ?_)
    refine Qw rfl (fun h4 => ?_) (fun h4 => ?_)
    ·try rw [h4]
     try simp only [qa, qb, qc, qd, qe, List.length_map] at h4
     refine QL fun K hK => QH (cs := [_]) rfl rfl rfl rfl (Qa rfl (Qa rfl (Qa rfl (QV rfl rfl (QlA (Qj6 (k := 3) rfl rfl rfl (by decide) rfl (by decide) (by simp [D.ids, D.sid, Zt]) ⟨.osl 3 (YN w j i (((w[j]'(by omega)).cs[i]'(by omega)).ns.take k) (YF w j (w[j]'(by omega)).cs i (Yr w j))).length, by simp, by simp [D.ids, D.sid]⟩ rfl rfl (Qab hw (r := ⟨2, j, 0, 0, (Yk w j i (((w[j]'(by omega)).cs[i]'(by omega)).ns[k]'(by omega)) false).getD []⟩) (Qhw hw (by omega) (by omega) _).1 QlY (Nat.le_trans (Qhw hw (by omega) (by omega) _).2 (by omega)))) (Qa rfl (hK _ ?_)))))))
     refine Qg (Qd (kp6 rfl rfl rfl rfl rfl rfl) (QL fun K hK => Qa rfl (Q1 rfl rfl (by first | exact Qp (by omega) (by omega) | rfl) (Qa rfl (hK _ ?_)))))
     refine Qi (k + 1) ?_ ?_ ?_
     ·exact le_trans (QfF (l := [1, 4, 5, 6, 7]) (lH := [1, 6]) 69 3 3 (kp5 rfl rfl rfl rfl rfl) (Qe rfl (Qe rfl Ql)) rfl rfl rfl rfl rfl rfl rfl) (Q3 (l := [1, 3, 4, 5, 6, 7]) (lH := [1, 3, 6]) (kp6 rfl rfl rfl rfl rfl rfl) (Qe rfl (Qe rfl (Qe rfl Ql))) (by rw [QiL (by omega) h4] <;> rfl) (by rw [QiL (by omega) h4] <;> rfl) rfl)
     ·omega
     ·first | omega | (simp only; omega) | (dsimp only; omega)
    ·try rw [h4]
     try simp only [qa, qb, qc, qd, qe, List.length_map] at h4
     refine Qv (Qg (Qd (kp6 rfl rfl rfl rfl rfl rfl) (QL fun K hK => Qa rfl (Q1 rfl rfl (by first | exact Qp (by omega) (by omega) | rfl) (Qa rfl (hK _ ?_))))))
     refine Qi (k + 1) ?_ ?_ ?_
     ·exact Q3 (l := [1, 3, 4, 5, 6, 7]) (lH := [1, 3, 6]) (kp6 rfl rfl rfl rfl rfl rfl) (Qe rfl (Qe rfl (Qe rfl Ql))) (by rw [QkB (by omega) h4] <;> rfl) (by rw [QkB (by omega) h4] <;> rfl) rfl
     ·omega
     ·first | omega | (simp only; omega) | (dsimp only; omega)
   ·try rw [h3]
    try simp only [qa, qb, qc, qd, qe, List.length_map] at h3
    refine Zg (QK (Qx (QD (Qd (kp5 rfl rfl rfl rfl rfl) (Qf fun K hK => Qa rfl ?_)))))
    refine hK _ _ (Qb (kp6 rfl rfl rfl rfl rfl rfl) ?_)
    refine Qy ?_
    refine Zj (ι := Nat) (fun m => ⟨[(1, .ref 1 0 0), (3, .osl 3 (QbC w j i (((w[j]'(by omega)).cs[i]'(by omega)).bs.take m) (YN w j i ((w[j]'(by omega)).cs[i]'(by omega)).ns (YF w j (w[j]'(by omega)).cs i (Yr w j)))).length), (4, .int .i64 j), (5, .int .i64 i), (6, .ref 6 0 0), (10, .int .i64 m)], [(1, ⟨[[.sl ((w).map Yq)]], 1, 26, true⟩), (3, ⟨(QbC w j i (((w[j]'(by omega)).cs[i]'(by omega)).bs.take m) (YN w j i ((w[j]'(by omega)).cs[i]'(by omega)).ns (YF w j (w[j]'(by omega)).cs i (Yr w j)))).map QlL, 5, 95, true⟩), (6, ⟨[Qpb ((w[j]'(by omega)).cs[i]'(by omega))], 8, 70, true⟩)]⟩) (fun m => m <= ((w[j]'(by omega)).cs[i]'(by omega)).bs.length) (fun m => ((w[j]'(by omega)).cs[i]'(by omega)).bs.length - m) 0 ?_ ?_ ?_
    ·exact Q3 (l := [1, 3, 4, 5, 6, 10]) (lH := [1, 3, 6]) (kp6 rfl rfl rfl rfl rfl rfl) (Qe rfl (Qe rfl (Qe rfl Ql))) (by rw [List.take_of_length_le (show ((w[j]'(by omega)).cs[i]'(by omega)).ns.length <= k by omega)] <;> rfl) (by rw [List.take_of_length_le (show ((w[j]'(by omega)).cs[i]'(by omega)).ns.length <= k by omega)] <;> rfl) rfl
    ·exact Nat.zero_le _
    intro m hM
    have hbl := hw.bsLen (u := j) (i := i) (by omega) (by omega)
    try dsimp only
    refine QA ?_ -- 8
    refine Qf fun K hK => Qa rfl (Qh rfl rfl (QC rfl rfl rfl (QQ rfl rfl (Z6 rfl rfl ?_))))
    refine hK _ _ (Qb (kp7 rfl rfl rfl rfl rfl rfl rfl) ?_)
    refine Qw rfl (fun h5 => ?_) (fun h5 => ?_)
    ·try rw [h5]
     try simp only [qa, qb, qc, qd, qe, List.length_map] at h5
     refine Qv (Qd (kp6 rfl rfl rfl rfl rfl rfl) ?_)
     refine QA ?_ -- 9
     refine Qy (Qf fun K hK => QN (ds0 := [5, 4, 3, 2, 1, 0]) (cs := [_]) rfl rfl rfl rfl rfl rfl (Qa rfl (Qa rfl (Qh rfl rfl (QU (ds0 := [6, 5, 4, 3, 2, 1, 0]) rfl rfl rfl rfl rfl (Qa rfl (Qa rfl (Q1 rfl rfl (by first | exact Qp (by omega) (by omega) | rfl) (Qd4 rfl rfl rfl rfl (by omega) (by omega) (by simp; omega) QqR (QmZ (by omega)) (QW (ds0 := [4, 3, 2, 1, 0]) (Xr hw (p := i) (l := [((w[j]'(by omega)).cs[i]'(by omega)).bs[m]'(by omega)]) (by omega) (by simp) (by intro x hx; simp only [List.mem_singleton] at hx; subst hx; exact hw.bw _ (List.getElem_mem (by omega)) _ (List.getElem_mem (by omega)) _ (List.getElem_mem (by omega)))) rfl rfl (.inl rfl) rfl rfl ?_))))))))))
     refine Qa rfl (QO rfl rfl (QO rfl rfl (Qa rfl (Qa rfl ?_))))
     refine hK _ _ (Qb (kp8 rfl rfl rfl rfl rfl rfl rfl rfl) ?_)
     refine Qf fun K hK => Qa rfl ?_
     refine hK _ _ (Qb (kp8 rfl rfl rfl rfl rfl rfl rfl rfl) ?_)
     refine Qw rfl (fun h6 => ?_) (fun h6 => ?_)
     ·try rw [h6]
      try simp only [qa, qb, qc, qd, qe, List.length_map] at h6
      refine QL fun K hK => QH (cs := [_]) rfl rfl rfl rfl (Qa rfl (Qa rfl (Qa rfl (QV rfl rfl (QlA (Qj6 (k := 3) rfl rfl rfl (by decide) rfl (by decide) (by simp [D.ids, D.sid, Zt]) ⟨.osl 3 (QbC w j i (((w[j]'(by omega)).cs[i]'(by omega)).bs.take m) (YN w j i ((w[j]'(by omega)).cs[i]'(by omega)).ns (YF w j (w[j]'(by omega)).cs i (Yr w j)))).length, by simp, by simp [D.ids, D.sid]⟩ rfl rfl (Qab hw (r := ⟨3, j, 0, 0, (Yk w j i [((w[j]'(by omega)).cs[i]'(by omega)).bs[m]'(by omega)] true).getD []⟩) (Qkr hw (by omega) (by omega) _).1 QlY (Nat.le_trans (Qkr hw (by omega) (by omega) _).2 (by omega)))) (Qa rfl (hK _ ?_)))))))
      refine Qg (Qd (kp6 rfl rfl rfl rfl rfl rfl) (QL fun K hK => Qa rfl (Q1 rfl rfl (by first | exact Qp (by omega) (by omega) | rfl) (Qa rfl (hK _ ?_)))))
      refine Qi (m + 1) ?_ ?_ ?_
      ·exact le_trans (QfF (l := [1, 4, 5, 6, 10]) (lH := [1, 6]) 96 3 3 (kp5 rfl rfl rfl rfl rfl) (Qe rfl (Qe rfl Ql)) rfl rfl rfl rfl rfl rfl rfl) (Q3 (l := [1, 3, 4, 5, 6, 10]) (lH := [1, 3, 6]) (kp6 rfl rfl rfl rfl rfl rfl) (Qe rfl (Qe rfl (Qe rfl Ql))) (by rw [Qj2 (by omega) h6] <;> rfl) (by rw [Qj2 (by omega) h6] <;> rfl) rfl)
      ·omega
      ·first | omega | (simp only; omega) | (dsimp only; omega)
     ·try rw [h6]
      try simp only [qa, qb, qc, qd, qe, List.length_map] at h6
      refine Qv (Qg (Qd (kp6 rfl rfl rfl rfl rfl rfl) (QL fun K hK => Qa rfl (Q1 rfl rfl (by first | exact Qp (by omega) (by omega) | rfl) (Qa rfl (hK _ ?_))))))
      refine Qi (m + 1) ?_ ?_ ?_
      ·exact Q3 (l := [1, 3, 4, 5, 6, 10]) (lH := [1, 3, 6]) (kp6 rfl rfl rfl rfl rfl rfl) (Qe rfl (Qe rfl (Qe rfl Ql))) (by rw [QlF (by omega) h6] <;> rfl) (by rw [QlF (by omega) h6] <;> rfl) rfl
      ·omega
      ·first | omega | (simp only; omega) | (dsimp only; omega)
    ·try rw [h5]
     try simp only [qa, qb, qc, qd, qe, List.length_map] at h5
     refine Zg (QK (Qx (QD (Qg (Qd (kp4 rfl rfl rfl rfl) (QL fun K hK => Qa rfl (Q1 rfl rfl (by first | exact Qp (by omega) (by omega) | rfl) (Qa rfl (hK _ ?_)))))))))
     refine Qi (i + 1) ?_ ?_ ?_
     ·exact Q3 (l := [1, 3, 4, 5]) (lH := [1, 3]) (kp4 rfl rfl rfl rfl) (Qe rfl (Qe rfl Ql)) (by rw [Qhb (by omega), List.take_of_length_le (show ((w[j]'(by omega)).cs[i]'(by omega)).bs.length <= m by omega)] <;> rfl) (by rw [Qhb (by omega), List.take_of_length_le (show ((w[j]'(by omega)).cs[i]'(by omega)).bs.length <= m by omega)] <;> rfl) rfl
     ·omega
     ·first | omega | (simp only; omega) | (dsimp only; omega)
  ·try rw [h2]
   try simp only [qa, qb, qc, qd, qe, List.length_map] at h2
   refine Zg (QK (Qx (QD (Qg (Qd (kp3 rfl rfl rfl) (QL fun K hK => Qa rfl (Q1 rfl rfl (by first | exact Qp (by omega) (by omega) | rfl) (Qa rfl (hK _ ?_)))))))))
   refine Qi (j + 1) ?_ ?_ ?_
   ·exact Q3 (l := [1, 3, 4]) (lH := [1, 3]) (kp3 rfl rfl rfl) (Qe rfl (Qe rfl Ql)) (by rw [QjL (by omega), show (w[j]'(by omega)).cs.length = i by omega] <;> rfl) (by rw [QjL (by omega), show (w[j]'(by omega)).cs.length = i by omega] <;> rfl) rfl
   ·omega
   ·first | omega | (simp only; omega) | (dsimp only; omega)
 ·try rw [h1]
  try simp only [qa, qb, qc, qd, qe, List.length_map] at h1
  refine Zg (QK (Qx (QD (Qd (kp1 rfl) (Qf fun K hK => Qa rfl (Qa rfl ?_))))))
  refine hK _ _ (Qb (kp1 rfl) ?_)
  refine Qu ?_
  exact X5 rfl rfl rfl (by simp) (by rw [Qb5, show w.length = j by omega] <;> rfl)
end Go.Proofs
namespace M25
open Go Go.Abs M3
/-! ### Bits of numbers -/
theorem QhU (e : Int) : IntKind.i64.wrap e = (BitVec.ofInt 64 e).toInt := by
 have hb : (BitVec.ofInt 64 e).toInt = if e % 18446744073709551616 < 9223372036854775808 then e % 18446744073709551616 else e % 18446744073709551616 - 18446744073709551616 := by
  rw [BitVec.toInt_ofInt]; rfl
 rw [hb]
 unfold IntKind.wrap
 simp only [IntKind.bits, IntKind.signed, Bool.true_and]
 split
 ·rename_i h
  have := of_decide_eq_true h
  split <;> omega
 ·rename_i h
  have : ¬ (e % 2 ^ 64 >= 2 ^ (64 - 1)) := fun hh => h (decide_eq_true hh)
  split <;> omega
theorem QfY (b : BitVec 64) : BitVec.ofInt 64 (b.toNat : Int) = b := by
 rw [BitVec.ofInt_natCast, BitVec.ofNat_toNat, BitVec.setWidth_eq]
theorem Qor (x y : Int) : BitVec.ofInt 64 (QbK x y) = BitVec.ofInt 64 x &&& BitVec.ofInt 64 y := by
 show BitVec.ofInt 64 (IntKind.i64.wrap ((BitVec.ofInt 64 x &&& BitVec.ofInt 64 y).toNat : Int)) = _
 rw [QhU, BitVec.ofInt_toInt, QfY]
theorem Qos (x y : Int) : BitVec.ofInt 64 (Qgg x y) = BitVec.ofInt 64 x &&& ~~~ BitVec.ofInt 64 y := by
 show BitVec.ofInt 64 (IntKind.i64.wrap ((BitVec.ofInt 64 x &&& ~~~ BitVec.ofInt 64 y).toNat : Int)) = _
 rw [QhU, BitVec.ofInt_toInt, QfY]
theorem QnF {x : Int} (h : I64 x) : IntKind.i64.wrap x = x := Qp h.1 h.2
theorem Qj3 {x : Int} (h : I64 x) : (BitVec.ofInt 64 x).toInt = x := by rw [<- QhU, QnF h]
theorem Qjt (x y : Int) : I64 (QbK x y) := Qge _
theorem QfC (x y : Int) : I64 (Qgg x y) := Qge _
def tb (x : Int) (i : Nat) : Bool := (BitVec.ofInt 64 x).getLsbD i
theorem Qm8 (x y : Int) (i : Nat) : tb (QbK x y) i = (tb x i && tb y i) := by rw [tb, Qor, BitVec.getLsbD_and]; rfl
theorem Qgb (x y : Int) {i : Nat} : tb (Qgg x y) i = (tb x i && !tb y i) := by
 rw [tb, Qos, BitVec.getLsbD_and, BitVec.getLsbD_not]
 by_cases h : i < 64
 ·simp [h, tb]
 ·simp [tb, BitVec.getLsbD_of_ge _ i (by omega : 64 <= i)]
theorem Qql (x : Int) {i : Nat} (h : 64 <= i) : tb x i = false := BitVec.getLsbD_of_ge _ i h
theorem Qm9 {x y : Int} (hx : I64 x) (hy : I64 y) (h : ∀ i, tb x i = tb y i) : x = y := by
 rw [<- Qj3 hx, <- Qj3 hy]
 congr 1
 exact BitVec.eq_of_getLsbD_eq fun i _ => h i
theorem QhS (i : Nat) : tb 0 i = false := by
 show (BitVec.ofInt 64 0).getLsbD i = false
 rw [show BitVec.ofInt 64 0 = 0#64 from rfl, BitVec.getLsbD_zero]
theorem Qfr {x : Int} (hx : I64 x) : x = 0 ↔ ∀ i, tb x i = false := by
 constructor
 ·rintro rfl i; exact QhS i
 ·intro h; exact Qm9 hx ⟨by omega, by omega⟩ fun i => by rw [h i, QhS]
theorem QoL (n : Nat) {i : Nat} (h : i < 64) : tb (n : Int) i = n.testBit i := by
 rw [tb, BitVec.ofInt_natCast, BitVec.getLsbD_ofNat]; simp [h]
theorem QoM {k : Nat} (hk : k < 64) (i : Nat) : tb ((2 : Int) ^ k) i = decide (i = k) := by
 have e : ((2 ^ k : Nat) : Int) = (2 : Int) ^ k := by simp
 by_cases h : i < 64
 ·rw [<- e, QoL _ h, Nat.testBit_two_pow]
  exact decide_eq_decide.2 eq_comm
 ·rw [Qql _ (by omega)]; exact (decide_eq_false (by omega)).symm
theorem Qde (x m : Int) : IntKind.i64.wrap (x - QbK x m) = Qgg x m := by
 have h : BitVec.ofInt 64 (x - QbK x m) = BitVec.ofInt 64 x &&& ~~~ BitVec.ofInt 64 m := by
  rw [Int.sub_eq_add_neg, BitVec.ofInt_add, BitVec.ofInt_neg, <- BitVec.sub_eq_add_neg, Qor]
  generalize BitVec.ofInt 64 x = a
  generalize BitVec.ofInt 64 m = b
  have h1 : (a &&& ~~~b) + (a &&& b) = a := by
   rw [BitVec.add_eq_or_of_and_eq_zero]
   ·ext i hi; simp; cases a[i] <;> cases b[i] <;> rfl
   ·ext i hi; simp
    cases a[i] <;> cases b[i] <;> simp
  exact (BitVec.sub_eq_iff_eq_add).2 h1.symm
 have e : Qgg x m = (BitVec.ofInt 64 (Qgg x m)).toInt := (Qj3 (QfC x m)).symm
 rw [e, QhU, h, Qos]
theorem Qci {x m : Int} : QbK x m = 0 ↔ ∀ i, tb x i = true -> tb m i = false := by
 rw [Qfr (Qjt x m)]
 refine forall_congr' fun i => ?_
 rw [Qm8]; cases tb x i <;> cases tb m i <;> simp
theorem QkD {x m : Int} : Qgg x m = 0 ↔ ∀ i, tb x i = true -> tb m i = true := by
 rw [Qfr (QfC x m)]
 refine forall_congr' fun i => ?_
 rw [Qgb]; cases tb x i <;> cases tb m i <;> simp
theorem Qap {x m : Int} (hx : I64 x) : QbK x m = x ↔ ∀ i, tb x i = true -> tb m i = true := by
 constructor
 ·intro h i hi
  have := congrArg (fun z => tb z i) h
  simp only [Qm8, hi, Bool.true_and] at this
  exact this
 ·intro h
  refine Qm9 (Qjt x m) hx fun i => ?_
  rw [Qm8]
  cases hx2 : tb x i
  ·rfl
  ·rw [h i hx2]; rfl
theorem QeI {x m : Int} (hx : I64 x) : Qgg x m = x ↔ ∀ i, tb x i = true -> tb m i = false := by
 constructor
 ·intro h i hi
  have := congrArg (fun z => tb z i) h
  simp only [Qgb, hi, Bool.true_and] at this
  simpa using this
 ·intro h
  refine Qm9 (QfC x m) hx fun i => ?_
  rw [Qgb]
  cases hx2 : tb x i
  ·rfl
  ·rw [h i hx2]; rfl
def Lo (x : Int) : Prop := 0 <= x /\ x < 131072
theorem Lo.i64 {x : Int} (h : Lo x) : I64 x := ⟨by have := h.1; omega, by have := h.2; omega⟩
theorem Lo.hi {x : Int} (h : Lo x) {i : Nat} (hi : 17 <= i) : tb x i = false := by
 obtain ⟨n, rfl⟩ := Int.eq_ofNat_of_zero_le h.1
 by_cases h6 : i < 64
 ·rw [QoL _ h6, Nat.testBit_lt_two_pow]
  have h1 : (2 : Nat) ^ 17 <= 2 ^ i := Nat.pow_le_pow_right (by omega) hi
  have h2 : (2 : Nat) ^ 17 = 131072 := by decide
  have := h.2
  omega
 ·exact Qql _ (by omega)
theorem Lo.of {x : Int} (hx : I64 x) (h : ∀ i, 17 <= i -> tb x i = false) : Lo x := by
 have hb : (BitVec.ofInt 64 x).toNat < 2 ^ 17 := by
  refine Nat.lt_pow_two_of_testBit _ fun i hi => ?_
  exact h i hi
 have h2 : (2 : Nat) ^ 17 = 131072 := by decide
 have e := Qj3 hx
 rw [BitVec.toInt_eq_toNat_of_lt (by omega)] at e
 exact ⟨by omega, by omega⟩
theorem Qp9 {x : Int} (h : Lo x) (m : Int) : Lo (Qgg x m) := Lo.of (QfC x m) fun i hi => by rw [Qgb, h.hi hi]; rfl
theorem Qpk (w : Qq) (u : Int) : Lo (YY w u) := ⟨(QdG w u).1, by have := (QdG w u).2; omega⟩
theorem Qoe {x : Int} (hx : I64 x) (m : Int) : QaI x m = ZS x m := by
 unfold ZS QaI
 have : (Qam .andNot .i64 x m = 0) ↔ (Qam .and .i64 x m = x) := (QkD (x := x) (m := m)).trans (Qap hx).symm
 by_cases h : Qam .andNot .i64 x m = 0
 ·rw [if_pos h, if_pos (this.1 h)]
 ·rw [if_neg h, if_neg (fun e => h (this.2 e))]
theorem Qar {x : Int} {k : Nat} (hk : k < 64) : QbK x (2 ^ k) = 0 ↔ tb x k = false := by
 rw [Qci]
 constructor
 ·intro h
  cases hx : tb x k
  ·rfl
  ·have := h k hx; rw [QoM hk] at this; simp at this
 ·intro h i hi
  rw [QoM hk]
  by_cases e : i = k
  ·subst e; rw [h] at hi; cases hi
  ·exact decide_eq_false e
theorem Qij {x y : Int} (h : ∀ i, tb x i = true -> tb y i = true) : ∀ n, n <= 64 -> (Xc x n).length <= (Xc y n).length
 | 0, _ => Nat.le_refl _
 | n + 1, hn => by
  have := Qij h n (by omega)
  rw [Xc, Xc, List.length_append, List.length_append]
  by_cases hx : tb x n = true
  ·rw [if_neg (by rw [Qar (by omega), hx]; simp), if_neg (by rw [Qar (by omega), h n hx]; simp)]
   simp only [List.length_singleton]; omega
  ·rw [if_pos (by rw [Qar (by omega)]; simpa using hx)]
   simp only [List.length_nil]; omega
theorem Qik {x y : Int} (h : ∀ i, tb x i = true -> tb y i = true) {k : Nat} (h1 : tb x k = false) (h2 : tb y k = true) : ∀ n, n <= 64 -> k < n -> (Xc x n).length < (Xc y n).length
 | 0, _, hk => by omega
 | n + 1, hn, hk => by
  rw [Xc, Xc, List.length_append, List.length_append]
  by_cases e : k = n
  ·subst e
   have := Qij h k (by omega)
   rw [if_pos ((Qar (by omega)).2 h1), if_neg (by rw [Qar (by omega), h2]; simp)]
   simp only [List.length_nil, List.length_singleton]; omega
  ·have := Qik h h1 h2 n (by omega) (by omega)
   by_cases hx : tb x n = true
   ·rw [if_neg (by rw [Qar (by omega), hx]; simp), if_neg (by rw [Qar (by omega), h n hx]; simp)]
    simp only [List.length_singleton]; omega
   ·rw [if_pos (by rw [Qar (by omega)]; simpa using hx)]
    simp only [List.length_nil]; omega
theorem Qpf {x m : Int} (hx : Lo x) (h : QbK x m ≠ 0) : (Qbm (Qgg x m)).length < (Qbm x).length := by
 have : ∃ k, tb x k = true /\ tb m k = true := by
  refine Classical.byContradiction fun hn => h (Qci.2 fun i hi => ?_)
  cases hm : tb m i
  ·rfl
  ·exact absurd ⟨i, hi, hm⟩ hn
 obtain ⟨k, h1, h2⟩ := this
 have hk : k < 17 := Classical.byContradiction fun hk => by rw [hx.hi (by omega)] at h1; cases h1
 exact Qik (fun i hi => by rw [Qgb] at hi; simp at hi; exact hi.1) (k := k) (by rw [Qgb, h1, h2]; rfl) h1 17 (by omega) hk
end M25
namespace M25
open Go Go.Abs M3
/-! ### Trails: the loops' laws -/
theorem Qb2 (w : Qq) (l : List StepT) (s : StepT) (u : Int) : Zi w (l ++ [s]) u = if s.u = u /\ inW w u = true then s.m else Zi w l u := by
 rw [Zi, List.foldl_append]; rfl
theorem Qd0 {α : Type} {l : List α} {i k : Nat} (hk : k + 1 = i) (h : k < l.length) : l.take i = l.take k ++ [l[k]] := by
 subst hk; rw [List.take_succ_eq_append_getElem h]
theorem QnN {w : Qq} {l : List StepT} {u : Int} {i k : Nat} (hk : k + 1 = i) (h : k < l.length) (hu : l[k].u = u) (hw : inW w u = true) : Zi w (l.take i) u = l[k].m := by
 rw [Qd0 hk h, Qb2, if_pos ⟨hu, hw⟩]
theorem QfJ {w : Qq} {l : List StepT} {u : Int} {i k : Nat} (hk : k + 1 = i) (h : k < l.length) (hu : ¬ l[k].u = u \/ ¬ 0 <= u \/ ¬ u < w.length) : Zi w (l.take i) u = Zi w (l.take (i - 1)) u := by
 rw [Qd0 hk h, Qb2, if_neg, show i - 1 = k by omega]
 rintro ⟨h1, h2⟩
 rw [QbV] at h2
 rcases hu with hu | hu | hu
 ·exact hu h1
 ·exact hu h2.1
 ·exact hu h2.2
theorem QdD {w : Qq} {l : List StepT} {u : Int} (h : inW w u = false) : Zi w l u = 0 := by
 have hf : YY w u = 0 := QdH (by
  refine Classical.byContradiction fun hn => ?_
  rw [QfE (by omega) (by omega)] at h; cases h)
 suffices hs : ∀ a, l.foldl (fun a s => if s.u = u /\ inW w u = true then s.m else a) a = a by rw [Zi, hs, hf]
 induction l with
 | nil => intro a; rfl
 | cons s l ih => intro a; rw [List.foldl_cons, if_neg (by rw [h]; simp), ih]
def Qb9 (w : Qq) (l : List StepT) (u : Int) : Int := l.foldl (fun a s => if s.u = u then s.m else a) (YY w u)
theorem QnM {w : Qq} {l : List StepT} {u : Int} (h : inW w u = true) : Qb9 w l u = Zi w l u := by
 unfold Qb9 Zi
 simp only [h, and_true]
theorem QgE (w : Qq) (l : List StepT) (s : StepT) (u : Int) : Qb9 w (l ++ [s]) u = if s.u = u then s.m else Qb9 w l u := by
 rw [Qb9, List.foldl_append]; rfl
theorem Qmf {w : Qq} {l : List StepT} {u : Int} {i k : Nat} (hk : k + 1 = i) (h : k < l.length) (hu : l[k].u = u) : Qb9 w (l.take i) u = l[k].m := by
 rw [Qd0 hk h, QgE, if_pos hu]
theorem Qlg {w : Qq} {l : List StepT} {u : Int} {i k : Nat} (hk : k + 1 = i) (h : k < l.length) (hu : ¬ l[k].u = u) : Qb9 w (l.take i) u = Qb9 w (l.take (i - 1)) u := by
 rw [Qd0 hk h, QgE, if_neg hu, show i - 1 = k by omega]
theorem Qfv {w : Qq} {u : Int} : YY w u = 0 ↔ inW w u = false := by
 constructor
 ·intro h
  cases hw : inW w u
  ·rfl
  ·rw [QbV] at hw
   rw [Qhy hw.1 hw.2] at h
   have h2 : 2 <= (2 : Int) ^ (min (w[u.toNat]'(by omega)).cs.length 16 + 1) := by
    rw [Int.pow_succ]
    have := Qps (n := min (w[u.toNat]'(by omega)).cs.length 16) (by omega)
    omega
   omega
 ·intro h
  refine QdH (Classical.byContradiction fun hn => ?_)
  rw [QfE (by omega) (by omega)] at h; cases h
theorem Qiz {l : List StepT} (h : (l.length : Int) = 0) : Xu l = 0 := by
 have e : l = [] := List.eq_nil_of_length_eq_zero (by omega)
 subst e; rfl
theorem Qko {l : List StepT} {k : Nat} (hk : k + 1 = l.length) : Xu l = (l[k]'(by omega)).l := by
 rw [Xu, List.getLast?_eq_getElem?, show l.length - 1 = k by omega, List.getElem?_eq_getElem (by omega)]
theorem QnX : ∀ {l : List Int}, ¬ (l.length : Int) = 1 -> Qpq l = -1
 | [], _ => rfl
 | [x], h => by simp at h
 | x :: y :: l, _ => rfl
theorem Qmz : ∀ {l : List Int} (h : (l.length : Int) = 1), Qpq l = l[(0 : Int).toNat]'(by simp; omega)
 | [], h => by simp at h
 | [x], _ => rfl
 | x :: y :: l, h => by simp at h; omega
theorem Qn2 {m : Int} (h : ¬ ((Qbm m).length : Int) = 1) : QfS m = -1 := QnX h
theorem QmE {m : Int} (h : ((Qbm m).length : Int) = 1) : QfS m = (Qbm m)[(0 : Int).toNat]'(by simp; omega) := Qmz h
def Qpp (w : Qq) (l : List StepT) (i : Nat) : Bool := match l[i]? with
 | some s => QdL w (l.take i) s
 | none => true
theorem QdO {w : Qq} {l : List StepT} {i : Nat} (h : i < l.length) : Qpp w l i = QdL w (l.take i) l[i] := by
 rw [Qpp, List.getElem?_eq_getElem h]
theorem Qku (w : Qq) (l : List StepT) : Qek w l = (List.range l.length).all (Qpp w l) := rfl
theorem Xp {w : Qq} {l : List StepT} {s : StepT} (h : s.u < 0 \/ (w.length : Int) <= s.u \/ s.c < -1) : QdL w l s = false := by
 unfold QdL
 rcases h with h | h | h
 ·rw [Qbg (.inl h)]; rfl
 ·rw [Qbg (.inr h)]; rfl
 ·rw [decide_eq_false (show ¬ -1 <= s.c by omega)]; simp
theorem Ya {w : Qq} {l : List StepT} {s : StepT} (h0 : 0 <= s.u) (h1 : s.u < w.length) (h2 : -1 <= s.c) : QdL w l s = (decide (QbK s.m (Zi w l s.u) = s.m) &&
  if s.c = -1 then decide (0 <= QfS s.m) && !QdF l s.u && decide (s.l = IntKind.i64.wrap (Xu l + 1))
  else !decide (s.m = 0) && !decide (s.m = Zi w l s.u) && decide (s.l = Xu l)) := by
 rw [QdL, QfE h0 h1, decide_eq_true h2]; rfl
theorem Qcl {w : Qq} {l : List StepT} {t : TermT} {c : Int} (h : c < 0 \/ t.u < 0 \/ (w.length : Int) <= t.u) : Yl w l t c = none := by
 rw [Yl, if_pos]
 rcases h with h | h
 ·exact .inl h
 ·exact .inr (Qbg h)
theorem Qba {w : Qq} {l : List StepT} {t : TermT} {c : Int} (h : IntKind.i64.wrap (Zi w l t.u - QbK (Zi w l t.u) t.m) = 0 \/ IntKind.i64.wrap (Zi w l t.u - QbK (Zi w l t.u) t.m) = Zi w l t.u) : Yl w l t c = none := by
 rw [Yl]
 split
 ·rfl
 ·first | rfl | rw [if_pos h]
theorem Qgw {w : Qq} {l : List StepT} {t : TermT} {c : Int} (h0 : ¬ c < 0) (h1 : inW w t.u = true) (h2 : ¬ IntKind.i64.wrap (Zi w l t.u - QbK (Zi w l t.u) t.m) = 0) (h3 : ¬ IntKind.i64.wrap (Zi w l t.u - QbK (Zi w l t.u) t.m) = Zi w l t.u) :
  Yl w l t c = some (l ++ [⟨t.u, IntKind.i64.wrap (Zi w l t.u - QbK (Zi w l t.u) t.m), Xu l, c⟩]) := by
 rw [Yl, if_neg (by rw [h1]; simp [h0]), if_neg (by simp [h2, h3])]
theorem Qgv (w : Qq) (l : List StepT) (t : TermT) (c : Int) : ((Yl w l t c).getD []).length <= l.length + 1 := by
 unfold Yl
 split
 ·simp
 ·split <;> simp
def XX (w : Qq) (l : List StepT) : Prop := ∀ s ∈ l, Lo s.m
theorem Qb1 {w : Qq} {l : List StepT} (h : XX w l) (u : Int) : Lo (Zi w l u) := by
 suffices hs : ∀ (l : List StepT) a, (∀ s ∈ l, Lo s.m) -> Lo a -> Lo (l.foldl (fun a s => if s.u = u /\ inW w u = true then s.m else a) a) from hs l _ h (Qpk w u)
 intro l
 induction l with
 | nil => intro a _ h; exact h
 | cons s l ih =>
  intro a hl ha
  rw [List.foldl_cons]
  refine ih _ (fun t ht => hl t (by simp [ht])) ?_
  split
  ·exact hl s (by simp)
  ·exact ha
theorem QlO {w : Qq} {l : List StepT} {t : TermT} {c : Int} (hl : XX w l) (h : QbK (Zi w l t.u) t.m = 0) : Yl w l t c = none :=
 Qba (.inr (by rw [Qde, QeI (Qb1 hl _).i64, <- Qci]; exact h))
theorem QlP {w : Qq} {l : List StepT} {t : TermT} {c : Int} (h : Qgg (Zi w l t.u) t.m = 0) : Yl w l t c = none :=
 Qba (.inl (by rw [Qde]; exact h))
theorem Qii {w : Qq} {l : List StepT} {t : TermT} {c : Int} (hl : XX w l) (h0 : ¬ c < 0) (h1 : ¬ QbK (Zi w l t.u) t.m = 0) (h2 : ¬ Qgg (Zi w l t.u) t.m = 0) : Yl w l t c = some (l ++ [⟨t.u, Qgg (Zi w l t.u) t.m, Xu l, c⟩]) := by
 have hin : inW w t.u = true := by
  cases hw : inW w t.u
  ·rw [QdD hw] at h1
   exact absurd (Qci.2 fun i hi => by rw [QhS] at hi; cases hi) h1
  ·rfl
 rw [Qgw h0 hin (by rw [Qde]; exact h2) (by rw [Qde, QeI (Qb1 hl _).i64, <- Qci]; exact h1), Qde]
theorem Qec {w : Qq} {l : List StepT} {u p : Int} (h : (u < 0 \/ (w.length : Int) <= u) \/ p < 0) : Xl w l u p = none := by
 unfold Xl
 split
 ·rfl
 ·rename_i x hx
  rcases h with h | h
  ·rw [QjR h] at hx; cases hx
  ·rw [if_pos (.inl h)]
theorem Qk2 {w : Qq} {l : List StepT} {u p : Int} (h0 : 0 <= u) (h1 : u < w.length) (h : ((w[u.toNat]'(by omega)).cs.length : Int) <= p) : Xl w l u p = none := by
 rw [Xl, QkR h0 h1]
 simp only []
 rw [if_pos (.inr h)]
def Qpe (l : List StepT) (u p : Int) : StepT := ⟨u, IntKind.i64.wrap (2 * 2 ^ min p.toNat 64), IntKind.i64.wrap (Xu l + 1), -1⟩
theorem QlN {w : Qq} {l : List StepT} {u p : Int} (h : QdL w l (Qpe l u p) = false) : Xl w l u p = none := by
 unfold Xl
 split
 ·rfl
 ·split
  ·rfl
  ·simp only [Qpe] at h
   rw [if_neg (by rw [h]; simp)]
theorem Qk5 {w : Qq} {l : List StepT} {u p : Int} (h0 : 0 <= u) (h1 : u < w.length) (h2 : ¬ p < 0) (h3 : ¬ ((w[u.toNat]'(by omega)).cs.length : Int) <= p) (h : QdL w l (Qpe l u p) = true) : Xl w l u p = some (l ++ [Qpe l u p]) := by
 rw [Xl, QkR h0 h1]
 simp only []
 rw [if_neg (by omega)]
 simp only [Qpe] at h ⊢
 rw [if_pos h]
theorem Qbo {h : Int -> Int} {inc : List TermT} {a : Int} {i : Nat} (hi : i < inc.length) : ZO h (inc.drop i) a = if ZS (h inc[i].u) inc[i].m = 0 then -1 else if ZS (h inc[i].u) inc[i].m = 1 then (if 0 <= a then -1 else ZO h (inc.drop (i + 1)) inc[i].u) else ZO h (inc.drop (i + 1)) a := by
 rw [List.drop_eq_getElem_cons hi, ZO]
theorem QiM {h : Int -> Int} {inc : List TermT} {a : Int} {i : Nat} (hi : inc.length <= i) : ZO h (inc.drop i) a = a := by
 rw [List.drop_eq_nil_of_le hi, ZO]
theorem QjM {w : Qq} {l : List StepT} {db : List (List TermT)} {i : Nat} (hi : i < db.length) : YG w l i (db.drop i) = if QfT w l db[i] = true then ((i : Int), -1) else if 0 <= QeR w l db[i] then ((i : Int), QeR w l db[i]) else YG w l (i + 1) (db.drop (i + 1)) := by
 rw [List.drop_eq_getElem_cons hi, YG]
theorem Qn7 {w : Qq} {l : List StepT} {db : List (List TermT)} {i : Nat} (hi : db.length <= i) : YG w l i (db.drop i) = (-1, -1) := by
 rw [List.drop_eq_nil_of_le hi, YG]
theorem QhN (w : Qq) (l : List StepT) : ∀ (db : List (List TermT)) (i : Nat), (YG w l i db = (-1, -1)) \/ ∃ k, i <= k /\ ∃ hk : k - i < db.length, (YG w l i db = ((k : Int), -1) /\ QfT w l db[k - i] = true) \/ (QfT w l db[k - i] = false /\ 0 <= QeR w l db[k - i] /\ YG w l i db = ((k : Int), QeR w l db[k - i]))
 | [], i => .inl rfl
 | x :: db, i => by
  rw [YG]
  by_cases h1 : QfT w l x = true
  ·rw [if_pos h1]; exact .inr ⟨i, Nat.le_refl _, by simp, .inl ⟨rfl, by simpa using h1⟩⟩
  ·rw [if_neg h1]
   by_cases h2 : 0 <= QeR w l x
   ·rw [if_pos h2]; exact .inr ⟨i, Nat.le_refl _, by simp, .inr ⟨by simpa using h1, by simpa using h2, by simp⟩⟩
   ·rw [if_neg h2]
    rcases QhN w l db (i + 1) with h | ⟨k, hk, hlt, h⟩
    ·exact .inl h
    ·refine .inr ⟨k, by omega, by simp only [List.length_cons]; omega, ?_⟩
     have e : (x :: db)[k - i]'(by simp only [List.length_cons]; omega) = db[k - (i + 1)] := by
      obtain ⟨j, hj⟩ : ∃ j, k - i = j + 1 := ⟨k - i - 1, by omega⟩
      simp only [hj, List.getElem_cons_succ]
      congr 1; omega
     rw [e]; exact h
theorem QiW {w : Qq} {l : List StepT} {db : List (List TermT)} (h : ¬ (ZM w db l).2 < 0) : 0 <= (ZM w db l).1 /\ (ZM w db l).1 < db.length := by
 unfold ZM at h ⊢
 rcases QhN w l db 0 with e | ⟨k, _, hk, ⟨e, _⟩ | ⟨_, _, e⟩⟩
 ·rw [e] at h; simp at h
 ·rw [e] at h; simp at h
 ·rw [e]; simp only; omega
theorem Qew {w : Qq} {db : List (List TermT)} {n : Nat} {out : List StepT} (h : (ZM w db out).2 < 0) (hn : 0 < n) : Qdb w db n out = (out, (ZM w db out).1) := by
 obtain ⟨m, rfl⟩ : ∃ m, n = m + 1 := ⟨n - 1, by omega⟩
 rw [Qdb, if_pos h]
theorem QkL {w : Qq} {db : List (List TermT)} {n : Nat} {out : List StepT} (h : ¬ (ZM w db out).2 < 0) (hn : 0 < n) (hd : (ZM w db out).1.toNat < db.length) : Qdb w db n out = Qdb w db (n - 1) ((Yl w out ⟨(ZM w db out).2, Qc7 w db[(ZM w db out).1.toNat] (ZM w db out).2⟩ (ZM w db out).1).getD []) := by
 obtain ⟨m, rfl⟩ : ∃ m, n = m + 1 := ⟨n - 1, by omega⟩
 rw [Qdb, if_neg h, List.getD_eq_getElem?_getD, List.getElem?_eq_getElem hd]; rfl
end M25
namespace Go.Proofs
open Go Go.Abs M3 M25
set_option linter.unusedVariables false
set_option linter.unusedSimpArgs false
theorem Z1 {w : Qq} (hw : WSm w) {l : List StepT} (hl : l.length <= 10000000) {u : Int} : Ok Tryz.prog 26 [Z2 w, Zy l, .int .i64 u] (.int .i64 (Zi w l u)) := by
 refine Ok.ofT ZT Tryz.func26 QrB (Nat.le_of_ble_eq_true rfl) ?_
 show TW _ _ tf26.body _ _
 refine Qf fun K hK => Zw rfl rfl rfl (Qa rfl ?_)
 refine hK _ _ (Qb (kp3 rfl rfl rfl) ?_)
 refine QA ?_ -- 0
 refine Qf fun K hK => Qa rfl ?_
 first | refine QQ rfl QS ?_ | refine QQ rfl rfl ?_
 refine QaE rfl rfl (by first | exact Qp (by omega) (by omega) | rfl) (Qa rfl ?_)
 refine hK _ _ (Qb (kp4 rfl rfl rfl rfl) ?_)
 refine Qy ?_
 refine Zj (ι := Nat) (fun i => ⟨[(1, Zy l), (2, .int .i64 u), (3, .ref 3 0 0), (7, .int .i64 ((i : Int) - 1))], [(3, ⟨[[.sl ((w).map Yq)]], 1, 26, true⟩)]⟩) (fun i => i <= l.length /\ Zi w l u = Zi w (l.take i) u) (fun i => i) l.length ?_ ?_ ?_
 ·exact Q3 (l := [1, 2, 3, 7]) (lH := [3]) (kp4 rfl rfl rfl rfl) (Qe rfl Ql) rfl rfl rfl
 ·exact ⟨Nat.le_refl _, by rw [List.take_length]⟩
 intro i hI
 try dsimp only
 refine QA ?_ -- 1
 refine Qf fun K hK => Qa rfl (QeU rfl rfl ?_)
 refine hK _ _ (Qb (kp5 rfl rfl rfl rfl rfl) ?_)
 refine Qw rfl (fun h1 => ?_) (fun h1 => ?_)
 ·try rw [h1]
  try simp only [qa, qb, qc, qd, qe, List.length_map] at h1
  refine Qv (Qd (kp4 rfl rfl rfl rfl) ?_)
  refine QA ?_ -- 2
  refine Qy (Qf fun K hK => Qa rfl (Qa rfl (QJ rfl rfl rfl (by omega) (ZB (by omega) (by omega)) rfl (Q8 rfl rfl (QC rfl rfl rfl (Qa rfl (ZK rfl rfl (Qa rfl ?_))))))))
  refine QE (g := 22) rfl (fun h2 => ?_) (fun h2 => ?_)
  ·try rw [h2]
   try simp only [qa, qb, qc, qd, qe, List.length_map] at h2
   refine Qk rfl (Qa rfl (Qk rfl (QeU rfl rfl (Qo rfl rfl (Qa rfl ?_)))))
   refine QE (g := 26) rfl (fun h3 => ?_) (fun h3 => ?_)
   ·try rw [h3]
    try simp only [qa, qb, qc, qd, qe, List.length_map] at h3
    refine Qk rfl (Qa rfl (Qk rfl (Qh rfl rfl (Qk rfl (QC rfl rfl rfl (Qk rfl ?_))))))
    first | refine QQ rfl QS ?_ | refine QQ rfl rfl ?_
    refine Qk rfl (Z6 rfl rfl (Qo rfl rfl ?_))
    refine hK _ _ (Qb (kp5 rfl rfl rfl rfl rfl) ?_)
    refine Qw rfl (fun h4 => ?_) (fun h4 => ?_)
    ·try rw [h4]
     try simp only [qa, qb, qc, qd, qe, List.length_map] at h4
     refine Qf fun K hK => Qa rfl (Qa rfl (QJ rfl rfl rfl (by omega) (ZB (by omega) (by omega)) rfl (Q8 rfl rfl (QC rfl rfl rfl (Qa rfl ?_)))))
     refine hK _ _ (Qb (kp1 rfl) ?_)
     refine Qu (Qr (Qj (Q0 (Qr (Qj (QG rfl ?_))))))
     rw [hI.2, QnN (k := ((i : Int) - 1).toNat) (by omega) (by omega) h2 (QfE (by omega) (by omega))]
    ·try rw [h4]
     try simp only [qa, qb, qc, qd, qe, List.length_map] at h4
     refine Qv (Qg (Qd (kp4 rfl rfl rfl rfl) (QL fun K hK => Qa rfl (QaE rfl rfl (by first | exact Qp (by omega) (by omega) | rfl) (Qa rfl (hK _ ?_))))))
     refine Qi (i - 1) ?_ ?_ ?_
     ·exact Q3 (l := [1, 2, 3, 7]) (lH := [3]) (kp4 rfl rfl rfl rfl) (Qe rfl Ql) (by simp only [List.cons.injEq, Prod.mk.injEq, D.int.injEq, and_true, true_and]; omega) rfl rfl
     ·exact ⟨by omega, by rw [hI.2, QfJ (k := ((i : Int) - 1).toNat) (by omega) (by omega) (by first | exact .inl h2 | exact .inr (.inl h3) | exact .inr (.inr h4))]⟩
     ·first | omega | (simp only; omega) | (dsimp only; omega)
   ·try rw [h3]
    try simp only [qa, qb, qc, qd, qe, List.length_map] at h3
    refine Qt rfl (Qt rfl (Qt rfl (Qt rfl (Qt rfl (Qo rfl rfl ?_)))))
    refine hK _ _ (Qb (kp5 rfl rfl rfl rfl rfl) ?_)
    refine ZI rfl (Qv (Qg (Qd (kp4 rfl rfl rfl rfl) (QL fun K hK => Qa rfl (QaE rfl rfl (by first | exact Qp (by omega) (by omega) | rfl) (Qa rfl (hK _ ?_)))))))
    refine Qi (i - 1) ?_ ?_ ?_
    ·exact Q3 (l := [1, 2, 3, 7]) (lH := [3]) (kp4 rfl rfl rfl rfl) (Qe rfl Ql) (by simp only [List.cons.injEq, Prod.mk.injEq, D.int.injEq, and_true, true_and]; omega) rfl rfl
    ·exact ⟨by omega, by rw [hI.2, QfJ (k := ((i : Int) - 1).toNat) (by omega) (by omega) (by first | exact .inl h2 | exact .inr (.inl h3) | exact .inr (.inr h4))]⟩
    ·first | omega | (simp only; omega) | (dsimp only; omega)
  ·try rw [h2]
   try simp only [qa, qb, qc, qd, qe, List.length_map] at h2
   refine Qt rfl (Qt rfl (Qo rfl rfl (Qa rfl (Qt rfl (Qt rfl (Qt rfl (Qt rfl (Qt rfl (Qo rfl rfl ?_)))))))))
   refine hK _ _ (Qb (kp5 rfl rfl rfl rfl rfl) ?_)
   refine ZI rfl (Qv (Qg (Qd (kp4 rfl rfl rfl rfl) (QL fun K hK => Qa rfl (QaE rfl rfl (by first | exact Qp (by omega) (by omega) | rfl) (Qa rfl (hK _ ?_)))))))
   refine Qi (i - 1) ?_ ?_ ?_
   ·exact Q3 (l := [1, 2, 3, 7]) (lH := [3]) (kp4 rfl rfl rfl rfl) (Qe rfl Ql) (by simp only [List.cons.injEq, Prod.mk.injEq, D.int.injEq, and_true, true_and]; omega) rfl rfl
   ·exact ⟨by omega, by rw [hI.2, QfJ (k := ((i : Int) - 1).toNat) (by omega) (by omega) (by first | exact .inl h2 | exact .inr (.inl h3) | exact .inr (.inr h4))]⟩
   ·first | omega | (simp only; omega) | (dsimp only; omega)
 ·try rw [h1]
  try simp only [qa, qb, qc, qd, qe, List.length_map] at h1
  refine Zg (QK (Qx (QD (Qd (kp2 rfl rfl) (Qf fun K hK => QH (cs := [_]) rfl rfl rfl rfl (Qa rfl (QI (Zz hw) rfl rfl (.inr rfl) (Qa rfl ?_))))))))
  refine hK _ _ (Qb (kp1 rfl) ?_)
  refine Qu (QG rfl ?_)
  rw [hI.2, show i = 0 by omega]; rfl
theorem Yf {l : List StepT} (hl : l.length <= 10000000) : Ok Tryz.prog 25 [Zy l] (.int .i64 (Xu l)) := by
 refine Ok.ofT ZT Tryz.func25 QrA (Nat.le_of_ble_eq_true rfl) ?_
 show TW _ _ tf25.body _ _
 refine Qf fun K hK => Qa rfl ?_
 refine hK _ _ (Qb (kp1 rfl) ?_)
 refine QA ?_ -- 0
 refine Qf fun K hK => Qa rfl ?_
 first | refine QQ rfl QS ?_ | refine QQ rfl rfl ?_
 refine ZK rfl rfl ?_
 refine hK _ _ (Qb (kp2 rfl rfl) ?_)
 refine Qw rfl (fun h1 => ?_) (fun h1 => ?_)
 ·try rw [h1]
  try simp only [qa, qb, qc, qd, qe, List.length_map] at h1
  refine Qf fun K hK => Qa rfl ?_
  refine hK _ _ (Qb (kp1 rfl) ?_)
  refine Qu (Qj (QG rfl ?_))
  rw [Qiz h1]
 ·try rw [h1]
  try simp only [qa, qb, qc, qd, qe, List.length_map] at h1
  refine Qv (Qd (kp1 rfl) (Qf fun K hK => Qa rfl (Qa rfl ?_)))
  first | refine QQ rfl QS ?_ | refine QQ rfl rfl ?_
  refine QaE rfl rfl (by first | exact Qp (by omega) (by omega) | rfl) (QJ rfl rfl rfl (by omega) (ZB (by omega) (by omega)) rfl (Q8 rfl rfl (QC rfl rfl rfl (Qa rfl ?_))))
  refine hK _ _ (Qb (kp1 rfl) ?_)
  refine Qu (QG rfl ?_)
  rw [Qko (k := ((l.length : Int) - 1).toNat) (by omega)]
theorem Qa6 {l : List StepT} (hl : l.length <= 10000000) {u : Int} : Ok Tryz.prog 69 [Zy l, .int .i64 u] (.bool (QdF l u)) := by
 refine Ok.ofT ZT Tryz.func69 Qsf (Nat.le_of_ble_eq_true rfl) ?_
 show TW _ _ tf69.body _ _
 refine Qf fun K hK => Qa rfl ?_
 refine hK _ _ (Qb (kp2 rfl rfl) ?_)
 refine QA ?_ -- 0
 refine Qf fun K hK => Qa rfl ?_
 refine hK _ _ (Qb (kp3 rfl rfl rfl) ?_)
 refine Qy ?_
 refine Zj (ι := Nat) (fun i => ⟨[(0, Zy l), (1, .int .i64 u), (5, .int .i64 i)], []⟩) (fun i => i <= l.length /\ (l.take i).any (fun s => decide (s.u = u) && decide (s.c = -1)) = false) (fun i => l.length - i) 0 ?_ ?_ ?_
 ·exact Za (kp3 rfl rfl rfl)
 ·exact ⟨Nat.zero_le _, by simp⟩
 intro i hI
 try dsimp only
 refine QA ?_ -- 1
 refine Qf fun K hK => Qa rfl (Qa rfl ?_)
 first | refine QQ rfl QS ?_ | refine QQ rfl rfl ?_
 refine Z6 rfl rfl ?_
 refine hK _ _ (Qb (kp4 rfl rfl rfl rfl) ?_)
 refine Qw rfl (fun h1 => ?_) (fun h1 => ?_)
 ·try rw [h1]
  try simp only [qa, qb, qc, qd, qe, List.length_map] at h1
  refine Qv (Qd (kp3 rfl rfl rfl) ?_)
  refine QA ?_ -- 2
  refine Qy (Qf fun K hK => Qa rfl (Qa rfl (QJ rfl rfl rfl (by omega) (QR (by omega)) rfl (Q8 rfl rfl (QC rfl rfl rfl (Qa rfl (ZK rfl rfl (Qa rfl ?_))))))))
  refine QE (g := 19) rfl (fun h2 => ?_) (fun h2 => ?_)
  ·try rw [h2]
   try simp only [qa, qb, qc, qd, qe, List.length_map] at h2
   refine Qk rfl (Qa rfl (Qk rfl (Qa rfl (Qk rfl (QJ rfl rfl rfl (by omega) (QR (by omega)) rfl (Qk rfl (Q8 rfl rfl (Qk rfl (QC rfl rfl rfl (Qk rfl (ZK rfl rfl ?_)))))))))))
   refine Qo rfl rfl ?_
   refine hK _ _ (Qb (kp4 rfl rfl rfl rfl) ?_)
   refine Qw rfl (fun h3 => ?_) (fun h3 => ?_)
   ·try rw [h3]
    try simp only [qa, qb, qc, qd, qe, List.length_map] at h3
    refine Qf fun K hK => Qa rfl ?_
    refine hK _ _ (Qb (kp1 rfl) ?_)
    refine Qu (Qr (Qj (Q0 (Qr (Qj (Qs rfl ?_))))))
    rw [QdF, Qjf (i := i) (by omega) (by simp [h2, h3])]
   ·try rw [h3]
    try simp only [qa, qb, qc, qd, qe, List.length_map] at h3
    refine Qv (Qg (Qd (kp3 rfl rfl rfl) (QL fun K hK => Qa rfl (Q1 rfl rfl (by first | exact Qp (by omega) (by omega) | rfl) (Qa rfl (hK _ ?_))))))
    refine Qi (i + 1) ?_ ?_ ?_
    ·exact Za (kp3 rfl rfl rfl)
    ·exact ⟨by omega, Qh5 (by omega) hI.2 (by first | (simp [h2, h3]; done) | (simp [h2]; done))⟩
    ·first | omega | (simp only; omega) | (dsimp only; omega)
  ·try rw [h2]
   try simp only [qa, qb, qc, qd, qe, List.length_map] at h2
   refine Qt rfl (Qt rfl (Qt rfl (Qt rfl (Qt rfl (Qt rfl (Qo rfl rfl ?_))))))
   refine hK _ _ (Qb (kp4 rfl rfl rfl rfl) ?_)
   refine ZI rfl (Qv (Qg (Qd (kp3 rfl rfl rfl) (QL fun K hK => Qa rfl (Q1 rfl rfl (by first | exact Qp (by omega) (by omega) | rfl) (Qa rfl (hK _ ?_)))))))
   refine Qi (i + 1) ?_ ?_ ?_
   ·exact Za (kp3 rfl rfl rfl)
   ·exact ⟨by omega, Qh5 (by omega) hI.2 (by first | (simp [h2, h3]; done) | (simp [h2]; done))⟩
   ·first | omega | (simp only; omega) | (dsimp only; omega)
 ·try rw [h1]
  try simp only [qa, qb, qc, qd, qe, List.length_map] at h1
  refine Zg (QK (Qx (QD (Qd (Q5) (Qf fun K hK => Qa rfl ?_)))))
  refine hK _ _ (Qb (kp1 rfl) ?_)
  refine Qu (Qs rfl ?_)
  rw [QdF, QlE (i := i) (by omega) hI.2]
theorem QbP {m : Int} : Ok Tryz.prog 68 [.int .i64 m] (.int .i64 (QfS m)) := by
 refine Ok.ofT ZT Tryz.func68 Qse (Nat.le_of_ble_eq_true rfl) ?_
 show TW _ _ tf68.body _ _
 refine Qf fun K hK => Qa rfl ?_
 refine hK _ _ (Qb (kp1 rfl) ?_)
 refine Qf fun K hK => Qa rfl (QI (XO) rfl rfl (.inl rfl) (Qa rfl ?_))
 refine hK _ _ (Qb (kp1 rfl) ?_)
 refine QA ?_ -- 0
 refine Qf fun K hK => Qa rfl ?_
 first | refine QQ rfl QS ?_ | refine QQ rfl rfl ?_
 refine XI rfl rfl ?_
 refine hK _ _ (Qb (kp2 rfl rfl) ?_)
 refine Qw rfl (fun h1 => ?_) (fun h1 => ?_)
 ·try rw [h1]
  try simp only [qa, qb, qc, qd, qe, List.length_map] at h1
  refine Qf fun K hK => Qa rfl ?_
  refine hK _ _ (Qb (kp1 rfl) ?_)
  refine Qu (Qj (QG rfl ?_))
  rw [Qn2 h1]
 ·try rw [h1]
  try simp only [qa, qb, qc, qd, qe, List.length_map] at h1
  refine Qv (Qd (kp1 rfl) (Qf fun K hK => Qa rfl (QJ rfl rfl rfl (by omega) (ZB (by omega) (by omega)) rfl (QC rfl rfl rfl (Qa rfl ?_)))))
  refine hK _ _ (Qb (kp1 rfl) ?_)
  refine Qu (QG rfl ?_)
  rw [QmE h1]
theorem QcL {w : Qq} (hw : WSm w) {l : List StepT} (hl : l.length <= 10000000) {s : StepT} : Ok Tryz.prog 47 [Z2 w, Zy l, .agg (Qfp s)] (.bool (QdL w l s)) := by
 refine Ok.ofT ZT Tryz.func47 QrV (Nat.le_of_ble_eq_true rfl) ?_
 show TW _ _ tf47.body _ _
 refine Qf fun K hK => Zw rfl rfl rfl (Zw rfl rfl rfl (Qa rfl ?_))
 refine hK _ _ (Qb (kp3 rfl rfl rfl) ?_)
 refine QA ?_ -- 0
 refine Qf fun K hK => Qh rfl rfl (QC rfl rfl rfl (Z6 rfl rfl (Qa rfl ?_)))
 refine QE (g := 11) rfl (fun h1 => ?_) (fun h1 => ?_)
 ·try rw [h1]
  try simp only [qa, qb, qc, qd, qe, List.length_map] at h1
  refine Qt rfl (Qt rfl (Qt rfl (Qt rfl (Qt rfl (Qt rfl (Qo rfl rfl (Qa rfl (Qt rfl (Qt rfl (Qt rfl (Qo rfl rfl ?_)))))))))))
  refine hK _ _ (Qb (kp4 rfl rfl rfl rfl) ?_)
  refine Zu rfl (Qf fun K hK => Qa rfl ?_)
  refine hK _ _ (Qb (kp1 rfl) ?_)
  refine Qu (Qj (Qs rfl ?_))
  first | (rw [Xp (by omega)]; done) | (rw [Ya (by omega) (by omega) (by omega)]; simp_all; done) | (rw [Ya (by omega) (by omega) (by omega)]; simp_all; omega)
 ·try rw [h1]
  try simp only [qa, qb, qc, qd, qe, List.length_map] at h1
  refine Qk rfl (Qh rfl rfl (Qk rfl (QC rfl rfl rfl (Qk rfl (Qh rfl rfl (Qk rfl (QC rfl rfl rfl (Qk rfl ?_))))))))
  first | refine QQ rfl QS ?_ | refine QQ rfl rfl ?_
  refine Qk rfl (QeU rfl rfl (Qo rfl rfl (Qa rfl ?_)))
  refine QE (g := 19) rfl (fun h2 => ?_) (fun h2 => ?_)
  ·try rw [h2]
   try simp only [qa, qb, qc, qd, qe, List.length_map] at h2
   refine Qt rfl (Qt rfl (Qt rfl (Qo rfl rfl ?_)))
   refine hK _ _ (Qb (kp4 rfl rfl rfl rfl) ?_)
   refine Zu rfl (Qf fun K hK => Qa rfl ?_)
   refine hK _ _ (Qb (kp1 rfl) ?_)
   refine Qu (Qj (Qs rfl ?_))
   first | (rw [Xp (by omega)]; done) | (rw [Ya (by omega) (by omega) (by omega)]; simp_all; done) | (rw [Ya (by omega) (by omega) (by omega)]; simp_all; omega)
  ·try rw [h2]
   try simp only [qa, qb, qc, qd, qe, List.length_map] at h2
   refine Qk rfl (Qh rfl rfl (Qk rfl (QC rfl rfl rfl (Qk rfl (Z6 rfl rfl (Qo rfl rfl ?_))))))
   refine hK _ _ (Qb (kp4 rfl rfl rfl rfl) ?_)
   refine Qw rfl (fun h3 => ?_) (fun h3 => ?_)
   ·try rw [h3]
    try simp only [qa, qb, qc, qd, qe, List.length_map] at h3
    refine Qf fun K hK => Qa rfl ?_
    refine hK _ _ (Qb (kp1 rfl) ?_)
    refine Qu (Qj (Qs rfl ?_))
    first | (rw [Xp (by omega)]; done) | (rw [Ya (by omega) (by omega) (by omega)]; simp_all; done) | (rw [Ya (by omega) (by omega) (by omega)]; simp_all; omega)
   ·try rw [h3]
    try simp only [qa, qb, qc, qd, qe, List.length_map] at h3
    refine Qv (Qd (kp3 rfl rfl rfl) (Qf fun K hK => QH (cs := [_]) rfl rfl rfl rfl (Qa rfl (Qh rfl rfl (QC rfl rfl rfl (QI (Z1 hw hl) rfl rfl (.inr rfl) (Qa rfl ?_)))))))
    refine hK _ _ (Qb (kp3 rfl rfl rfl) ?_)
    refine QA ?_ -- 1
    refine Qf fun K hK => Qh rfl rfl (QC rfl rfl rfl (ZK rfl rfl ?_))
    refine hK _ _ (Qb (kp4 rfl rfl rfl rfl) ?_)
    refine Qw rfl (fun h4 => ?_) (fun h4 => ?_)
    ·try rw [h4]
     try simp only [qa, qb, qc, qd, qe, List.length_map] at h4
     refine Qf fun K hK => Qh rfl rfl (QU (ds0 := [26, 25, 24, 23, 22, 21, 20, 19, 18, 17, 16, 15, 14, 13, 12, 11, 10, 9, 8, 7, 6, 5, 4, 3, 2, 1, 0]) rfl rfl rfl rfl rfl (QW (ds0 := [25, 24, 23, 22, 21, 20, 19, 18, 17, 16, 15, 14, 13, 12, 11, 10, 9, 8, 7, 6, 5, 4, 3, 2, 1, 0]) (QbP) rfl rfl (.inr rfl) rfl rfl (QeU rfl rfl (Qa rfl ?_))))
     refine QE (g := 36) rfl (fun h5 => ?_) (fun h5 => ?_)
     ·try rw [h5]
      try simp only [qa, qb, qc, qd, qe, List.length_map] at h5
      refine Qk rfl (Qh rfl rfl (Qk rfl (QU (ds0 := [20, 17, 16, 15, 14, 13, 12, 11, 10, 9, 8, 7, 6, 5, 4, 3, 2, 1, 0]) rfl rfl rfl rfl rfl (Qk rfl (Qa rfl (Qk rfl (QeM rfl rfl (Qk rfl (Qh rfl rfl (Qk rfl (QU (ds0 := [17, 16, 15, 14, 13, 12, 11, 10, 9, 8, 7, 6, 5, 4, 3, 2, 1, 0]) rfl rfl rfl rfl rfl ?_)))))))))))
      refine Qk rfl (ZK rfl rfl (Qo rfl rfl (Qa rfl ?_)))
      refine QE (g := 45) rfl (fun h6 => ?_) (fun h6 => ?_)
      ·try rw [h6]
       try simp only [qa, qb, qc, qd, qe, List.length_map] at h6
       refine Qk rfl (Qa rfl (Qk rfl (Qh rfl rfl (Qk rfl (QU (ds0 := [11, 10, 9, 8, 7, 6, 5, 4, 3, 2, 1, 0]) rfl rfl rfl rfl rfl (Qk rfl (QW (ds0 := [10, 9, 8, 7, 6, 5, 4, 3, 2, 1, 0]) (Qa6 hl) rfl rfl (.inr rfl) rfl rfl (Qk rfl (Yd rfl (Qo rfl rfl (Qa rfl ?_)))))))))))
       refine QE (g := 52) rfl (fun h7 => ?_) (fun h7 => ?_)
       ·try rw [h7]
        try simp only [qa, qb, qc, qd, qe, List.length_map] at h7
        refine Qk rfl (Qh rfl rfl (Qk rfl (QU (ds0 := [2, 1, 0]) rfl rfl rfl rfl rfl (Qk rfl (Qa rfl (Qk rfl (QW (ds0 := [3, 2, 1, 0]) (Yf hl) rfl rfl (.inr rfl) rfl rfl (Qk rfl (Q1 rfl rfl rfl (Qk rfl (ZK rfl rfl ?_)))))))))))
        refine Qo rfl rfl (Qa rfl ?_)
        refine hK _ _ (Qb (kp1 rfl) ?_)
        refine Qu (Qj (Qs rfl ?_))
        first | (rw [Xp (by omega)]; done) | (rw [Ya (by omega) (by omega) (by omega)]; simp_all; done) | (rw [Ya (by omega) (by omega) (by omega)]; simp_all; omega)
       ·try rw [h7]
        try simp only [qa, qb, qc, qd, qe, List.length_map] at h7
        refine Qt rfl (Qt rfl (Qt rfl (Qt rfl (Qt rfl (Qt rfl (Qo rfl rfl (Qa rfl ?_)))))))
        refine hK _ _ (Qb (kp1 rfl) ?_)
        refine Qu (Qj (Qs rfl ?_))
        first | (rw [Xp (by omega)]; done) | (rw [Ya (by omega) (by omega) (by omega)]; simp_all; done) | (rw [Ya (by omega) (by omega) (by omega)]; simp_all; omega)
      ·try rw [h6]
       try simp only [qa, qb, qc, qd, qe, List.length_map] at h6
       refine Qt rfl (Qt rfl (Qt rfl (Qt rfl (Qt rfl (Qo rfl rfl (Qa rfl (Qt rfl (Qt rfl (Qt rfl (Qt rfl (Qt rfl ?_)))))))))))
       refine Qt rfl (Qo rfl rfl (Qa rfl ?_))
       refine hK _ _ (Qb (kp1 rfl) ?_)
       refine Qu (Qj (Qs rfl ?_))
       first | (rw [Xp (by omega)]; done) | (rw [Ya (by omega) (by omega) (by omega)]; simp_all; done) | (rw [Ya (by omega) (by omega) (by omega)]; simp_all; omega)
     ·try rw [h5]
      try simp only [qa, qb, qc, qd, qe, List.length_map] at h5
      refine Qt rfl (Qt rfl (Qt rfl (Qt rfl (Qt rfl (Qt rfl (Qt rfl (Qo rfl rfl (Qa rfl (Qt rfl (Qt rfl (Qt rfl ?_)))))))))))
      refine Qt rfl (Qt rfl (Qo rfl rfl (Qa rfl (Qt rfl (Qt rfl (Qt rfl (Qt rfl (Qt rfl (Qt rfl (Qo rfl rfl (Qa rfl ?_)))))))))))
      refine hK _ _ (Qb (kp1 rfl) ?_)
      refine Qu (Qj (Qs rfl ?_))
      first | (rw [Xp (by omega)]; done) | (rw [Ya (by omega) (by omega) (by omega)]; simp_all; done) | (rw [Ya (by omega) (by omega) (by omega)]; simp_all; omega)
    ·try rw [h4]
     try simp only [qa, qb, qc, qd, qe, List.length_map] at h4
     refine Qv (Qd (kp3 rfl rfl rfl) (Qf fun K hK => Qh rfl rfl (QU (ds0 := [23, 22, 21, 20, 19, 18, 17, 16, 15, 14, 13, 12, 11, 10, 9, 8, 7, 6, 5, 4, 3, 2, 1, 0]) rfl rfl rfl rfl rfl (XI rfl rfl (Qa rfl ?_)))))
     refine QE (g := 63) rfl (fun h8 => ?_) (fun h8 => ?_)
     ·try rw [h8]
      try simp only [qa, qb, qc, qd, qe, List.length_map] at h8
      refine Qk rfl (Qh rfl rfl (Qk rfl (QU (ds0 := [18, 15, 14, 13, 12, 11, 10, 9, 8, 7, 6, 5, 4, 3, 2, 1, 0]) rfl rfl rfl rfl rfl (Qk rfl (Qa rfl (Qk rfl (QeM rfl rfl (Qk rfl (Qh rfl rfl (Qk rfl (QU (ds0 := [15, 14, 13, 12, 11, 10, 9, 8, 7, 6, 5, 4, 3, 2, 1, 0]) rfl rfl rfl rfl rfl ?_)))))))))))
      refine Qk rfl (ZK rfl rfl (Qo rfl rfl (Qa rfl ?_)))
      refine QE (g := 72) rfl (fun h9 => ?_) (fun h9 => ?_)
      ·try rw [h9]
       try simp only [qa, qb, qc, qd, qe, List.length_map] at h9
       refine Qk rfl (Qh rfl rfl (Qk rfl (QU (ds0 := [9, 8, 7, 6, 5, 4, 3, 2, 1, 0]) rfl rfl rfl rfl rfl (Qk rfl (Qa rfl (Qk rfl (XI rfl rfl (Qo rfl rfl (Qa rfl ?_)))))))))
       refine QE (g := 78) rfl (fun h10 => ?_) (fun h10 => ?_)
       ·try rw [h10]
        try simp only [qa, qb, qc, qd, qe, List.length_map] at h10
        refine Qk rfl (Qh rfl rfl (Qk rfl (QU (ds0 := [2, 1, 0]) rfl rfl rfl rfl rfl (Qk rfl (Qa rfl (Qk rfl (QW (ds0 := [2, 1, 0]) (Yf hl) rfl rfl (.inr rfl) rfl rfl (Qk rfl (ZK rfl rfl (Qo rfl rfl (Qa rfl ?_)))))))))))
        refine hK _ _ (Qb (kp1 rfl) ?_)
        refine Qu (Qs rfl ?_)
        first | (rw [Xp (by omega)]; done) | (rw [Ya (by omega) (by omega) (by omega)]; simp_all; done) | (rw [Ya (by omega) (by omega) (by omega)]; simp_all; omega)
       ·try rw [h10]
        try simp only [qa, qb, qc, qd, qe, List.length_map] at h10
        refine Qt rfl (Qt rfl (Qt rfl (Qt rfl (Qt rfl (Qo rfl rfl (Qa rfl ?_))))))
        refine hK _ _ (Qb (kp1 rfl) ?_)
        refine Qu (Qs rfl ?_)
        first | (rw [Xp (by omega)]; done) | (rw [Ya (by omega) (by omega) (by omega)]; simp_all; done) | (rw [Ya (by omega) (by omega) (by omega)]; simp_all; omega)
      ·try rw [h9]
       try simp only [qa, qb, qc, qd, qe, List.length_map] at h9
       refine Qt rfl (Qt rfl (Qt rfl (Qt rfl (Qo rfl rfl (Qa rfl (Qt rfl (Qt rfl (Qt rfl (Qt rfl (Qt rfl (Qo rfl rfl ?_)))))))))))
       refine Qa rfl ?_
       refine hK _ _ (Qb (kp1 rfl) ?_)
       refine Qu (Qs rfl ?_)
       first | (rw [Xp (by omega)]; done) | (rw [Ya (by omega) (by omega) (by omega)]; simp_all; done) | (rw [Ya (by omega) (by omega) (by omega)]; simp_all; omega)
     ·try rw [h8]
      try simp only [qa, qb, qc, qd, qe, List.length_map] at h8
      refine Qt rfl (Qt rfl (Qt rfl (Qt rfl (Qt rfl (Qt rfl (Qt rfl (Qo rfl rfl (Qa rfl (Qt rfl (Qt rfl (Qt rfl ?_)))))))))))
      refine Qt rfl (Qo rfl rfl (Qa rfl (Qt rfl (Qt rfl (Qt rfl (Qt rfl (Qt rfl (Qo rfl rfl (Qa rfl ?_)))))))))
      refine hK _ _ (Qb (kp1 rfl) ?_)
      refine Qu (Qs rfl ?_)
      first | (rw [Xp (by omega)]; done) | (rw [Ya (by omega) (by omega) (by omega)]; simp_all; done) | (rw [Ya (by omega) (by omega) (by omega)]; simp_all; omega)
theorem QbG {w : Qq} (hw : WSm w) {l : List StepT} (hl : l.length <= 10000000) {t : TermT} {c : Int} : Ok Tryz.prog 44 [Z2 w, Zy l, .agg (Qc3 t), .int .i64 c] (dOS (Yl w l t c)) := by
 refine Ok.ofT ZT Tryz.func44 QrS (Nat.le_of_ble_eq_true rfl) ?_
 show TW _ _ tf44.body _ _
 refine Qf fun K hK => Zw rfl rfl rfl (Zw rfl rfl rfl (Qa rfl (Qa rfl ?_)))
 refine hK _ _ (Qb (kp4 rfl rfl rfl rfl) ?_)
 refine QA ?_ -- 0
 refine Qf fun K hK => Qa rfl (Z6 rfl rfl (Qa rfl ?_))
 refine QE (g := 14) rfl (fun h1 => ?_) (fun h1 => ?_)
 ·try rw [h1]
  try simp only [qa, qb, qc, qd, qe, List.length_map] at h1
  refine Qt rfl (Qt rfl (Qt rfl (Qo rfl rfl (Qa rfl (Qt rfl (Qt rfl (Qt rfl (Qt rfl (Qt rfl (Qt rfl (Qo rfl rfl ?_)))))))))))
  refine hK _ _ (Qb (kp5 rfl rfl rfl rfl rfl) ?_)
  refine Zu rfl (Qf fun K hK => Qa rfl (Qa rfl ?_))
  refine hK _ _ (Qb (kp2 rfl rfl) ?_)
  refine Qu (Qj ?_)
  rw [Qcl (by omega)]
  exact QT rfl rfl ⟨rfl, rfl⟩
 ·try rw [h1]
  try simp only [qa, qb, qc, qd, qe, List.length_map] at h1
  refine Qk rfl (Qh rfl rfl (Qk rfl (QC rfl rfl rfl (Qk rfl (Z6 rfl rfl (Qo rfl rfl (Qa rfl ?_)))))))
  refine QE (g := 19) rfl (fun h2 => ?_) (fun h2 => ?_)
  ·try rw [h2]
   try simp only [qa, qb, qc, qd, qe, List.length_map] at h2
   refine Qt rfl (Qt rfl (Qt rfl (Qt rfl (Qt rfl (Qt rfl (Qo rfl rfl ?_))))))
   refine hK _ _ (Qb (kp5 rfl rfl rfl rfl rfl) ?_)
   refine Zu rfl (Qf fun K hK => Qa rfl (Qa rfl ?_))
   refine hK _ _ (Qb (kp2 rfl rfl) ?_)
   refine Qu (Qj ?_)
   rw [Qcl (by omega)]
   exact QT rfl rfl ⟨rfl, rfl⟩
  ·try rw [h2]
   try simp only [qa, qb, qc, qd, qe, List.length_map] at h2
   refine Qk rfl (Qh rfl rfl (Qk rfl (QC rfl rfl rfl (Qk rfl (Qh rfl rfl (Qk rfl (QC rfl rfl rfl (Qk rfl ?_))))))))
   first | refine QQ rfl QS ?_ | refine QQ rfl rfl ?_
   refine Qk rfl (QeU rfl rfl (Qo rfl rfl ?_))
   refine hK _ _ (Qb (kp5 rfl rfl rfl rfl rfl) ?_)
   refine Qw rfl (fun h3 => ?_) (fun h3 => ?_)
   ·try rw [h3]
    try simp only [qa, qb, qc, qd, qe, List.length_map] at h3
    refine Qf fun K hK => Qa rfl (Qa rfl ?_)
    refine hK _ _ (Qb (kp2 rfl rfl) ?_)
    refine Qu (Qj ?_)
    rw [Qcl (by omega)]
    exact QT rfl rfl ⟨rfl, rfl⟩
   ·try rw [h3]
    try simp only [qa, qb, qc, qd, qe, List.length_map] at h3
    refine Qv (Qd (kp4 rfl rfl rfl rfl) (Qf fun K hK => QH (cs := [_]) rfl rfl rfl rfl (Qa rfl (Qh rfl rfl (QC rfl rfl rfl (QI (Z1 hw hl) rfl rfl (.inr rfl) (Qa rfl ?_)))))))
    refine hK _ _ (Qb (kp4 rfl rfl rfl rfl) ?_)
    refine Qf fun K hK => Qh rfl rfl (QU (ds0 := [2, 0]) rfl rfl rfl rfl rfl (Qa rfl (Qa rfl (Qh rfl rfl (QU (ds0 := [7, 6, 2, 0]) rfl rfl rfl rfl rfl (QeM rfl rfl (QaE rfl rfl rfl (Qa rfl (QW (ds0 := [2, 0]) (Yf hl) rfl rfl (.inr rfl) rfl rfl (Qa rfl ?_))))))))))
    refine QV rfl rfl (ZF rfl (Y2 (ds0 := []) rfl rfl rfl rfl rfl rfl rfl rfl rfl rfl ?_))
    refine hK _ _ (Qb (kp3 rfl rfl rfl) ?_)
    refine QA ?_ -- 1
    refine Qf fun K hK => Qh rfl rfl (QC rfl rfl rfl (ZK rfl rfl (Qa rfl ?_)))
    refine QE (g := 47) rfl (fun h4 => ?_) (fun h4 => ?_)
    ·try rw [h4]
     try simp only [qa, qb, qc, qd, qe, List.length_map] at h4
     refine Qt rfl (Qt rfl (Qt rfl (Qt rfl (Qo rfl rfl ?_))))
     refine hK _ _ (Qb (kp3 rfl rfl rfl) ?_)
     refine Zu rfl (Qf fun K hK => Qa rfl (Qa rfl ?_))
     refine hK _ _ (Qb (kp2 rfl rfl) ?_)
     refine Qu (Qj ?_)
     rw [Qba (by first | exact .inl h4 | exact .inr h5)]
     exact QT rfl rfl ⟨rfl, rfl⟩
    ·try rw [h4]
     try simp only [qa, qb, qc, qd, qe, List.length_map] at h4
     refine Qk rfl (Qh rfl rfl (Qk rfl (QC rfl rfl rfl (Qk rfl (Qa rfl (Qk rfl (ZK rfl rfl (Qo rfl rfl ?_))))))))
     refine hK _ _ (Qb (kp3 rfl rfl rfl) ?_)
     refine Qw rfl (fun h5 => ?_) (fun h5 => ?_)
     ·try rw [h5]
      try simp only [qa, qb, qc, qd, qe, List.length_map] at h5
      refine Qf fun K hK => Qa rfl (Qa rfl ?_)
      refine hK _ _ (Qb (kp2 rfl rfl) ?_)
      refine Qu (Qj ?_)
      rw [Qba (by first | exact .inl h4 | exact .inr h5)]
      exact QT rfl rfl ⟨rfl, rfl⟩
     ·try rw [h5]
      try simp only [qa, qb, qc, qd, qe, List.length_map] at h5
      refine Qv (Qd (kp2 rfl rfl) (Qf fun K hK => Qa rfl (Qd3 (ds0 := [2, 1]) rfl rfl (fun _ h => ⟨QjK, h⟩) rfl (.inl rfl) (by simp) (by simp; omega) (by simp; omega) rfl rfl (QN (ds0 := [3, 2, 1]) (cs := [_, _, _, _]) rfl rfl rfl rfl rfl rfl (QB rfl rfl (Qa3 (ds0 := [1]) rfl rfl (by simp [D.ids, D.sid]) ⟨_, rfl, rfl, rfl, rfl, rfl⟩ rfl rfl (by simp) rfl rfl (by simp; omega) (by simp; omega) rfl rfl (Qa rfl (Qa rfl ?_))))))))
      refine hK _ _ (Qb (kp2 rfl rfl) ?_)
      refine Qu ?_
      rw [Qgw (by omega) (QfE (by omega) (by omega)) h4 h5]
      exact QfZ rfl rfl rfl (by simp) (by simp [Zy, Qfp]) rfl rfl
theorem QbF {w : Qq} (hw : WSm w) {l : List StepT} (hl : l.length <= 10000000) {u p : Int} : Ok Tryz.prog 40 [Z2 w, Zy l, .int .i64 u, .int .i64 p] (dOS (Xl w l u p)) := by
 refine Ok.ofT ZT Tryz.func40 QrO (Nat.le_of_ble_eq_true rfl) ?_
 show TW _ _ tf40.body _ _
 refine Qf fun K hK => Zw rfl rfl rfl (Qa rfl (Qa rfl ?_))
 refine hK _ _ (Qb (kp4 rfl rfl rfl rfl) ?_)
 refine QA ?_ -- 0
 refine Qf fun K hK => Qa rfl (Z6 rfl rfl (Qa rfl ?_))
 refine QE (g := 13) rfl (fun h1 => ?_) (fun h1 => ?_)
 ·try rw [h1]
  try simp only [qa, qb, qc, qd, qe, List.length_map] at h1
  refine Qt rfl (Qt rfl (Qt rfl (Qt rfl (Qt rfl (Qo rfl rfl (Qa rfl (Qt rfl (Qt rfl (Qo rfl rfl (Qa rfl (Qt rfl ?_)))))))))))
  refine Qt rfl (Qt rfl (Qt rfl (Qt rfl (Qt rfl (Qt rfl (Qt rfl (Qt rfl (Qo rfl rfl ?_))))))))
  refine hK _ _ (Qb (kp5 rfl rfl rfl rfl rfl) ?_)
  refine Zu rfl (Qf fun K hK => Qa rfl (Qa rfl ?_))
  refine hK _ _ (Qb (kp2 rfl rfl) ?_)
  refine Qu (Qj ?_)
  rw [Qec (by omega)]
  exact QT rfl rfl ⟨rfl, rfl⟩
 ·try rw [h1]
  try simp only [qa, qb, qc, qd, qe, List.length_map] at h1
  refine Qk rfl (Qa rfl (Qk rfl (Qh rfl rfl (Qk rfl (QC rfl rfl rfl (Qk rfl ?_))))))
  first | refine QQ rfl QS ?_ | refine QQ rfl rfl ?_
  refine Qk rfl (QeU rfl rfl (Qo rfl rfl (Qa rfl ?_)))
  refine QE (g := 20) rfl (fun h2 => ?_) (fun h2 => ?_)
  ·try rw [h2]
   try simp only [qa, qb, qc, qd, qe, List.length_map] at h2
   refine Qt rfl (Qt rfl (Qo rfl rfl (Qa rfl (Qt rfl (Qt rfl (Qt rfl (Qt rfl (Qt rfl (Qt rfl (Qt rfl (Qt rfl ?_)))))))))))
   refine Qt rfl (Qo rfl rfl ?_)
   refine hK _ _ (Qb (kp5 rfl rfl rfl rfl rfl) ?_)
   refine Zu rfl (Qf fun K hK => Qa rfl (Qa rfl ?_))
   refine hK _ _ (Qb (kp2 rfl rfl) ?_)
   refine Qu (Qj ?_)
   rw [Qec (by omega)]
   exact QT rfl rfl ⟨rfl, rfl⟩
  ·try rw [h2]
   try simp only [qa, qb, qc, qd, qe, List.length_map] at h2
   refine Qk rfl (Qa rfl (Qk rfl (Z6 rfl rfl (Qo rfl rfl (Qa rfl ?_)))))
   refine QE (g := 24) rfl (fun h3 => ?_) (fun h3 => ?_)
   ·try rw [h3]
    try simp only [qa, qb, qc, qd, qe, List.length_map] at h3
    refine Qt rfl (Qt rfl (Qt rfl (Qt rfl (Qt rfl (Qt rfl (Qt rfl (Qt rfl (Qt rfl (Qo rfl rfl ?_)))))))))
    refine hK _ _ (Qb (kp5 rfl rfl rfl rfl rfl) ?_)
    refine Zu rfl (Qf fun K hK => Qa rfl (Qa rfl ?_))
    refine hK _ _ (Qb (kp2 rfl rfl) ?_)
    refine Qu (Qj ?_)
    rw [Qec (by omega)]
    exact QT rfl rfl ⟨rfl, rfl⟩
   ·try rw [h3]
    try simp only [qa, qb, qc, qd, qe, List.length_map] at h3
    refine Qk rfl (Qa rfl (Qk rfl (Qh rfl rfl (Qk rfl (QC rfl rfl rfl (Qk rfl (Qa rfl (Qk rfl (QJ rfl rfl rfl (by omega) (ZB (by omega) (by omega)) rfl (Qk rfl (Q8 rfl rfl ?_)))))))))))
    refine Qk rfl (QC rfl rfl rfl (Qk rfl ?_))
    first | refine QQ rfl QS ?_ | refine QQ rfl rfl ?_
    refine Qk rfl (QeU rfl rfl (Qo rfl rfl ?_))
    refine hK _ _ (Qb (kp5 rfl rfl rfl rfl rfl) ?_)
    refine Qw rfl (fun h4 => ?_) (fun h4 => ?_)
    ·try rw [h4]
     try simp only [qa, qb, qc, qd, qe, List.length_map] at h4
     refine Qf fun K hK => Qa rfl (Qa rfl ?_)
     refine hK _ _ (Qb (kp2 rfl rfl) ?_)
     refine Qu (Qj ?_)
     rw [Qk2 (by omega) (by omega) (by omega)]
     exact QT rfl rfl ⟨rfl, rfl⟩
    ·try rw [h4]
     try simp only [qa, qb, qc, qd, qe, List.length_map] at h4
     refine Qv (Qd (kp4 rfl rfl rfl rfl) (Qf fun K hK => Qa rfl (Qa rfl (Qh2 rfl (Qfb (by omega) (by have := hw.cs _ (List.getElem_mem (show u.toNat < w.length by omega)); omega)) (QoW rfl rfl (by omega) rfl (Qa rfl (QI (Yf hl) rfl rfl (.inr rfl) (Q1 rfl rfl rfl (QV rfl rfl (ZF rfl ?_))))))))))
     refine Q6 rfl rfl rfl rfl rfl rfl rfl rfl ?_
     refine hK _ _ (Qb (kp3 rfl rfl rfl) ?_)
     refine QA ?_ -- 1
     refine Qf fun K hK => QH (cs := [_]) rfl rfl rfl rfl (Qa rfl (QH (cs := [_, _, _, _]) rfl rfl rfl rfl (QI (QcL (s := Qpe l u p) hw hl) rfl rfl (.inr rfl) (Yd rfl ?_))))
     refine hK _ _ (Qb (kp3 rfl rfl rfl) ?_)
     refine Qw rfl (fun h5 => ?_) (fun h5 => ?_)
     ·try rw [h5]
      try simp only [qa, qb, qc, qd, qe, List.length_map] at h5
      refine Qf fun K hK => Qa rfl (Qa rfl ?_)
      refine hK _ _ (Qb (kp2 rfl rfl) ?_)
      refine Qu (Qj ?_)
      rw [QlN h5]
      exact QT rfl rfl ⟨rfl, rfl⟩
     ·try rw [h5]
      try simp only [qa, qb, qc, qd, qe, List.length_map] at h5
      refine Qv (Qd (kp2 rfl rfl) (Qf fun K hK => Qa rfl (Qd3 (ds0 := [2, 1]) rfl rfl (fun _ h => ⟨QjK, h⟩) rfl (.inl rfl) (by simp) (by simp; omega) (by simp; omega) rfl rfl (QN (ds0 := [3, 2, 1]) (cs := [_, _, _, _]) rfl rfl rfl rfl rfl rfl (QB rfl rfl (Qa3 (ds0 := [1]) rfl rfl (by simp [D.ids, D.sid]) ⟨_, rfl, rfl, rfl, rfl, rfl⟩ rfl rfl (by simp) rfl rfl (by simp; omega) (by simp; omega) rfl rfl (Qa rfl (Qa rfl ?_))))))))
      refine hK _ _ (Qb (kp2 rfl rfl) ?_)
      refine Qu ?_
      rw [Qk5 (by omega) (by omega) (by omega) (by omega) h5]
      exact QfZ rfl rfl rfl (by simp) (by simp [Zy, Qfp, Qpe]; rfl) rfl rfl
theorem QcJ {w : Qq} (hw : WSm w) {l : List StepT} (hl : l.length <= 10000000) {inc : List TermT} (hi : inc.length <= 1000000) : Ok Tryz.prog 45 [Z2 w, Zy l, Zt inc] (.bool (QfT w l inc)) := by
 refine Ok.ofT ZT Tryz.func45 QrT (Nat.le_of_ble_eq_true rfl) ?_
 show TW _ _ tf45.body _ _
 refine Qf fun K hK => Zw rfl rfl rfl (Qa rfl ?_)
 refine hK _ _ (Qb (kp3 rfl rfl rfl) ?_)
 refine QA ?_ -- 0
 refine Qf fun K hK => Qa rfl ?_
 refine hK _ _ (Qb (kp4 rfl rfl rfl rfl) ?_)
 refine Qy ?_
 refine Zj (ι := Nat) (fun i => ⟨[(1, Zy l), (2, Zt inc), (3, .ref 3 0 0), (7, .int .i64 i)], [(3, ⟨[[.sl ((w).map Yq)]], 1, 26, true⟩)]⟩) (fun i => i <= inc.length /\ (inc.take i).all (fun t => decide (ZS (Zi w l t.u) t.m = 2)) = true) (fun i => inc.length - i) 0 ?_ ?_ ?_
 ·exact Q3 (l := [1, 2, 3, 7]) (lH := [3]) (kp4 rfl rfl rfl rfl) (Qe rfl Ql) rfl rfl rfl
 ·exact ⟨Nat.zero_le _, by simp⟩
 intro i hI
 try dsimp only
 refine QA ?_ -- 1
 refine Qf fun K hK => Qa rfl (Qa rfl ?_)
 first | refine QQ rfl QS ?_ | refine QQ rfl rfl ?_
 refine Z6 rfl rfl ?_
 refine hK _ _ (Qb (kp5 rfl rfl rfl rfl rfl) ?_)
 refine Qw rfl (fun h1 => ?_) (fun h1 => ?_)
 ·try rw [h1]
  try simp only [qa, qb, qc, qd, qe, List.length_map] at h1
  refine Qv (Qd (kp4 rfl rfl rfl rfl) ?_)
  refine QA ?_ -- 2
  refine Qy (Qf fun K hK => QN (ds0 := [7, 1, 0]) (cs := [_]) rfl rfl rfl rfl rfl rfl (Qa rfl (Qa rfl (Qa rfl (QJ rfl rfl rfl (by omega) (QR (by omega)) rfl (Q8 rfl rfl (QU (ds0 := [7, 1, 0]) rfl rfl rfl rfl rfl (QW (ds0 := [1, 0]) (Z1 hw hl) rfl rfl (.inr rfl) rfl rfl (Qa rfl (Qa rfl ?_))))))))))
  refine QJ rfl rfl rfl (by omega) (QR (by omega)) rfl (Q8 rfl rfl (QU (ds0 := [1, 0]) rfl rfl rfl rfl rfl (QW (ds0 := [0]) (XL) rfl rfl (.inr rfl) rfl rfl (XI rfl rfl ?_))))
  refine hK _ _ (Qb (kp5 rfl rfl rfl rfl rfl) ?_)
  refine Qw rfl (fun h2 => ?_) (fun h2 => ?_)
  ·try rw [h2]
   try simp only [qa, qb, qc, qd, qe, List.length_map] at h2
   refine Qf fun K hK => Qa rfl ?_
   refine hK _ _ (Qb (kp1 rfl) ?_)
   refine Qu (Qr (Qj (Q0 (Qr (Qj (Qs rfl ?_))))))
   rw [QfT, XJ (i := i) (by omega) (by simpa using h2)]
  ·try rw [h2]
   try simp only [qa, qb, qc, qd, qe, List.length_map] at h2
   refine Qv (Qg (Qd (kp4 rfl rfl rfl rfl) (QL fun K hK => Qa rfl (Q1 rfl rfl (by first | exact Qp (by omega) (by omega) | rfl) (Qa rfl (hK _ ?_))))))
   refine Qi (i + 1) ?_ ?_ ?_
   ·exact Q3 (l := [1, 2, 3, 7]) (lH := [3]) (kp4 rfl rfl rfl rfl) (Qe rfl Ql) rfl rfl rfl
   ·exact ⟨by omega, Yb (by omega) hI.2 (by simpa using h2)⟩
   ·first | omega | (simp only; omega) | (dsimp only; omega)
 ·try rw [h1]
  try simp only [qa, qb, qc, qd, qe, List.length_map] at h1
  refine Zg (QK (Qx (QD (Qd (Q5) (Qf fun K hK => Qa rfl ?_)))))
  refine hK _ _ (Qb (kp1 rfl) ?_)
  refine Qu (Qs rfl ?_)
  rw [QfT, Xy (i := i) (by omega) hI.2]
theorem QcK {w : Qq} (hw : WSm w) {l : List StepT} (hl : l.length <= 10000000) {inc : List TermT} (hi : inc.length <= 1000000) : Ok Tryz.prog 46 [Z2 w, Zy l, Zt inc] (.int .i64 (QeR w l inc)) := by
 refine Ok.ofT ZT Tryz.func46 QrU (Nat.le_of_ble_eq_true rfl) ?_
 show TW _ _ tf46.body _ _
 refine Qf fun K hK => Zw rfl rfl rfl (Qa rfl ?_)
 refine hK _ _ (Qb (kp3 rfl rfl rfl) ?_)
 refine Qf fun K hK => Qa rfl ?_
 refine hK _ _ (Qb (kp4 rfl rfl rfl rfl) ?_)
 refine QA ?_ -- 0
 refine Qf fun K hK => Qa rfl ?_
 refine hK _ _ (Qb (kp5 rfl rfl rfl rfl rfl) ?_)
 refine Qy ?_
 refine Zj (ι := Nat × Int) (fun ⟨i, a⟩ => ⟨[(1, Zy l), (2, Zt inc), (3, .ref 3 0 0), (7, .int .i64 a), (8, .int .i64 i)], [(3, ⟨[[.sl ((w).map Yq)]], 1, 26, true⟩)]⟩) (fun ⟨i, a⟩ => i <= inc.length /\ ZO (Zi w l) inc (-1) = ZO (Zi w l) (inc.drop i) a) (fun ⟨i, a⟩ => inc.length - i) (0, -1) ?_ ?_ ?_
 ·exact Q3 (l := [1, 2, 3, 7, 8]) (lH := [3]) (kp5 rfl rfl rfl rfl rfl) (Qe rfl Ql) rfl rfl rfl
 ·exact ⟨Nat.zero_le _, by simp⟩
 intro ⟨i, a⟩ hI
 dsimp only at hI
 try dsimp only
 refine QA ?_ -- 1
 refine Qf fun K hK => Qa rfl (Qa rfl ?_)
 first | refine QQ rfl QS ?_ | refine QQ rfl rfl ?_
 refine Z6 rfl rfl ?_
 refine hK _ _ (Qb (kp6 rfl rfl rfl rfl rfl rfl) ?_)
 refine Qw rfl (fun h1 => ?_) (fun h1 => ?_)
 ·try rw [h1]
  try simp only [qa, qb, qc, qd, qe, List.length_map] at h1
  refine Qv (Qd (kp5 rfl rfl rfl rfl rfl) ?_)
  refine QA ?_ -- 2
  refine Qy (Qf fun K hK => QN (ds0 := [6, 0]) (cs := [_]) rfl rfl rfl rfl rfl rfl (Qa rfl (Qa rfl (Qa rfl (QJ rfl rfl rfl (by omega) (QR (by omega)) rfl (Q8 rfl rfl (QU (ds0 := [6, 0]) rfl rfl rfl rfl rfl (QW (ds0 := [0]) (Z1 hw hl) rfl rfl (.inr rfl) rfl rfl (Qa rfl (Qa rfl ?_))))))))))
  refine QJ rfl rfl rfl (by omega) (QR (by omega)) rfl (Q8 rfl rfl (QU (ds0 := [0]) rfl rfl rfl rfl rfl (QW (ds0 := []) (XL) rfl rfl (.inr rfl) rfl rfl ?_)))
  refine hK _ _ (Qb (kp6 rfl rfl rfl rfl rfl rfl) ?_)
  refine Qy (Qf fun K hK => ZK rfl rfl (Qa rfl ?_))
  refine hK _ _ (Qb (kp7 rfl rfl rfl rfl rfl rfl rfl) ?_)
  refine Qw rfl (fun h2 => ?_) (fun h2 => ?_)
  ·try rw [h2]
   try simp only [qa, qb, qc, qd, qe, List.length_map] at h2
   refine Qf fun K hK => Qa rfl ?_
   refine hK _ _ (Qb (kp1 rfl) ?_)
   refine Qu (Qr (Qr (Qj (Q0 (Qr (Qj (QG rfl ?_)))))))
   rw [QeR, hI.2, Qbo (by omega), if_pos h2]
  ·try rw [h2]
   try simp only [qa, qb, qc, qd, qe, List.length_map] at h2
   refine Qf fun K hK => ZK rfl rfl (Qa rfl ?_)
   refine hK _ _ (Qb (kp6 rfl rfl rfl rfl rfl rfl) ?_)
   refine Qw rfl (fun h3 => ?_) (fun h3 => ?_)
   ·try rw [h3]
    try simp only [qa, qb, qc, qd, qe, List.length_map] at h3
    refine QA ?_ -- 3
    refine Qf fun K hK => Qa rfl (QeU rfl rfl ?_)
    refine hK _ _ (Qb (kp5 rfl rfl rfl rfl rfl) ?_)
    refine Qw rfl (fun h4 => ?_) (fun h4 => ?_)
    ·try rw [h4]
     try simp only [qa, qb, qc, qd, qe, List.length_map] at h4
     refine Qf fun K hK => Qa rfl ?_
     refine hK _ _ (Qb (kp1 rfl) ?_)
     refine Qu (Qj (Qr (Qr (Qj (Q0 (Qr (Qj (QG rfl ?_))))))))
     rw [QeR, hI.2, Qbo (by omega), if_neg h2, if_pos h3, if_pos h4]
    ·try rw [h4]
     try simp only [qa, qb, qc, qd, qe, List.length_map] at h4
     refine Qv (Qd (kp4 rfl rfl rfl rfl) (QL fun K hK => Qa rfl (Qa rfl (QJ rfl rfl rfl (by omega) (QR (by omega)) rfl (Q8 rfl rfl (QC rfl rfl rfl (Qa rfl (hK _ ?_))))))))
     refine Qg (Qg (Qd (kp5 rfl rfl rfl rfl rfl) (QL fun K hK => Qa rfl (Q1 rfl rfl (by first | exact Qp (by omega) (by omega) | rfl) (Qa rfl (hK _ ?_))))))
     refine Qi (i + 1, (inc[i]'(by omega)).u) ?_ ?_ ?_
     ·exact Q3 (l := [1, 2, 3, 7, 8]) (lH := [3]) (kp5 rfl rfl rfl rfl rfl) (Qe rfl Ql) rfl rfl rfl
     ·exact ⟨by omega, by rw [hI.2, Qbo (by omega), if_neg h2, if_pos h3, if_neg h4]⟩
     ·show inc.length - (i + 1) < inc.length - i; omega
   ·try rw [h3]
    try simp only [qa, qb, qc, qd, qe, List.length_map] at h3
    refine Qv (Qg (Qg (Qd (kp5 rfl rfl rfl rfl rfl) (QL fun K hK => Qa rfl (Q1 rfl rfl (by first | exact Qp (by omega) (by omega) | rfl) (Qa rfl (hK _ ?_)))))))
    refine Qi (i + 1, a) ?_ ?_ ?_
    ·exact Q3 (l := [1, 2, 3, 7, 8]) (lH := [3]) (kp5 rfl rfl rfl rfl rfl) (Qe rfl Ql) rfl rfl rfl
    ·exact ⟨by omega, by rw [hI.2, Qbo (by omega), if_neg h2, if_neg h3]⟩
    ·show inc.length - (i + 1) < inc.length - i; omega
 ·try rw [h1]
  try simp only [qa, qb, qc, qd, qe, List.length_map] at h1
  refine Zg (QK (Qx (QD (Qd (kp1 rfl) (Qf fun K hK => Qa rfl (Qa rfl ?_))))))
  refine hK _ _ (Qb (kp1 rfl) ?_)
  refine Qu (QG rfl ?_)
  rw [QeR, hI.2, QiM (by omega)]
theorem XR {w : Qq} (hw : WSm w) {db : List (List TermT)} (hd : db.length <= 100000000) (hi : ∀ x ∈ db, x.length <= 1000000) {l : List StepT} (hl : l.length <= 10000000) : Ok Tryz.prog 17 [Z2 w, dDb db, Zy l] (.tup [.int .i64 (ZM w db l).1, .int .i64 (ZM w db l).2]) := by
 refine Ok.ofT ZT Tryz.func17 Qrx (Nat.le_of_ble_eq_true rfl) ?_
 show TW _ _ tf17.body _ _
 refine Qf fun K hK => Zw rfl rfl rfl (Qa rfl (Qa rfl ?_))
 refine hK _ _ (Qb (kp3 rfl rfl rfl) ?_)
 refine QA ?_ -- 0
 refine Qf fun K hK => Qa rfl ?_
 refine hK _ _ (Qb (kp4 rfl rfl rfl rfl) ?_)
 refine Qy ?_
 refine Zj (ι := Nat) (fun i => ⟨[(1, dDb db), (2, Zy l), (3, .ref 3 0 0), (8, .int .i64 i)], [(3, ⟨[[.sl ((w).map Yq)]], 1, 26, true⟩)]⟩) (fun i => i <= db.length /\ ZM w db l = YG w l i (db.drop i)) (fun i => db.length - i) 0 ?_ ?_ ?_
 ·exact Q3 (l := [1, 2, 3, 8]) (lH := [3]) (kp4 rfl rfl rfl rfl) (Qe rfl Ql) rfl rfl rfl
 ·exact ⟨Nat.zero_le _, rfl⟩
 intro i hI
 try dsimp only
 refine QA ?_ -- 1
 refine Qf fun K hK => Qa rfl (Qa rfl ?_)
 first | refine QQ rfl QS ?_ | refine QQ rfl rfl ?_
 refine Z6 rfl rfl ?_
 refine hK _ _ (Qb (kp5 rfl rfl rfl rfl rfl) ?_)
 refine Qw rfl (fun h1 => ?_) (fun h1 => ?_)
 ·try rw [h1]
  try simp only [qa, qb, qc, qd, qe, List.length_map] at h1
  refine Qv (Qd (kp4 rfl rfl rfl rfl) ?_)
  refine QA ?_ -- 2
  refine Qy ?_
  refine QA ?_ -- 3
  refine Qf fun K hK => QN (ds0 := [0]) (cs := [_]) rfl rfl rfl rfl rfl rfl (Qa rfl (Qa rfl (Qa rfl (QJ rfl rfl rfl (by omega) (QR (by omega)) rfl (QU (ds0 := [0]) rfl rfl rfl rfl rfl (QW (ds0 := []) (QcJ hw hl (hi _ (List.getElem_mem (by omega)))) rfl rfl (.inr rfl) rfl rfl ?_))))))
  refine hK _ _ (Qb (kp5 rfl rfl rfl rfl rfl) ?_)
  refine Qw rfl (fun h2 => ?_) (fun h2 => ?_)
  ·try rw [h2]
   try simp only [qa, qb, qc, qd, qe, List.length_map] at h2
   refine Qf fun K hK => Qa rfl (Qa rfl (Qa rfl ?_))
   refine hK _ _ (Qb (kp2 rfl rfl) ?_)
   refine Qu (Qj (Qr (Qj (Q0 (Qr (Qj ?_))))))
   rw [hI.2, QjM (by omega), if_pos h2]
   exact QT rfl rfl ⟨rfl, rfl⟩
  ·try rw [h2]
   try simp only [qa, qb, qc, qd, qe, List.length_map] at h2
   refine Qv (Qd (kp4 rfl rfl rfl rfl) (Qf fun K hK => QN (ds0 := [1, 0]) (cs := [_]) rfl rfl rfl rfl rfl rfl (Qa rfl (Qa rfl (Qa rfl (QJ rfl rfl rfl (by omega) (QR (by omega)) rfl (QU (ds0 := [1, 0]) rfl rfl rfl rfl rfl (QW (ds0 := [0]) (QcK hw hl (hi _ (List.getElem_mem (by omega)))) rfl rfl (.inr rfl) rfl rfl (Qa rfl ?_)))))))))
   refine hK _ _ (Qb (kp5 rfl rfl rfl rfl rfl) ?_)
   refine Qf fun K hK => Qa rfl (QeU rfl rfl ?_)
   refine hK _ _ (Qb (kp6 rfl rfl rfl rfl rfl rfl) ?_)
   refine Qw rfl (fun h3 => ?_) (fun h3 => ?_)
   ·try rw [h3]
    try simp only [qa, qb, qc, qd, qe, List.length_map] at h3
    refine Qf fun K hK => Qa rfl (Qa rfl (Qa rfl (Qa rfl ?_)))
    refine hK _ _ (Qb (kp2 rfl rfl) ?_)
    refine Qu (Qr (Qj (Q0 (Qr (Qj ?_)))))
    rw [hI.2, QjM (by omega), if_neg (by rw [h2]; simp), if_pos h3]
    exact QT rfl rfl ⟨rfl, rfl⟩
   ·try rw [h3]
    try simp only [qa, qb, qc, qd, qe, List.length_map] at h3
    refine Qv (Qg (Qd (kp4 rfl rfl rfl rfl) (QL fun K hK => Qa rfl (Q1 rfl rfl (by first | exact Qp (by omega) (by omega) | rfl) (Qa rfl (hK _ ?_))))))
    refine Qi (i + 1) ?_ ?_ ?_
    ·exact Q3 (l := [1, 2, 3, 8]) (lH := [3]) (kp4 rfl rfl rfl rfl) (Qe rfl Ql) rfl rfl rfl
    ·exact ⟨by omega, by rw [hI.2, QjM (by omega), if_neg (by rw [h2]; simp), if_neg h3]⟩
    ·first | omega | (simp only; omega) | (dsimp only; omega)
 ·try rw [h1]
  try simp only [qa, qb, qc, qd, qe, List.length_map] at h1
  refine Zg (QK (Qx (QD (Qd (Q5) (Qf fun K hK => Qa rfl (Qa rfl ?_))))))
  refine hK _ _ (Qb (kp2 rfl rfl) ?_)
  refine Qu ?_
  rw [hI.2, Qn7 (by omega)]
  exact QT rfl rfl ⟨rfl, rfl⟩
end Go.Proofs
namespace M25
open Go Go.Abs M3
def QlM (w : Qq) (i : Nat) : List (List TermT) := ((Qb5 w).take i).map RowT.t
theorem QbH {w : Qq} {i : Nat} (h : i < (Qb5 w).length) : QlM w (i + 1) = QlM w i ++ [(Qb5 w)[i].t] := by
 rw [QlM, List.take_succ_eq_append_getElem h, List.map_append]; rfl
theorem Qj9 {w : Qq} {i : Nat} (h : (Qb5 w).length <= i) : QlM w i = mDB w := by rw [QlM, List.take_of_length_le h]; rfl
theorem Qj8 (w : Qq) (i : Nat) : (QlM w i).length <= (Qb5 w).length := by rw [QlM, List.length_map]; exact List.length_take_le' ..
theorem QjZ {w : Qq} (hw : WSm w) (h0 : 0 < w.length) : (Qb5 w).length <= 1600000 := by
 have := (Qcf hw h0 w.length (Nat.le_refl _)).2
 have := hw.len
 rw [Qb5]; omega
def Qpg (w : Qq) (l : List Int) (j : Nat) : TermT := ⟨mPl (l.getD (2 * j) 0) w.length, 1 + mPl (l.getD (2 * j + 1) 0) (YY w (mPl (l.getD (2 * j) 0) w.length))⟩
def Qgl (w : Qq) (l : List Int) : Nat -> List TermT
 | 0 => []
 | j + 1 => Qgl w l j ++ [Qpg w l j]
theorem QbW (w : Qq) (l : List Int) : ∀ j, (Qgl w l j).length = j
 | 0 => rfl
 | j + 1 => by rw [Qgl, List.length_append, QbW w l j]; rfl
theorem Qp6 (w : Qq) (l : List Int) (j : Nat) : Qgl w l (j + 1) = Qgl w l j ++ [Qpg w l j] := rfl
def QnS (w : Qq) (l : List Int) : List TermT := (QcV w (Qgl w l (min 4 (l.length / 2)))).getD []
theorem Qpm (w : Qq) (l : List Int) : IncOk w (QnS w l) := by
 unfold QnS
 cases h : QcV w (Qgl w l (min 4 (l.length / 2))) with
 | none => exact IncOk.nil w
 | some t => exact QdJ h
theorem QlX {l : List Int} {k : Int} {j : Nat} (e : k.toNat = j) (h : j < l.length) : l[k.toNat]'(by omega) = l.getD j 0 := by
 subst e; rw [List.getD_eq_getElem?_getD, List.getElem?_eq_getElem h]; rfl
theorem QnH {w : Qq} {l : List Int} {j : Nat} (h : 2 * j + 1 < l.length) : Qpg w l j = ⟨mPl (l[(2 * (j : Int)).toNat]'(by omega)) w.length, 1 + mPl (l[(2 * (j : Int) + 1).toNat]'(by omega)) (YY w (mPl (l[(2 * (j : Int)).toNat]'(by omega)) w.length))⟩ := by
 rw [QlX (j := 2 * j) (by omega) (by omega), QlX (j := 2 * j + 1) (by omega) (by omega)]; rfl
theorem Qoh (v : Int) {n : Int} (h : n <= 131071) : IntKind.i64.wrap (1 + mPl v n) = 1 + mPl v n := by
 have h0 := QiH (v := v) (n := n)
 by_cases h1 : 1 <= n
 ·have := QiG (v := v) h1; exact Qp (by omega) (by omega)
 ·have : mPl v n = 0 := by rw [mPl, if_pos (by omega)]
  rw [this]; rfl
theorem QmP {w : Qq} {db : List (List TermT)} : ∀ (n : Nat) (out : List StepT), (Qdb w db n out).1.length <= out.length + n
 | 0, out => Nat.le_refl _
 | n + 1, out => by
  rw [Qdb]
  split
  ·simp
  ·refine Nat.le_trans (QmP n _) ?_
   have := Qgv w out ⟨(ZM w db out).2, Qc7 w (db.getD (ZM w db out).1.toNat []) (ZM w db out).2⟩ (ZM w db out).1
   omega
theorem Qnc {v : Int} (h : (v + 1).toNat <= 61) : IntKind.i64.wrap ((1 : Int) * 2 ^ min (v + 1).toNat IntKind.i64.bits) = 2 ^ (v + 1).toNat := by
 rw [show min (v + 1).toNat IntKind.i64.bits = (v + 1).toNat from by simp only [IntKind.bits]; omega, Int.one_mul]
 have := QhG (i := (v + 1).toNat) (by omega)
 exact Qp (by omega) (by omega)
theorem QmY {α : Type} {f : α -> List D} {l : List α} {k : Int} (h : k = (l.length : Int)) : ((l.map f).take k.toNat).drop (((0 : Nat) : Int)).toNat = l.map f := by
 subst h; rw [Int.toNat_natCast, List.take_of_length_le (by simp)]; rfl
end M25
namespace Go.Proofs
open Go Go.Abs M3 M25
set_option linter.unusedVariables false
set_option linter.unusedSimpArgs false
theorem Qac {w : Qq} (hw : WSm w) {db : List (List TermT)} (hd : db.length <= 100000000) (hi : ∀ x ∈ db, x.length <= 1000000) {l : List StepT} (hl : l.length <= 1000000) : Ok Tryz.prog 15 [Z2 w, dDb db, Zy l] (.tup [Zy (Qel w db l).1, .int .i64 (Qel w db l).2]) := by
 refine Ok.ofT ZT Tryz.func15 Qrv (Nat.le_of_ble_eq_true rfl) ?_
 show TW _ _ tf15.body _ _
 have hn := hw.len
 refine Qf fun K hK => Zw rfl rfl rfl (Qa rfl (Qa rfl ?_))
 refine hK _ _ (Qb (kp3 rfl rfl rfl) ?_)
 refine Qf fun K hK => Qa rfl (Qh1 rfl rfl (fun _ h => QgZ QjK h) rfl (.inl rfl) (by simp) (by simp; omega) (by simp; omega) (Qa rfl ?_))
 refine hK _ _ (Qb (kp3 rfl rfl rfl) ?_)
 refine QA ?_ -- 0
 refine Qf fun K hK => Qa rfl ?_
 refine hK _ _ (Qb (kp4 rfl rfl rfl rfl) ?_)
 refine Qy ?_
 refine Zj (ι := Nat × List StepT) (fun ⟨n, out⟩ => ⟨[(1, dDb db), (3, .ref 3 0 0), (8, Zy out), (9, .int .i64 n)], [(3, ⟨[[.sl ((w).map Yq)]], 1, 26, true⟩)]⟩) (fun ⟨n, out⟩ => n <= w.length * 18 + 1 /\ out.length <= l.length + n /\ Qel w db l = Qdb w db (w.length * 18 + 1 - n) out) (fun ⟨n, out⟩ => w.length * 18 + 1 - n) (0, l) ?_ ?_ ?_
 ·exact le_trans (QeH (l := [1, 3, 9]) (lH := [3]) 13 8 (kp3 rfl rfl rfl) (Qe rfl Ql) rfl rfl rfl (by simp) rfl rfl rfl rfl) (Q3 (l := [1, 3, 8, 9]) (lH := [3]) (kp4 rfl rfl rfl rfl) (Qe rfl Ql) rfl rfl rfl)
 ·exact ⟨Nat.zero_le _, Nat.le_refl _, rfl⟩
 intro ⟨n, out⟩ hI
 obtain ⟨hI1, hI2, hI3⟩ := hI
 try dsimp only at hI1 hI2 hI3
 try dsimp only
 refine QA ?_ -- 1
 refine Qf fun K hK => Qa rfl (Qh rfl rfl (QC rfl rfl rfl ?_))
 first | refine QQ rfl QS ?_ | refine QQ rfl rfl ?_
 refine QoV rfl rfl (by first | exact Qp (by omega) (by omega) | rfl) (Qol rfl rfl ?_)
 refine hK _ _ (Qb (kp5 rfl rfl rfl rfl rfl) ?_)
 refine Qw rfl (fun h1 => ?_) (fun h1 => ?_)
 ·try rw [h1]
  try simp only [qa, qb, qc, qd, qe, List.length_map] at h1
  refine Qv (Qd (kp4 rfl rfl rfl rfl) ?_)
  refine QA ?_ -- 2
  refine Qy (Qf fun K hK => QH (cs := [_]) rfl rfl rfl rfl (Qa rfl (Qa rfl (QI (XR hw hd hi (by omega)) rfl rfl (.inl rfl) (Qa rfl (QO rfl rfl (QO rfl rfl (Qa rfl (Qa rfl ?_)))))))))
  refine hK _ _ (Qb (kp6 rfl rfl rfl rfl rfl rfl) ?_)
  refine QA ?_ -- 3
  refine Qf fun K hK => Qa rfl (Z6 rfl rfl ?_)
  refine hK _ _ (Qb (kp7 rfl rfl rfl rfl rfl rfl rfl) ?_)
  refine Qw rfl (fun h2 => ?_) (fun h2 => ?_)
  ·try rw [h2]
   try simp only [qa, qb, qc, qd, qe, List.length_map] at h2
   try have hu := QiW h2
   refine Qf fun K hK => Qa rfl (Qa rfl (Qa rfl (Qa rfl ?_)))
   refine hK _ _ (Qb (kp2 rfl rfl) ?_)
   refine Qu (Qj (Qr (Qj (Q0 (Qr (Qj ?_))))))
   rw [hI3, Qew h2 (by omega)]
   exact QT rfl rfl ⟨rfl, rfl⟩
  ·try rw [h2]
   try simp only [qa, qb, qc, qd, qe, List.length_map] at h2
   try have hu := QiW h2
   refine Qv (Qd (kp6 rfl rfl rfl rfl rfl rfl) (QL fun K hK => QN (ds0 := [4, 3, 2, 1, 0]) (cs := [_]) rfl rfl rfl rfl rfl rfl (Qa rfl (Qa rfl (QN (ds0 := [7, 6, 4, 3, 2, 1, 0]) (cs := [_]) rfl rfl rfl rfl rfl rfl (Qa rfl (Qa rfl (QJ rfl rfl rfl (by omega) (ZB (by omega) (by omega)) rfl (QU (ds0 := [7, 6, 4, 3, 2, 1, 0]) rfl rfl rfl rfl rfl (Qa rfl ?_))))))))))
   refine QW (ds0 := [6, 4, 3, 2, 1, 0]) (YW hw (hi _ (List.getElem_mem (by omega)))) rfl rfl (.inr rfl) rfl rfl (QV rfl rfl (Qa rfl (QW (ds0 := [3, 2, 1, 0]) (QbG (t := ⟨(ZM w db out).2, Qc7 w (db[(ZM w db out).1.toNat]'(by omega)) (ZM w db out).2⟩) hw (by omega)) rfl rfl (.inl rfl) rfl rfl (Qa rfl (QO rfl rfl (QO rfl rfl (Qa rfl (hK _ ?_))))))))
   refine Qg (Qd (kp4 rfl rfl rfl rfl) (QL fun K hK => Qa rfl (Q1 rfl rfl (by first | exact Qp (by omega) (by omega) | rfl) (Qa rfl (hK _ ?_)))))
   refine Qi (n + 1, (Yl w out ⟨(ZM w db out).2, Qc7 w (db[(ZM w db out).1.toNat]'(by omega)) (ZM w db out).2⟩ (ZM w db out).1).getD []) ?_ ?_ ?_
   ·exact Q3 (l := [1, 3, 8, 9]) (lH := [3]) (kp4 rfl rfl rfl rfl) (Qe rfl Ql) rfl rfl rfl
   ·exact ⟨by omega, by have := Qgv w out ⟨(ZM w db out).2, Qc7 w (db[(ZM w db out).1.toNat]'(by omega)) (ZM w db out).2⟩ (ZM w db out).1; simp only; omega, by rw [hI3, QkL h2 (by omega) (by omega), show w.length * 18 + 1 - (n + 1) = w.length * 18 + 1 - n - 1 by omega]⟩
   ·show w.length * 18 + 1 - (n + 1) < w.length * 18 + 1 - n; omega
 ·try rw [h1]
  try simp only [qa, qb, qc, qd, qe, List.length_map] at h1
  refine Zg (QK (Qx (QD (Qd (kp1 rfl) (Qf fun K hK => Qa rfl (Qa rfl (Qa rfl ?_)))))))
  refine hK _ _ (Qb (kp2 rfl rfl) ?_)
  refine Qu ?_
  rw [hI3, show w.length * 18 + 1 - n = 0 by omega]
  exact QT rfl rfl ⟨rfl, rfl⟩
theorem Xb {a b : List StepT} (ha : a.length <= 10000000) : Ok Tryz.prog 18 [Zy a, Zy b] (.bool (decide (a = b))) := by
 refine Ok.ofT ZT Tryz.func18 Qry (Nat.le_of_ble_eq_true rfl) ?_
 show TW _ _ tf18.body _ _
 refine Qf fun K hK => Qa rfl ?_
 refine hK _ _ (Qb (kp2 rfl rfl) ?_)
 refine QA ?_ -- 0
 refine Qf fun K hK => Qa rfl ?_
 first | refine QQ rfl QS ?_ | refine QQ rfl rfl ?_
 refine Qa rfl ?_
 first | refine QQ rfl QS ?_ | refine QQ rfl rfl ?_
 refine XI rfl rfl ?_
 refine hK _ _ (Qb (kp3 rfl rfl rfl) ?_)
 refine Qw rfl (fun h1 => ?_) (fun h1 => ?_)
 ·try rw [h1]
  try simp only [qa, qb, qc, qd, qe, List.length_map] at h1
  refine Qf fun K hK => Qa rfl ?_
  refine hK _ _ (Qb (kp1 rfl) ?_)
  refine Qu (Qj (Qs rfl ?_))
  rw [decide_eq_false fun e => h1 (by rw [e])]
 ·try rw [h1]
  try simp only [qa, qb, qc, qd, qe, List.length_map] at h1
  refine Qv (Qd (kp2 rfl rfl) ?_)
  refine QA ?_ -- 1
  refine Qf fun K hK => Qa rfl ?_
  refine hK _ _ (Qb (kp3 rfl rfl rfl) ?_)
  refine Qy ?_
  refine Zj (ι := Nat) (fun i => ⟨[(0, Zy a), (1, Zy b), (5, .int .i64 i)], []⟩) (fun i => i <= a.length /\ a.take i = b.take i) (fun i => a.length - i) 0 ?_ ?_ ?_
  ·exact Za (kp3 rfl rfl rfl)
  ·exact ⟨Nat.zero_le _, by simp⟩
  intro i hI
  try dsimp only
  refine QA ?_ -- 2
  refine Qf fun K hK => Qa rfl (Qa rfl ?_)
  first | refine QQ rfl QS ?_ | refine QQ rfl rfl ?_
  refine Z6 rfl rfl ?_
  refine hK _ _ (Qb (kp4 rfl rfl rfl rfl) ?_)
  refine Qw rfl (fun h2 => ?_) (fun h2 => ?_)
  ·try rw [h2]
   try simp only [qa, qb, qc, qd, qe, List.length_map] at h2
   refine Qv (Qd (kp3 rfl rfl rfl) ?_)
   refine QA ?_ -- 3
   refine Qy (Qf fun K hK => Qa rfl (Qa rfl (QJ rfl rfl rfl (by omega) (QR (by omega)) rfl (QN (ds0 := [0]) (cs := [_, _, _, _]) rfl rfl rfl rfl rfl rfl (Qa rfl (Qa rfl (QJ rfl rfl rfl (by omega) (QR (by omega)) rfl (QN (ds0 := [0]) (cs := [_, _, _, _]) rfl rfl rfl rfl rfl rfl (Qok rfl rfl Qm5 ?_)))))))))
   refine hK _ _ (Qb (kp4 rfl rfl rfl rfl) ?_)
   refine Qw rfl (fun h3 => ?_) (fun h3 => ?_)
   ·try rw [h3]
    try simp only [qa, qb, qc, qd, qe, List.length_map] at h3
    refine Qf fun K hK => Qa rfl ?_
    refine hK _ _ (Qb (kp1 rfl) ?_)
    refine Qu (Qr (Qj (Q0 (Qr (Qj (Qs rfl ?_))))))
    rw [QmS (i := i) (by omega) (by omega) h3]
   ·try rw [h3]
    try simp only [qa, qb, qc, qd, qe, List.length_map] at h3
    refine Qv (Qg (Qd (kp3 rfl rfl rfl) (QL fun K hK => Qa rfl (Q1 rfl rfl (by first | exact Qp (by omega) (by omega) | rfl) (Qa rfl (hK _ ?_))))))
    refine Qi (i + 1) ?_ ?_ ?_
    ·exact Za (kp3 rfl rfl rfl)
    ·exact ⟨by omega, Qi6 (by omega) (by omega) hI.2 h3⟩
    ·first | omega | (simp only; omega) | (dsimp only; omega)
  ·try rw [h2]
   try simp only [qa, qb, qc, qd, qe, List.length_map] at h2
   refine Zg (QK (Qx (QD (Qd (Q5) (Qf fun K hK => Qa rfl ?_)))))
   refine hK _ _ (Qb (kp1 rfl) ?_)
   refine Qu (Qs rfl ?_)
   rw [List.take_of_length_le (by omega), List.take_of_length_le (by omega)] at hI; exact (decide_eq_true hI.2).symm
theorem Qdl {w : Qq} (hw : WSm w) {l : List Int} (hL : ∀ x ∈ l, I64 x) (hl : l.length <= 1000000) : Ok Tryz.prog 38 [Z2 w, Zo l] (Zt (QnS w l)) := by
 refine Ok.ofT ZT Tryz.func38 QrM (Nat.le_of_ble_eq_true rfl) ?_
 show TW _ _ tf38.body _ _
 have hn := hw.len
 refine Qf fun K hK => Zw rfl rfl rfl (Qa rfl ?_)
 refine hK _ _ (Qb (kp2 rfl rfl) ?_)
 refine Qf fun K hK => Qa rfl ?_
 refine hK _ _ (Qb (kp3 rfl rfl rfl) ?_)
 refine Qfd (ι := Unit) (fun _ => ⟨[(2, .ref 2 0 0), (5, Zt (Qgl w l (min 4 (l.length / 2))))], [(2, ⟨[[.sl ((w).map Yq)]], 1, 26, true⟩)]⟩) (fun _ => True) ?_ ?_
 ·skip
  refine Qf fun K hK => Qa rfl ?_
  refine hK _ _ (Qb (kp4 rfl rfl rfl rfl) ?_)
  refine Qy ?_
  refine Zj (ι := Nat) (fun j => ⟨[(1, Zo l), (2, .ref 2 0 0), (5, .osl 5 (Qgl w l j).length), (6, .int .i64 (2 * (j : Int)))], [(2, ⟨[[.sl ((w).map Yq)]], 1, 26, true⟩), (5, ⟨(Qgl w l j).map Qc3, 2, 56, true⟩)]⟩) (fun j => j <= min 4 (l.length / 2)) (fun j => min 4 (l.length / 2) - j) 0 ?_ ?_ ?_
  ·exact le_trans (Z9 5 5 2 56 rfl rfl) (Q3 (l := [1, 2, 5, 6]) (lH := [2, 5]) (kp4 rfl rfl rfl rfl) (Qe rfl (Qe rfl Ql)) rfl rfl rfl)
  ·exact Nat.zero_le _
  intro j hI
  have hlen := QbW w l j
  try dsimp only
  refine QA ?_ -- 1
  refine Qf fun K hK => Qa rfl (Q1 rfl rfl (by first | exact Qp (by omega) (by omega) | rfl) (Qa rfl ?_))
  first | refine QQ rfl QS ?_ | refine QQ rfl rfl ?_
  refine Z6 rfl rfl (Qa rfl ?_)
  refine QE (g := 15) rfl (fun h1 => ?_) (fun h1 => ?_)
  ·try rw [h1]
   try simp only [qa, qb, qc, qd, qe, List.length_map] at h1
   refine Qk rfl (Qa rfl (Qk rfl (Z6 rfl rfl (Qo rfl rfl ?_))))
   refine hK _ _ (Qb (kp5 rfl rfl rfl rfl rfl) ?_)
   refine Qw rfl (fun h2 => ?_) (fun h2 => ?_)
   ·try rw [h2]
    try simp only [qa, qb, qc, qd, qe, List.length_map] at h2
    refine Qv (Qd (kp4 rfl rfl rfl rfl) ?_)
    refine QA ?_ -- 2
    refine Qy (Qf fun K hK => Qa rfl (Qa rfl (QJ rfl rfl rfl (by omega) (ZB (by omega) (by omega)) rfl (QU (ds0 := [1, 0]) rfl rfl rfl rfl rfl (Qh rfl rfl (QU (ds0 := [2, 1, 0]) rfl rfl rfl rfl rfl ?_))))))
    first | refine QQ rfl QS ?_ | refine QQ rfl rfl ?_
    refine QW (ds0 := [0]) (Z0 (by omega) (hL _ (List.getElem_mem (by omega)))) rfl rfl (.inr rfl) rfl rfl (Qa rfl ?_)
    refine hK _ _ (Qb (kp5 rfl rfl rfl rfl rfl) ?_)
    refine QL fun K hK => Qa rfl (Qa rfl (Qa rfl (Qa rfl (Q1 rfl rfl (by first | exact Qp (by omega) (by omega) | rfl) (QJ rfl rfl rfl (by omega) (ZB (by omega) (by omega)) rfl (QU (ds0 := [5, 4, 3, 2, 1, 0]) rfl rfl rfl rfl rfl (QN (ds0 := [6, 5, 4, 3, 2, 1, 0]) (cs := [_]) rfl rfl rfl rfl rfl rfl (Qa rfl (QW (ds0 := [5, 4, 3, 2, 1, 0]) (Zz hw) rfl rfl (.inr rfl) rfl rfl (QW (ds0 := [4, 3, 2, 1, 0]) (Z0 (by have := QdG w (mPl (l[(2 * (j : Int)).toNat]'(by omega)) w.length); omega) (hL _ (List.getElem_mem (by omega)))) rfl rfl (.inr rfl) rfl rfl ?_))))))))))
    refine Q1 rfl rfl (Qoh _ (QdG _ _).2) (QV rfl rfl (QB rfl rfl (Qa3 (ds0 := [0]) rfl rfl (by simp [D.ids, D.sid]) ⟨_, rfl, rfl, rfl, rfl, rfl⟩ rfl rfl (by simp) rfl rfl (by simp; omega) (by simp; omega) rfl rfl (Qa rfl (hK _ ?_)))))
    refine Qg (Qd (kp4 rfl rfl rfl rfl) (QL fun K hK => Qa rfl (Q1 rfl rfl (by first | exact Qp (by omega) (by omega) | rfl) (Qa rfl (hK _ ?_)))))
    refine Qi (j + 1) ?_ ?_ ?_
    ·exact le_trans (QfF (l := [1, 2, 6]) (lH := [2]) 43 5 5 (kp3 rfl rfl rfl) (Qe rfl Ql) rfl rfl rfl rfl rfl rfl rfl) (Q3 (l := [1, 2, 5, 6]) (lH := [2, 5]) (kp4 rfl rfl rfl rfl) (Qe rfl (Qe rfl Ql)) (by simp only [List.cons.injEq, Prod.mk.injEq, D.int.injEq, D.osl.injEq, true_and, and_true, QbW]; first | omega | (constructor <;> first | omega | rfl | (simp [QbW]; done))) (by rw [Qp6, List.map_append, QnH (by omega)]; rfl) rfl)
    ·show j + 1 <= _; omega
    ·show min 4 (l.length / 2) - (j + 1) < min 4 (l.length / 2) - j; omega
   ·try rw [h2]
    try simp only [qa, qb, qc, qd, qe, List.length_map] at h2
    refine Zg (QK (Qx (QD ?_)))
    refine ZY () ?_ ?_
    ·exact le_trans (QeH (l := [2]) (lH := [2]) 5 5 (kp1 rfl) (Qe rfl Ql) rfl rfl rfl (by first | (simp; done) | (simp; omega)) rfl rfl rfl rfl) (Q3 (l := [2, 5]) (lH := [2]) (kp2 rfl rfl) (Qe rfl Ql) (by rw [show min 4 (l.length / 2) = j by omega]; rfl) rfl rfl)
    ·exact trivial
  ·try rw [h1]
   try simp only [qa, qb, qc, qd, qe, List.length_map] at h1
   refine Qt rfl (Qt rfl (Qo rfl rfl ?_))
   refine hK _ _ (Qb (kp5 rfl rfl rfl rfl rfl) ?_)
   refine ZI rfl (Zg (QK (Qx (QD ?_))))
   refine ZY () ?_ ?_
   ·exact le_trans (QeH (l := [2]) (lH := [2]) 5 5 (kp1 rfl) (Qe rfl Ql) rfl rfl rfl (by first | (simp; done) | (simp; omega)) rfl rfl rfl rfl) (Q3 (l := [2, 5]) (lH := [2]) (kp2 rfl rfl) (Qe rfl Ql) (by rw [show min 4 (l.length / 2) = j by omega]; rfl) rfl rfl)
   ·exact trivial
 intro _ hJ
 try dsimp only
 refine Qf fun K hK => QH (cs := [_]) rfl rfl rfl rfl (Qa rfl (QI (XP hw (by rw [QbW]; omega)) rfl rfl (.inl rfl) (Qa rfl (QO rfl rfl (QO rfl rfl (Qa rfl (Qa rfl ?_)))))))
 refine hK _ _ (Qb (kp1 rfl) ?_)
 refine Qf fun K hK => Qa rfl (Qa rfl ?_)
 refine hK _ _ (Qb (kp1 rfl) ?_)
 refine Qu (Yh rfl ?_)
 rfl
theorem QaR {w : Qq} (hw : WSm w) (h0 : 0 < w.length) : Ok Tryz.prog 30 [Z2 w, Zo []] (dDb (mDB w)) := by
 refine Ok.ofT ZT Tryz.func30 Qrk (Nat.le_of_ble_eq_true rfl) ?_
 show TW _ _ tf30.body _ _
 have hn := QjZ hw h0
 refine Qf fun K hK => Zw rfl rfl rfl (Qa rfl ?_)
 refine hK _ _ (Qb (kp2 rfl rfl) ?_)
 refine Qf fun K hK => QH (cs := [_]) rfl rfl rfl rfl (QI (Qaa hw) rfl rfl (.inl rfl) (Qa rfl ?_))
 refine hK _ _ (Qb (kp3 rfl rfl rfl) ?_)
 refine Qf fun K hK => Qa rfl ?_
 refine hK _ _ (Qb (kp4 rfl rfl rfl rfl) ?_)
 refine QA ?_ -- 0
 refine Qf fun K hK => Qa rfl ?_
 refine hK _ _ (Qb (kp5 rfl rfl rfl rfl rfl) ?_)
 refine Qy ?_
 refine Zj (ι := Nat) (fun i => ⟨[(1, Zo []), (2, .ref 2 0 0), (5, Qpc (Qb5 w)), (6, .osl 6 (QlM w i).length), (7, .int .i64 i)], [(2, ⟨[[.sl ((w).map Yq)]], 1, 26, true⟩), (6, ⟨(QlM w i).map (fun t => [Zt t]), 1, 39, true⟩)]⟩) (fun i => i <= (Qb5 w).length) (fun i => (Qb5 w).length - i) 0 ?_ ?_ ?_
 ·exact le_trans (Z9 6 6 1 39 rfl rfl) (Q3 (l := [1, 2, 5, 6, 7]) (lH := [2, 6]) (kp5 rfl rfl rfl rfl rfl) (Qe rfl (Qe rfl Ql)) rfl rfl rfl)
 ·exact Nat.zero_le _
 intro i hI
 have hlen := Qj8 w i
 try dsimp only
 refine QA ?_ -- 1
 refine Qf fun K hK => Qa rfl (Qa rfl ?_)
 first | refine QQ rfl QS ?_ | refine QQ rfl rfl ?_
 refine Z6 rfl rfl ?_
 refine hK _ _ (Qb (kp6 rfl rfl rfl rfl rfl rfl) ?_)
 refine Qw rfl (fun h1 => ?_) (fun h1 => ?_)
 ·try rw [h1]
  try simp only [qa, qb, qc, qd, qe, List.length_map, List.length_nil] at h1
  refine Qv (Qd (kp5 rfl rfl rfl rfl rfl) ?_)
  refine QA ?_ -- 2
  refine Qy (QL fun K hK => Qa rfl (Qa rfl (Qa rfl (QJ rfl rfl rfl (by omega) (QR (by omega)) rfl (Q8 rfl rfl (QC rfl rfl rfl (QB rfl rfl (Xg rfl rfl (fun _ h => YU rfl rfl rfl h) rfl (by simp) rfl rfl rfl (by simp; omega) (by simp; omega) (Qa rfl (hK _ ?_))))))))))
  refine Qg (Qd (kp5 rfl rfl rfl rfl rfl) (QL fun K hK => Qa rfl (Q1 rfl rfl (by first | exact Qp (by omega) (by omega) | rfl) (Qa rfl (hK _ ?_)))))
  refine Qi (i + 1) ?_ ?_ ?_
  ·exact Q3 (l := [1, 2, 5, 6, 7]) (lH := [2, 6]) (kp5 rfl rfl rfl rfl rfl) (Qe rfl (Qe rfl Ql)) (by first | (rw [QbH (by omega)]; done) | (rw [QbH (by omega)]; rfl) | (rw [QbH (by omega), List.length_append]; rfl) | (simp [QbH (by omega)]; done) | (simp [QbH (by omega)]; omega) | rfl) (by first | (rw [QbH (by omega)]; done) | (rw [QbH (by omega)]; rfl) | (rw [QbH (by omega), List.map_append]; rfl) | (simp [QbH (by omega)]; done) | rfl) rfl
  ·omega
  ·first | omega | (simp only; omega) | (dsimp only; omega)
 ·try rw [h1]
  try simp only [qa, qb, qc, qd, qe, List.length_map, List.length_nil] at h1
  refine Zg (QK (Qx (QD (Qd (kp3 rfl rfl rfl) ?_))))
  refine QA ?_ -- 3
  refine Qf fun K hK => Qa rfl ?_
  refine hK _ _ (Qb (kp4 rfl rfl rfl rfl) ?_)
  refine Qy ?_
  refine Zj (ι := Unit) (fun _ => ⟨[(1, Zo []), (2, .ref 2 0 0), (6, .osl 6 (mDB w).length), (8, .int .i64 0)], [(2, ⟨[[.sl ((w).map Yq)]], 1, 26, true⟩), (6, ⟨(mDB w).map (fun t => [Zt t]), 1, 39, true⟩)]⟩) (fun _ => True) (fun _ => 0) () ?_ ?_ ?_
  ·exact Q3 (l := [1, 2, 6, 8]) (lH := [2, 6]) (kp4 rfl rfl rfl rfl) (Qe rfl (Qe rfl Ql)) (by rw [Qj9 (by omega)]) (by rw [Qj9 (by omega)]) rfl
  ·trivial
  intro _ hJ
  try dsimp only
  refine QA ?_ -- 4
  refine Qf fun K hK => Qa rfl (Qa rfl ?_)
  first | refine QQ rfl QS ?_ | refine QQ rfl rfl ?_
  refine Z6 rfl rfl (Qa rfl ?_)
  refine QE (g := 31) rfl (fun h2 => ?_) (fun h2 => ?_)
  ·try rw [h2]
   try simp only [qa, qb, qc, qd, qe, List.length_map, List.length_nil] at h2
   exact absurd h2 (by decide)
  ·try rw [h2]
   try simp only [qa, qb, qc, qd, qe, List.length_map, List.length_nil] at h2
   refine Qt rfl (Qt rfl (Qt rfl (Qt rfl (Qt rfl (Qo rfl rfl ?_)))))
   refine hK _ _ (Qb (kp5 rfl rfl rfl rfl rfl) ?_)
   refine ZI rfl (Zg (QK (Qx (QD (Qd (kp1 rfl) (Qf fun K hK => Qa rfl (Qa rfl ?_)))))))
   refine hK _ _ (Qb (kp1 rfl) ?_)
   refine Qu ?_
   exact X5 rfl rfl rfl (by simp) (by rfl)
theorem QkZ {v : Int} (h0 : -1 <= v) (h1v : v <= 60) : Ok Tryz.prog 86 [.int .i64 v] (.int .i64 (2 ^ (v + 1).toNat)) := by
 refine Ok.ofT ZT Tryz.func86 Qsv (Nat.le_of_ble_eq_true rfl) ?_
 show TW _ _ tf86.body _ _
 refine Qf fun K hK => Qa rfl ?_
 refine hK _ _ (Qb (kp1 rfl) ?_)
 refine Qf fun K hK => Qa rfl (Q1 rfl rfl (by first | exact Qp (by omega) (by omega) | rfl) (QoW rfl rfl (by omega) (Qnc (by omega)) (Qa rfl ?_)))
 refine hK _ _ (Qb (kp1 rfl) ?_)
 refine Qu (QG rfl ?_)
 rfl
theorem Qk0 {w : Qq} (hw : WSm w) {u : Int} : Ok Tryz.prog 85 [Z2 w, .int .i64 u] (.bool (inW w u)) := by
 refine Ok.ofT ZT Tryz.func85 Qsu (Nat.le_of_ble_eq_true rfl) ?_
 show TW _ _ tf85.body _ _
 refine Qf fun K hK => Zw rfl rfl rfl (Qa rfl ?_)
 refine hK _ _ (Qb (kp2 rfl rfl) ?_)
 refine Qf fun K hK => Qa rfl (QeU rfl rfl (Qa rfl ?_))
 refine QE (g := 7) rfl (fun h1 => ?_) (fun h1 => ?_)
 ·try rw [h1]
  try simp only [qa, qb, qc, qd, qe, List.length_map] at h1
  refine Qk rfl (Qa rfl (Qk rfl (Qh rfl rfl (Qk rfl (QC rfl rfl rfl (Qk rfl ?_))))))
  first | refine QQ rfl QS ?_ | refine QQ rfl rfl ?_
  refine Qk rfl (Z6 rfl rfl (Qo rfl rfl (Qa rfl ?_)))
  refine hK _ _ (Qb (kp1 rfl) ?_)
  refine Qu (Qs rfl ?_)
  first | rfl | (rw [Qbg (by omega)]; done) | (rw [inW, decide_eq_true h1, Bool.true_and])
 ·try rw [h1]
  try simp only [qa, qb, qc, qd, qe, List.length_map] at h1
  refine Qt rfl (Qt rfl (Qt rfl (Qt rfl (Qt rfl (Qo rfl rfl (Qa rfl ?_))))))
  refine hK _ _ (Qb (kp1 rfl) ?_)
  refine Qu (Qs rfl ?_)
  first | rfl | (rw [Qbg (by omega)]; done) | (rw [inW, decide_eq_true h1, Bool.true_and])
theorem Qc2 {w : Qq} (hw : WSm w) {u : Int} : Ok Tryz.prog 63 [Z2 w, .int .i64 u] (.int .i64 (YY w u)) := by
 refine Ok.ofT ZT Tryz.func63 Qr9 (Nat.le_of_ble_eq_true rfl) ?_
 show TW _ _ tf63.body _ _
 refine Qf fun K hK => Zw rfl rfl rfl (Qa rfl ?_)
 refine hK _ _ (Qb (kp2 rfl rfl) ?_)
 refine QA ?_ -- 0
 refine Qf fun K hK => QH (cs := [_]) rfl rfl rfl rfl (Qa rfl (QI (Qk0 hw) rfl rfl (.inr rfl) (Yd rfl ?_)))
 refine hK _ _ (Qb (kp3 rfl rfl rfl) ?_)
 refine Qw rfl (fun h1 => ?_) (fun h1 => ?_)
 ·try rw [h1]
  try simp only [qa, qb, qc, qd, qe, List.length_map] at h1
  try have h1b := QbV.1 h1
  refine Qf fun K hK => Qa rfl ?_
  refine hK _ _ (Qb (kp1 rfl) ?_)
  refine Qu (Qj (QG rfl ?_))
  rw [Qfv.2 h1]
 ·try rw [h1]
  try simp only [qa, qb, qc, qd, qe, List.length_map] at h1
  try have h1b := QbV.1 h1
  refine Qv (Qd (kp2 rfl rfl) (Qf fun K hK => Qh rfl rfl (QC rfl rfl rfl (Qa rfl (QJ rfl rfl rfl (by omega) (ZB (by omega) (by omega)) rfl (Q8 rfl rfl (QC rfl rfl rfl ?_)))))))
  first | refine QQ rfl QS ?_ | refine QQ rfl rfl ?_
  refine QI (QkZ (by omega) (by have := hw.cs _ (List.getElem_mem (show u.toNat < w.length by omega)); omega)) rfl rfl (.inr rfl) (QaE rfl rfl (Qi9 (by have := hw.cs _ (List.getElem_mem (show u.toNat < w.length by omega)); omega)) (Qa rfl ?_))
  refine hK _ _ (Qb (kp1 rfl) ?_)
  refine Qu (QG rfl ?_)
  rw [Qhy h1b.1 h1b.2, show min (w[u.toNat]'(by omega)).cs.length 16 = (w[u.toNat]'(by omega)).cs.length from Nat.min_eq_left (hw.cs _ (List.getElem_mem _)), Qnb]
theorem Qic {w : Qq} (hw : WSm w) {l : List StepT} (hl : l.length <= 10000000) {u : Int} : Ok Tryz.prog 88 [Z2 w, Zy l, .int .i64 u] (.int .i64 (Qb9 w l u)) := by
 refine Ok.ofT ZT Tryz.func88 Qsx (Nat.le_of_ble_eq_true rfl) ?_
 show TW _ _ tf88.body _ _
 refine Qf fun K hK => Zw rfl rfl rfl (Qa rfl ?_)
 refine hK _ _ (Qb (kp3 rfl rfl rfl) ?_)
 refine QA ?_ -- 0
 refine Qf fun K hK => Qa rfl ?_
 first | refine QQ rfl QS ?_ | refine QQ rfl rfl ?_
 refine QaE rfl rfl (by first | exact Qp (by omega) (by omega) | rfl) (Qa rfl ?_)
 refine hK _ _ (Qb (kp4 rfl rfl rfl rfl) ?_)
 refine Qy ?_
 refine Zj (ι := Nat) (fun i => ⟨[(1, Zy l), (2, .int .i64 u), (3, .ref 3 0 0), (7, .int .i64 ((i : Int) - 1))], [(3, ⟨[[.sl ((w).map Yq)]], 1, 26, true⟩)]⟩) (fun i => i <= l.length /\ Qb9 w l u = Qb9 w (l.take i) u) (fun i => i) l.length ?_ ?_ ?_
 ·exact Q3 (l := [1, 2, 3, 7]) (lH := [3]) (kp4 rfl rfl rfl rfl) (Qe rfl Ql) rfl rfl rfl
 ·exact ⟨Nat.le_refl _, by rw [List.take_length]⟩
 intro i hI
 try dsimp only
 refine QA ?_ -- 1
 refine Qf fun K hK => Qa rfl (QeU rfl rfl ?_)
 refine hK _ _ (Qb (kp5 rfl rfl rfl rfl rfl) ?_)
 refine Qw rfl (fun h1 => ?_) (fun h1 => ?_)
 ·try rw [h1]
  try simp only [qa, qb, qc, qd, qe, List.length_map] at h1
  refine Qv (Qd (kp4 rfl rfl rfl rfl) ?_)
  refine QA ?_ -- 2
  refine Qy (Qf fun K hK => Qa rfl (Qa rfl (QJ rfl rfl rfl (by omega) (ZB (by omega) (by omega)) rfl (Q8 rfl rfl (QC rfl rfl rfl (Qa rfl (ZK rfl rfl ?_)))))))
  refine hK _ _ (Qb (kp5 rfl rfl rfl rfl rfl) ?_)
  refine Qw rfl (fun h2 => ?_) (fun h2 => ?_)
  ·try rw [h2]
   try simp only [qa, qb, qc, qd, qe, List.length_map] at h2
   refine Qf fun K hK => Qa rfl (Qa rfl (QJ rfl rfl rfl (by omega) (ZB (by omega) (by omega)) rfl (Q8 rfl rfl (QC rfl rfl rfl (Qa rfl ?_)))))
   refine hK _ _ (Qb (kp1 rfl) ?_)
   refine Qu (Qr (Qj (Q0 (Qr (Qj (QG rfl ?_))))))
   rw [hI.2, Qmf (k := ((i : Int) - 1).toNat) (by omega) (by omega) h2]
  ·try rw [h2]
   try simp only [qa, qb, qc, qd, qe, List.length_map] at h2
   refine Qv (Qg (Qd (kp4 rfl rfl rfl rfl) (QL fun K hK => Qa rfl (QaE rfl rfl (by first | exact Qp (by omega) (by omega) | rfl) (Qa rfl (hK _ ?_))))))
   refine Qi (i - 1) ?_ ?_ ?_
   ·exact Q3 (l := [1, 2, 3, 7]) (lH := [3]) (kp4 rfl rfl rfl rfl) (Qe rfl Ql) (by simp only [List.cons.injEq, Prod.mk.injEq, D.int.injEq, and_true, true_and]; omega) rfl rfl
   ·exact ⟨by omega, by rw [hI.2, Qlg (k := ((i : Int) - 1).toNat) (by omega) (by omega) h2]⟩
   ·first | omega | (simp only; omega) | (dsimp only; omega)
 ·try rw [h1]
  try simp only [qa, qb, qc, qd, qe, List.length_map] at h1
  refine Zg (QK (Qx (QD (Qd (kp2 rfl rfl) (Qf fun K hK => QH (cs := [_]) rfl rfl rfl rfl (Qa rfl (QI (Qc2 hw) rfl rfl (.inr rfl) (Qa rfl ?_))))))))
  refine hK _ _ (Qb (kp1 rfl) ?_)
  refine Qu (QG rfl ?_)
  rw [hI.2, show i = 0 by omega]; rfl
theorem Qib {w : Qq} (hw : WSm w) {l : List StepT} (hl : l.length <= 10000000) {u : Int} : Ok Tryz.prog 65 [Z2 w, Zy l, .int .i64 u] (.int .i64 (Zi w l u)) := by
 refine Ok.ofT ZT Tryz.func65 Qsb (Nat.le_of_ble_eq_true rfl) ?_
 show TW _ _ tf65.body _ _
 refine Qf fun K hK => Zw rfl rfl rfl (Qa rfl ?_)
 refine hK _ _ (Qb (kp3 rfl rfl rfl) ?_)
 refine QA ?_ -- 0
 refine Qf fun K hK => QH (cs := [_]) rfl rfl rfl rfl (Qa rfl (QI (Qc2 hw) rfl rfl (.inr rfl) (ZK rfl rfl ?_)))
 refine hK _ _ (Qb (kp4 rfl rfl rfl rfl) ?_)
 refine Qw rfl (fun h1 => ?_) (fun h1 => ?_)
 ·try rw [h1]
  try simp only [qa, qb, qc, qd, qe, List.length_map] at h1
  refine Qf fun K hK => Qa rfl ?_
  refine hK _ _ (Qb (kp1 rfl) ?_)
  refine Qu (Qj (QG rfl ?_))
  rw [QdD (Qfv.1 h1)]
 ·try rw [h1]
  try simp only [qa, qb, qc, qd, qe, List.length_map] at h1
  refine Qv (Qd (kp3 rfl rfl rfl) (Qf fun K hK => QH (cs := [_]) rfl rfl rfl rfl (Qa rfl (Qa rfl (QI (Qic hw hl) rfl rfl (.inr rfl) (Qa rfl ?_))))))
  refine hK _ _ (Qb (kp1 rfl) ?_)
  refine Qu (QG rfl ?_)
  rw [QnM (by simpa using fun e => h1 (Qfv.2 e))]
theorem Qha {l : List StepT} (hl : l.length <= 10000000) : Ok Tryz.prog 67 [Zy l] (.int .i64 (Xu l)) := by
 refine Ok.ofT ZT Tryz.func67 Qsd (Nat.le_of_ble_eq_true rfl) ?_
 show TW _ _ tf67.body _ _
 refine Qf fun K hK => Qa rfl ?_
 refine hK _ _ (Qb (kp1 rfl) ?_)
 refine QA ?_ -- 0
 refine Qf fun K hK => Qa rfl ?_
 first | refine QQ rfl QS ?_ | refine QQ rfl rfl ?_
 refine ZK rfl rfl ?_
 refine hK _ _ (Qb (kp2 rfl rfl) ?_)
 refine Qw rfl (fun h1 => ?_) (fun h1 => ?_)
 ·try rw [h1]
  try simp only [qa, qb, qc, qd, qe, List.length_map] at h1
  refine Qf fun K hK => Qa rfl ?_
  refine hK _ _ (Qb (kp1 rfl) ?_)
  refine Qu (Qj (QG rfl ?_))
  rw [Qiz h1]
 ·try rw [h1]
  try simp only [qa, qb, qc, qd, qe, List.length_map] at h1
  refine Qv (Qd (kp1 rfl) (Qf fun K hK => Qa rfl (Qa rfl ?_)))
  first | refine QQ rfl QS ?_ | refine QQ rfl rfl ?_
  refine QaE rfl rfl (by first | exact Qp (by omega) (by omega) | rfl) (QJ rfl rfl rfl (by omega) (ZB (by omega) (by omega)) rfl (Q8 rfl rfl (QC rfl rfl rfl (Qa rfl ?_))))
  refine hK _ _ (Qb (kp1 rfl) ?_)
  refine Qu (QG rfl ?_)
  rw [Qko (k := ((l.length : Int) - 1).toNat) (by omega)]
theorem Qk1 {l : List StepT} (hl : l.length <= 10000000) {s : StepT} : Ok Tryz.prog 66 [Zy l, .agg (Qfp s)] (Zy (l ++ [s])) := by
 refine Ok.ofT ZT Tryz.func66 Qsc (Nat.le_of_ble_eq_true rfl) ?_
 show TW _ _ tf66.body _ _
 refine Qf fun K hK => Zw rfl rfl rfl (Qa rfl ?_)
 refine hK _ _ (Qb (kp2 rfl rfl) ?_)
 refine Qf fun K hK => Qa rfl (Qa rfl ?_)
 first | refine QQ rfl QS ?_ | refine QQ rfl rfl ?_
 refine Qa rfl ?_
 first | refine QQ rfl QS ?_ | refine QQ rfl rfl ?_
 refine Qnl rfl rfl rfl rfl rfl (by omega) (by omega) (by simp) QjK (QmY rfl) (QN (ds0 := [2, 1, 0]) (cs := [_, _, _, _]) rfl rfl rfl rfl rfl rfl (QB rfl rfl (Qd3 (ds0 := [0]) rfl rfl (fun _ h => YU rfl rfl rfl h) rfl (.inr (by simp)) QjK (by simp; omega) (by simp; omega) rfl rfl (Qa rfl ?_))))
 refine hK _ _ (Qb (kp1 rfl) ?_)
 refine Qu ?_
 exact X5 rfl rfl rfl (by simp) (by simp [Zy, Qfp])
theorem Qgi {w : Qq} (hw : WSm w) {l : List StepT} (hl : l.length <= 10000000) (hp : XX w l) {t : TermT} {c : Int} : Ok Tryz.prog 43 [Z2 w, Zy l, .agg (Qc3 t), .int .i64 c] (dOS (Yl w l t c)) := by
 refine Ok.ofT ZT Tryz.func43 QrR (Nat.le_of_ble_eq_true rfl) ?_
 show TW _ _ tf43.body _ _
 refine Qf fun K hK => Zw rfl rfl rfl (Zw rfl rfl rfl (Qa rfl (Qa rfl ?_)))
 refine hK _ _ (Qb (kp4 rfl rfl rfl rfl) ?_)
 refine Qf fun K hK => QH (cs := [_]) rfl rfl rfl rfl (Qa rfl (Qh rfl rfl (QC rfl rfl rfl (QI (Qib hw hl) rfl rfl (.inr rfl) (Qa rfl ?_)))))
 refine hK _ _ (Qb (kp4 rfl rfl rfl rfl) ?_)
 refine QA ?_ -- 0
 refine Qf fun K hK => Qa rfl (Z6 rfl rfl (Qa rfl ?_))
 refine QE (g := 18) rfl (fun h1 => ?_) (fun h1 => ?_)
 ·try rw [h1]
  try simp only [qa, qb, qc, qd, qe, List.length_map] at h1
  refine Qt rfl (Qt rfl (Qt rfl (Qt rfl (Qt rfl (Qo rfl rfl (Qa rfl (Qt rfl (Qt rfl (Qt rfl (Qt rfl (Qt rfl ?_)))))))))))
  refine Qo rfl rfl ?_
  refine hK _ _ (Qb (kp5 rfl rfl rfl rfl rfl) ?_)
  refine Zu rfl (Qf fun K hK => Qa rfl (Qa rfl ?_))
  refine hK _ _ (Qb (kp2 rfl rfl) ?_)
  refine Qu (Qj ?_)
  rw [Qcl (.inl h1)]
  exact QT rfl rfl ⟨rfl, rfl⟩
 ·try rw [h1]
  try simp only [qa, qb, qc, qd, qe, List.length_map] at h1
  refine Qk rfl (Qa rfl (Qk rfl (Qh rfl rfl (Qk rfl (QC rfl rfl rfl (Qk rfl (QeM rfl rfl (Qk rfl (ZK rfl rfl (Qo rfl rfl (Qa rfl ?_)))))))))))
  refine QE (g := 25) rfl (fun h2 => ?_) (fun h2 => ?_)
  ·try rw [h2]
   try simp only [qa, qb, qc, qd, qe, List.length_map] at h2
   refine Qt rfl (Qt rfl (Qt rfl (Qt rfl (Qt rfl (Qo rfl rfl ?_)))))
   refine hK _ _ (Qb (kp5 rfl rfl rfl rfl rfl) ?_)
   refine Zu rfl (Qf fun K hK => Qa rfl (Qa rfl ?_))
   refine hK _ _ (Qb (kp2 rfl rfl) ?_)
   refine Qu (Qj ?_)
   rw [QlO hp h2]
   exact QT rfl rfl ⟨rfl, rfl⟩
  ·try rw [h2]
   try simp only [qa, qb, qc, qd, qe, List.length_map] at h2
   refine Qk rfl (Qa rfl (Qk rfl (Qh rfl rfl (Qk rfl (QC rfl rfl rfl (Qk rfl (QeT rfl rfl (Qk rfl (ZK rfl rfl (Qo rfl rfl ?_))))))))))
   refine hK _ _ (Qb (kp5 rfl rfl rfl rfl rfl) ?_)
   refine Qw rfl (fun h3 => ?_) (fun h3 => ?_)
   ·try rw [h3]
    try simp only [qa, qb, qc, qd, qe, List.length_map] at h3
    refine Qf fun K hK => Qa rfl (Qa rfl ?_)
    refine hK _ _ (Qb (kp2 rfl rfl) ?_)
    refine Qu (Qj ?_)
    rw [QlP h3]
    exact QT rfl rfl ⟨rfl, rfl⟩
   ·try rw [h3]
    try simp only [qa, qb, qc, qd, qe, List.length_map] at h3
    refine Qv (Qd (kp4 rfl rfl rfl rfl) (Qf fun K hK => Qa rfl (Qh rfl rfl (QU (ds0 := [3, 2, 1]) rfl rfl rfl rfl rfl (Qa rfl (Qh rfl rfl (QU (ds0 := [7, 3, 2, 1]) rfl rfl rfl rfl rfl (QeT rfl rfl (Qa rfl (QW (ds0 := [3, 2, 1]) (Qha hl) rfl rfl (.inr rfl) rfl rfl ?_))))))))))
    refine Qa rfl (QV rfl rfl (QW (ds0 := [1]) (Qk1 (s := ⟨t.u, Qgg (Zi w l t.u) t.m, Xu l, c⟩) hl) rfl rfl (.inl rfl) rfl rfl (Qa rfl (Qa rfl ?_))))
    refine hK _ _ (Qb (kp2 rfl rfl) ?_)
    refine Qu ?_
    rw [Qii hp (by omega) h2 h3]
    exact QT rfl rfl ⟨rfl, rfl⟩
end Go.Proofs
