/- Part 4 of the means of the proof: a verified abstract evaluator, the prepared functions, and contracts of functions. It states nothing of the claim by itself. -/
import Derived.Test.YtnkkhniiddjibaaGreatB3
set_option linter.unusedSimpArgs false
set_option linter.unusedVariables false
namespace Go.Proofs
open Go Go.Abs M3 M25
set_option linter.unusedVariables false
set_option linter.unusedSimpArgs false
theorem Qdh {a b c : Int} {p q : List UInt8} (hp : p.length <= 1000000) (hq : q.length <= 1000000) {part : Int} : Ok Tryz.prog 96 [.agg [.int .i64 a, .int .i64 b, .int .i64 c, .str p, .str q], .int .i64 part] (dOV (X6 a b c p q part)) := by
 refine Ok.ofT ZP Tryz.func96 Qtt (Nat.le_of_ble_eq_true rfl) ?_
 show TW _ _ tf96.body _ _
 refine Qf fun K hK => Zr rfl rfl rfl (ZH rfl (Qa rfl ?_))
 refine hK _ _ (Qb (kp3 rfl rfl rfl) ?_)
 refine Qz ?_ -- 0
 refine Qf fun K hK => QG (cs := [_, _, _, _, _]) rfl rfl rfl rfl (QH (Zh (by omega) (by omega)) rfl rfl (.inr rfl) (Z9 rfl (Qa rfl ?_)))
 refine QF (g := 10) rfl (fun h1 => ?_) (fun h1 => ?_)
 ·try rw [h1]
  try simp only [qa, qb, qc, qd, qe] at h1
  refine Qt rfl (Qt rfl (Qm rfl rfl (Qa rfl (Qt rfl (Qt rfl (Qm rfl rfl ?_))))))
  refine hK _ _ (Qb (kp4 rfl rfl rfl rfl) ?_)
  refine Zs rfl (Qf fun K hK => QZ rfl rfl (Q7 rfl rfl rfl rfl rfl rfl rfl rfl (Qa rfl ?_)))
  refine hK _ _ (Qb (kp2 rfl rfl) ?_)
  refine Qu (Qj (Post.eq (XD (ds := [.int .i64 _, .int .i64 _, .int .i64 _, .str _, .str _]) (d' := .bool _) (cs := [_, _, _, _, _]) rfl rfl rfl rfl rfl ⟨rfl, rfl⟩) ?_))
  first | (simp [X6, dOV, h1]; done) | (simp_all [X6, dOV]; done)
 ·try rw [h1]
  try simp only [qa, qb, qc, qd, qe] at h1
  refine Qk rfl (Qa rfl (Qk rfl (ZW rfl rfl (Qm rfl rfl (Qa rfl ?_)))))
  refine QF (g := 14) rfl (fun h2 => ?_) (fun h2 => ?_)
  ·try rw [h2]
   try simp only [qa, qb, qc, qd, qe] at h2
   refine Qt rfl (Qt rfl (Qm rfl rfl ?_))
   refine hK _ _ (Qb (kp4 rfl rfl rfl rfl) ?_)
   refine Zs rfl (Qf fun K hK => QZ rfl rfl (Q7 rfl rfl rfl rfl rfl rfl rfl rfl (Qa rfl ?_)))
   refine hK _ _ (Qb (kp2 rfl rfl) ?_)
   refine Qu (Qj (Post.eq (XD (ds := [.int .i64 _, .int .i64 _, .int .i64 _, .str _, .str _]) (d' := .bool _) (cs := [_, _, _, _, _]) rfl rfl rfl rfl rfl ⟨rfl, rfl⟩) ?_))
   first | (simp [X6, dOV, h1, h2]; done) | (simp_all [X6, dOV]; done)
  ·try rw [h2]
   try simp only [qa, qb, qc, qd, qe] at h2
   refine Qk rfl (Qa rfl (Qk rfl (Qii rfl rfl (Qm rfl rfl ?_))))
   refine hK _ _ (Qb (kp4 rfl rfl rfl rfl) ?_)
   refine Qw rfl (fun h3 => ?_) (fun h3 => ?_)
   ·try rw [h3]
    try simp only [qa, qb, qc, qd, qe] at h3
    refine Qf fun K hK => QZ rfl rfl (Q7 rfl rfl rfl rfl rfl rfl rfl rfl (Qa rfl ?_))
    refine hK _ _ (Qb (kp2 rfl rfl) ?_)
    refine Qu (Qj (Post.eq (XD (ds := [.int .i64 _, .int .i64 _, .int .i64 _, .str _, .str _]) (d' := .bool _) (cs := [_, _, _, _, _]) rfl rfl rfl rfl rfl ⟨rfl, rfl⟩) ?_))
    first | (simp [X6, dOV, h1, h2, h3]; done) | (simp_all [X6, dOV]; done)
   ·try rw [h3]
    try simp only [qa, qb, qc, qd, qe] at h3
    refine Qv (Qd (kp3 rfl rfl rfl) (Qf fun K hK => ZH rfl ?_))
    refine hK _ _ (Qb (kp4 rfl rfl rfl rfl) ?_)
    refine Qz ?_ -- 1
    refine Qf fun K hK => Qa rfl ?_
    refine hK _ _ (Qb (kp4 rfl rfl rfl rfl) ?_)
    refine Qy (Qf fun K hK => ZL rfl rfl (Qa rfl ?_))
    refine hK _ _ (Qb (kp5 rfl rfl rfl rfl rfl) ?_)
    refine Qw rfl (fun h4 => ?_) (fun h4 => ?_)
    ·try rw [h4]
     try simp only [qa, qb, qc, qd, qe] at h4
     refine QL fun K hK => Qh rfl rfl (QC rfl rfl rfl (QY rfl rfl (Qq (by have := QcE (by simpa using h1); omega) (by have := QcE (by simpa using h1); omega)) (QZ rfl rfl (Q7 rfl rfl rfl rfl rfl rfl rfl rfl (hK _ ?_)))))
     refine Qg (Qd (kp2 rfl rfl) ?_)
     refine Qz ?_ -- 2
     refine Qf fun K hK => QG (cs := [_, _, _, _, _]) rfl rfl rfl rfl (QH (Zh (by simp) (by simp)) rfl rfl (.inr rfl) (Z9 rfl ?_))
     refine hK _ _ (Qb (kp3 rfl rfl rfl) ?_)
     refine Qw rfl (fun h5 => ?_) (fun h5 => ?_)
     ·try rw [h5]
      try simp only [qa, qb, qc, qd, qe] at h5
      refine Qf fun K hK => QZ rfl rfl (Q7 rfl rfl rfl rfl rfl rfl rfl rfl (Qa rfl ?_))
      refine hK _ _ (Qb (kp2 rfl rfl) ?_)
      refine Qu (Qj (Post.eq (XD (ds := [.int .i64 _, .int .i64 _, .int .i64 _, .str _, .str _]) (d' := .bool _) (cs := [_, _, _, _, _]) rfl rfl rfl rfl rfl ⟨rfl, rfl⟩) ?_))
      first | (simp [X6, dOV, h1, h2, h3, h4, h5]; done) | (simp_all [X6, dOV]; done)
     ·try rw [h5]
      try simp only [qa, qb, qc, qd, qe] at h5
      refine Qv (Qd (kp2 rfl rfl) (Qf fun K hK => QG (cs := [_, _, _, _, _]) rfl rfl rfl rfl (Q7 rfl rfl rfl rfl rfl rfl rfl rfl (Qa rfl ?_))))
      refine hK _ _ (Qb (kp2 rfl rfl) ?_)
      refine Qu (Post.eq (XD (ds := [.int .i64 _, .int .i64 _, .int .i64 _, .str _, .str _]) (d' := .bool _) (cs := [_, _, _, _, _]) rfl rfl rfl rfl rfl ⟨rfl, rfl⟩) ?_)
      first | (simp [X6, dOV, h1, h2, h3, h4, h5]; done) | (simp_all [X6, dOV]; done)
    ·try rw [h4]
     try simp only [qa, qb, qc, qd, qe] at h4
     refine Qf fun K hK => ZL rfl rfl (Qa rfl ?_)
     refine hK _ _ (Qb (kp4 rfl rfl rfl rfl) ?_)
     refine Qw rfl (fun h6 => ?_) (fun h6 => ?_)
     ·try rw [h6]
      try simp only [qa, qb, qc, qd, qe] at h6
      refine QL fun K hK => Qh rfl rfl (QC rfl rfl rfl (Qh rfl rfl (QC rfl rfl rfl (QY rfl rfl (Qq (by have := QcE (by simpa using h1); omega) (by have := QcE (by simpa using h1); omega)) (QZ rfl rfl (Q7 rfl rfl rfl rfl rfl rfl rfl rfl (hK _ ?_)))))))
      refine Qg (Qd (kp2 rfl rfl) ?_)
      refine Qz ?_ -- 2
      refine Qf fun K hK => QG (cs := [_, _, _, _, _]) rfl rfl rfl rfl (QH (Zh (by simp) (by simp)) rfl rfl (.inr rfl) (Z9 rfl ?_))
      refine hK _ _ (Qb (kp3 rfl rfl rfl) ?_)
      refine Qw rfl (fun h7 => ?_) (fun h7 => ?_)
      ·try rw [h7]
       try simp only [qa, qb, qc, qd, qe] at h7
       refine Qf fun K hK => QZ rfl rfl (Q7 rfl rfl rfl rfl rfl rfl rfl rfl (Qa rfl ?_))
       refine hK _ _ (Qb (kp2 rfl rfl) ?_)
       refine Qu (Qj (Post.eq (XD (ds := [.int .i64 _, .int .i64 _, .int .i64 _, .str _, .str _]) (d' := .bool _) (cs := [_, _, _, _, _]) rfl rfl rfl rfl rfl ⟨rfl, rfl⟩) ?_))
       first | (simp [X6, dOV, h1, h2, h3, h4, h6, h7]; done) | (simp_all [X6, dOV]; done)
      ·try rw [h7]
       try simp only [qa, qb, qc, qd, qe] at h7
       refine Qv (Qd (kp2 rfl rfl) (Qf fun K hK => QG (cs := [_, _, _, _, _]) rfl rfl rfl rfl (Q7 rfl rfl rfl rfl rfl rfl rfl rfl (Qa rfl ?_))))
       refine hK _ _ (Qb (kp2 rfl rfl) ?_)
       refine Qu (Post.eq (XD (ds := [.int .i64 _, .int .i64 _, .int .i64 _, .str _, .str _]) (d' := .bool _) (cs := [_, _, _, _, _]) rfl rfl rfl rfl rfl ⟨rfl, rfl⟩) ?_)
       first | (simp [X6, dOV, h1, h2, h3, h4, h6, h7]; done) | (simp_all [X6, dOV]; done)
     ·try rw [h6]
      try simp only [qa, qb, qc, qd, qe] at h6
      refine QL fun K hK => Qh rfl rfl (QC rfl rfl rfl (Qh rfl rfl (QC rfl rfl rfl (Qh rfl rfl (QC rfl rfl rfl (QY rfl rfl (Qq (by have := QcE (by simpa using h1); omega) (by have := QcE (by simpa using h1); omega)) (QZ rfl rfl (Q7 rfl rfl rfl rfl rfl rfl rfl rfl (hK _ ?_)))))))))
      refine Qg (Qd (kp2 rfl rfl) ?_)
      refine Qz ?_ -- 2
      refine Qf fun K hK => QG (cs := [_, _, _, _, _]) rfl rfl rfl rfl (QH (Zh (by simp) (by simp)) rfl rfl (.inr rfl) (Z9 rfl ?_))
      refine hK _ _ (Qb (kp3 rfl rfl rfl) ?_)
      refine Qw rfl (fun h8 => ?_) (fun h8 => ?_)
      ·try rw [h8]
       try simp only [qa, qb, qc, qd, qe] at h8
       refine Qf fun K hK => QZ rfl rfl (Q7 rfl rfl rfl rfl rfl rfl rfl rfl (Qa rfl ?_))
       refine hK _ _ (Qb (kp2 rfl rfl) ?_)
       refine Qu (Qj (Post.eq (XD (ds := [.int .i64 _, .int .i64 _, .int .i64 _, .str _, .str _]) (d' := .bool _) (cs := [_, _, _, _, _]) rfl rfl rfl rfl rfl ⟨rfl, rfl⟩) ?_))
       first | (simp [X6, dOV, h1, h2, h3, h4, h6, h8]; done) | (simp_all [X6, dOV]; done)
      ·try rw [h8]
       try simp only [qa, qb, qc, qd, qe] at h8
       refine Qv (Qd (kp2 rfl rfl) (Qf fun K hK => QG (cs := [_, _, _, _, _]) rfl rfl rfl rfl (Q7 rfl rfl rfl rfl rfl rfl rfl rfl (Qa rfl ?_))))
       refine hK _ _ (Qb (kp2 rfl rfl) ?_)
       refine Qu (Post.eq (XD (ds := [.int .i64 _, .int .i64 _, .int .i64 _, .str _, .str _]) (d' := .bool _) (cs := [_, _, _, _, _]) rfl rfl rfl rfl rfl ⟨rfl, rfl⟩) ?_)
       first | (simp [X6, dOV, h1, h2, h3, h4, h6, h8]; done) | (simp_all [X6, dOV]; done)
theorem Qdi {a b c : Int} {p q : List UInt8} (hp : p.length <= 1000000) (hq : q.length <= 1000000) : Ok Tryz.prog 81 [.agg [.int .i64 a, .int .i64 b, .int .i64 c, .str p, .str q]] (dOV (Qi0 a b c p q)) := by
 refine Ok.ofT ZP Tryz.func81 Qte (Nat.le_of_ble_eq_true rfl) ?_
 show TW _ _ tf81.body _ _
 refine Qf fun K hK => Zr rfl rfl rfl (ZH rfl (Qa rfl ?_))
 refine hK _ _ (Qb (kp2 rfl rfl) ?_)
 refine Qz ?_ -- 0
 refine Qf fun K hK => QG (cs := [_, _, _, _, _]) rfl rfl rfl rfl (QH (Zh (by omega) (by omega)) rfl rfl (.inr rfl) (Z9 rfl ?_))
 refine hK _ _ (Qb (kp3 rfl rfl rfl) ?_)
 refine Qw rfl (fun h1 => ?_) (fun h1 => ?_)
 ·try rw [h1]
  try simp only [qa, qb, qc, qd, qe] at h1
  refine Qf fun K hK => QZ rfl rfl (Q7 rfl rfl rfl rfl rfl rfl rfl rfl (Qa rfl ?_))
  refine hK _ _ (Qb (kp2 rfl rfl) ?_)
  refine Qu (Qj (Post.eq (XD (ds := [.int .i64 _, .int .i64 _, .int .i64 _, .str _, .str _]) (d' := .bool _) (cs := [_, _, _, _, _]) rfl rfl rfl rfl rfl ⟨rfl, rfl⟩) ?_))
  simp [Qi0, dOV, h1]
 ·try rw [h1]
  try simp only [qa, qb, qc, qd, qe] at h1
  refine Qv (Qd (kp2 rfl rfl) ?_)
  refine Qz ?_ -- 1
  refine Qf fun K hK => Qh rfl rfl (QC rfl rfl rfl (QnU rfl rfl ?_))
  refine hK _ _ (Qb (kp3 rfl rfl rfl) ?_)
  refine Qw rfl (fun h2 => ?_) (fun h2 => ?_)
  ·try rw [h2]
   try simp only [qa, qb, qc, qd, qe] at h2
   refine Qf fun K hK => Qh rfl rfl (QC rfl rfl rfl (Qh rfl rfl (QC rfl rfl rfl (Qh rfl rfl (QC rfl rfl rfl (QZ rfl rfl (Q7 rfl rfl rfl rfl rfl rfl rfl rfl (Qa rfl ?_))))))))
   refine hK _ _ (Qb (kp2 rfl rfl) ?_)
   refine Qu (Qj (Post.eq (XD (ds := [.int .i64 _, .int .i64 _, .int .i64 _, .str _, .str _]) (d' := .bool _) (cs := [_, _, _, _, _]) rfl rfl rfl rfl rfl ⟨rfl, rfl⟩) ?_))
   simp [Qi0, dOV, h1, h2]
  ·try rw [h2]
   try simp only [qa, qb, qc, qd, qe] at h2
   refine Qv (Qd (kp2 rfl rfl) ?_)
   refine Qz ?_ -- 2
   refine Qf fun K hK => Qa rfl ?_
   refine hK _ _ (Qb (kp3 rfl rfl rfl) ?_)
   refine Qy ?_
   refine Zi (ι := Nat) (fun m => ⟨[(1, .ref 1 0 0), (2, .ref 2 0 0), (4, .int .i64 ((m : Int) - 1))], [(1, ⟨[[.int .i64 a, .int .i64 b, .int .i64 c, .str p, .str q]], 5, 67, true⟩), (2, ⟨[[.int .i64 0, .int .i64 0, .int .i64 0, .str [], .str []]], 5, 67, true⟩)]⟩) (fun m => m <= 3 /\ XF a b c p q 3 = XF a b c p q m) (fun m => m) 3 ?_ ?_ ?_
   ·exact QX (l := [1, 2, 4]) (lH := [1, 2]) (kp3 rfl rfl rfl) (Qe rfl (Qe rfl Ql)) rfl rfl rfl
   ·exact ⟨by omega, rfl⟩
   intro m hI
   obtain ⟨hI1, hI2⟩ := hI
   try dsimp only
   refine Qz ?_ -- 3
   refine Qf fun K hK => Qa rfl (Qen rfl rfl ?_)
   refine hK _ _ (Qb (kp4 rfl rfl rfl rfl) ?_)
   refine Qw rfl (fun h3 => ?_) (fun h3 => ?_)
   ·try rw [h3]
    try simp only [qa, qb, qc, qd, qe] at h3
    rcases Nat.eq_zero_or_pos m with hm | hm <;> first | omega | skip
    refine Qv (Qd (kp3 rfl rfl rfl) ?_)
    refine Qz ?_ -- 4
    refine Qy (Qf fun K hK => QG (cs := [_, _, _, _, _]) rfl rfl rfl rfl (Qa rfl (QH (Qdh (by omega) (by omega)) rfl rfl (.inl rfl) (Qa rfl (QV rfl rfl (QV rfl rfl (ZH rfl (Q7 rfl rfl rfl rfl rfl rfl rfl rfl (Qa rfl ?_)))))))))
    refine hK _ _ (Qb (kp5 rfl rfl rfl rfl rfl) ?_)
    refine Qf fun K hK => Qa rfl ?_
    refine hK _ _ (Qb (kp5 rfl rfl rfl rfl rfl) ?_)
    refine Qw rfl (fun h4 => ?_) (fun h4 => ?_)
    ·try rw [h4]
     try simp only [qa, qb, qc, qd, qe] at h4
     refine Qf fun K hK => QG (cs := [_, _, _, _, _]) rfl rfl rfl rfl (Q7 rfl rfl rfl rfl rfl rfl rfl rfl (Qa rfl ?_))
     refine hK _ _ (Qb (kp2 rfl rfl) ?_)
     refine Qu (Qr (Qj (QW (Qr (Qj (Post.eq (XD (ds := [.int .i64 _, .int .i64 _, .int .i64 _, .str _, .str _]) (d' := .bool _) (cs := [_, _, _, _, _]) rfl rfl rfl rfl rfl ⟨rfl, rfl⟩) ?_))))))
     subst h2
     simp [Qi0, dOV, h1, hI2, Qiu hm h4, h4]
    ·try rw [h4]
     try simp only [qa, qb, qc, qd, qe] at h4
     refine Qv (Qg (Qd (kp3 rfl rfl rfl) (QL fun K hK => Qa rfl (Qas rfl rfl (by first | exact Qq (by omega) (by omega) | rfl) (Qa rfl (hK _ ?_))))))
     refine Qi (m - 1) ?_ ?_ ?_
     ·refine QX (l := [1, 2, 4]) (lH := [1, 2]) (kp3 rfl rfl rfl) (Qe rfl (Qe rfl Ql)) ?_ rfl rfl; simp only [List.cons.injEq, Prod.mk.injEq, D.int.injEq, and_true, true_and]; omega
     ·exact ⟨by omega, by rw [hI2]; exact QjH hm h4⟩
     ·show m - 1 < m; omega
   ·try rw [h3]
    try simp only [qa, qb, qc, qd, qe] at h3
    rcases Nat.eq_zero_or_pos m with hm | hm <;> first | omega | skip
    refine Za (QJ (Qx (QB (Qd (kp1 rfl) (Qf fun K hK => QZ rfl rfl (Q7 rfl rfl rfl rfl rfl rfl rfl rfl (Qa rfl ?_)))))))
    refine hK _ _ (Qb (kp2 rfl rfl) ?_)
    refine Qu (Post.eq (XD (ds := [.int .i64 _, .int .i64 _, .int .i64 _, .str _, .str _]) (d' := .bool _) (cs := [_, _, _, _, _]) rfl rfl rfl rfl rfl ⟨rfl, rfl⟩) ?_)
    subst h2
    subst hm
    have hb : XF a b c [] q 3 = none := hI2
    simp [Qi0, dOV, h1, hb]
end Go.Proofs
namespace Go.Proofs
open Go Go.Abs M3 M25
set_option linter.unusedVariables false
set_option linter.unusedSimpArgs false
theorem XZ {e a b c : Int} {p q : List UInt8} {f : Bool} : Ok Tryz.prog 103 [.agg [.int .i64 e, .int .i64 a, .int .i64 b, .int .i64 c, .str p, .str q, .bool f]] (.bool (Qg6 e a b c p q f)) := by
 refine Ok.ofT ZP Tryz.func103 QrE (Nat.le_of_ble_eq_true rfl) ?_
 show TW _ _ tf103.body _ _
 refine Qf fun K hK => Zr rfl rfl rfl (Qa rfl ?_)
 refine hK _ _ (Qb (kp1 rfl) ?_)
 refine Qf fun K hK => Qh rfl rfl (QC rfl rfl rfl (X1 rfl rfl (Qa rfl ?_)))
 refine QF (g := 6) rfl (fun h1 => ?_) (fun h1 => ?_)
 ·try rw [h1]
  try simp only [qa, qb, qc, qd, qe] at h1
  refine Qt rfl (Qt rfl (Qt rfl (Qt rfl (Zj rfl (Zj rfl (Zj rfl (Zj rfl (Qt rfl (Qt rfl (Zj rfl (Zj rfl ?_)))))))))))
  refine Zj rfl (Zj rfl (Qt rfl (Qm rfl rfl (Qa rfl ?_))))
  refine hK _ _ (Qb (kp1 rfl) ?_)
  refine Qu (Qs rfl ?_)
  simp_all [Qg6]
 ·try rw [h1]
  try simp only [qa, qb, qc, qd, qe] at h1
  refine Qk rfl (Qh rfl rfl (Qk rfl (QC rfl rfl rfl (Qk rfl (Z9 rfl (Qk rfl (Qa rfl ?_)))))))
  refine QF (g := 10) rfl (fun h2 => ?_) (fun h2 => ?_)
  ·try rw [h2]
   try simp only [qa, qb, qc, qd, qe] at h2
   refine Qk rfl (Qh rfl rfl (Qk rfl (Qh rfl rfl (Qk rfl (QC rfl rfl rfl (Qk rfl (Qhr rfl rfl (Qk rfl (Qm rfl rfl (Qk rfl (Qa rfl ?_)))))))))))
   refine QF (g := 16) rfl (fun h3 => ?_) (fun h3 => ?_)
   ·try rw [h3]
    try simp only [qa, qb, qc, qd, qe] at h3
    refine Qk rfl (Qh rfl rfl (Qk rfl (QG (cs := [_, _, _, _, _]) rfl rfl rfl rfl (Qk rfl (QH (XY) rfl rfl (.inr rfl) (Qk rfl (Z9 rfl (Qk rfl (Qm rfl rfl (Qm rfl rfl (Qa rfl ?_)))))))))))
    refine hK _ _ (Qb (kp1 rfl) ?_)
    refine Qu (Qs rfl ?_)
    simp_all [Qg6]
   ·try rw [h3]
    try simp only [qa, qb, qc, qd, qe] at h3
    refine Qt rfl (Qt rfl (Qt rfl (Qt rfl (Qk rfl (Qm rfl rfl (Qm rfl rfl (Qa rfl ?_)))))))
    refine hK _ _ (Qb (kp1 rfl) ?_)
    refine Qu (Qs rfl ?_)
    simp_all [Qg6]
  ·try rw [h2]
   try simp only [qa, qb, qc, qd, qe] at h2
   refine Qt rfl (Qt rfl (Qt rfl (Qt rfl (Qk rfl (Qm rfl rfl (Qk rfl (Qa rfl (Qt rfl (Qt rfl (Qt rfl (Qt rfl ?_)))))))))))
   refine Qk rfl (Qm rfl rfl (Qm rfl rfl (Qa rfl ?_)))
   refine hK _ _ (Qb (kp1 rfl) ?_)
   refine Qu (Qs rfl ?_)
   simp_all [Qg6]
theorem Qc3 {a b c : Int} {p q : List UInt8} : Ok Tryz.prog 59 [.agg [.int .i64 a, .int .i64 b, .int .i64 c, .str p, .str q]] (.agg (dCu (Qga a b c))) := by
 refine Ok.ofT ZP Tryz.func59 QsS (Nat.le_of_ble_eq_true rfl) ?_
 show TW _ _ tf59.body _ _
 refine Qf fun K hK => Zr rfl rfl rfl (ZH rfl ?_)
 refine hK _ _ (Qb (kp2 rfl rfl) ?_)
 refine Qz ?_ -- 0
 refine Qf fun K hK => QG (cs := [_, _, _, _, _]) rfl rfl rfl rfl (QH (XY) rfl rfl (.inr rfl) ?_)
 refine hK _ _ (Qb (kp3 rfl rfl rfl) ?_)
 refine Qw rfl (fun h1 => ?_) (fun h1 => ?_)
 ·try rw [h1]
  try simp only [qa, qb, qc, qd, qe] at h1
  refine Qf fun K hK => QH (YZ) rfl rfl (.inl rfl) (Q7 rfl rfl rfl rfl rfl rfl rfl rfl ?_)
  refine hK _ _ (Qb (kp1 rfl) ?_)
  refine Qu (Qj (Post.eq (ZF (ds := [.int .i64 _, .int .i64 _, .int .i64 _, .int .i64 _, .str _, .str _, .bool _]) (cs := [_, _, _, _, _, _, _]) rfl rfl rfl rfl rfl) ?_))
  simp [Qga, dCu, QbM, h1]
 ·try rw [h1]
  try simp only [qa, qb, qc, qd, qe] at h1
  refine Qv (Qd (kp2 rfl rfl) (Qf fun K hK => Qh rfl rfl (QC rfl rfl rfl (Qh rfl rfl (QC rfl rfl rfl (Qh rfl rfl (QC rfl rfl rfl (QZ rfl rfl (QH (YM) rfl rfl (.inl rfl) (Q7 rfl rfl rfl rfl rfl rfl rfl rfl ?_))))))))))
  refine hK _ _ (Qb (kp1 rfl) ?_)
  refine Qu (Post.eq (ZF (ds := [.int .i64 _, .int .i64 _, .int .i64 _, .int .i64 _, .str _, .str _, .bool _]) (cs := [_, _, _, _, _, _, _]) rfl rfl rfl rfl rfl) ?_)
  simp [Qga, dCu, QbM, h1]
theorem Qb6 {a b c : Int} {p q : List UInt8} : Ok Tryz.prog 60 [.agg [.int .i64 a, .int .i64 b, .int .i64 c, .str p, .str q]] (.agg (dCu (QdX a b c))) := by
 refine Ok.ofT ZP Tryz.func60 QsT (Nat.le_of_ble_eq_true rfl) ?_
 show TW _ _ tf60.body _ _
 refine Qf fun K hK => Zr rfl rfl rfl (ZH rfl ?_)
 refine hK _ _ (Qb (kp2 rfl rfl) ?_)
 refine Qf fun K hK => Qh rfl rfl (QC rfl rfl rfl (Qh rfl rfl (QC rfl rfl rfl (Qh rfl rfl (QC rfl rfl rfl (QZ rfl rfl (QH (Qdi (by simp) (by simp)) rfl rfl (.inl rfl) (Qa rfl (QV rfl rfl (QV rfl rfl ?_))))))))))
 refine ZH rfl (Q7 rfl rfl rfl rfl rfl rfl rfl rfl (Qa rfl ?_))
 refine hK _ _ (Qb (kp3 rfl rfl rfl) ?_)
 refine Qz ?_ -- 0
 refine Qf fun K hK => Qa rfl (Z9 rfl ?_)
 refine hK _ _ (Qb (kp3 rfl rfl rfl) ?_)
 refine Qw rfl (fun h1 => ?_) (fun h1 => ?_)
 ·try rw [h1]
  try simp only [qa, qb, qc, qd, qe] at h1
  refine Qf fun K hK => QH (Xb) rfl rfl (.inl rfl) (Q7 rfl rfl rfl rfl rfl rfl rfl rfl ?_)
  refine hK _ _ (Qb (kp1 rfl) ?_)
  refine Qu (Qj (Post.eq (ZF (ds := [.int .i64 _, .int .i64 _, .int .i64 _, .int .i64 _, .str _, .str _, .bool _]) (cs := [_, _, _, _, _, _, _]) rfl rfl rfl rfl rfl) ?_))
  cases hn : Qi0 a b c [] [] <;> simp [QdX, dCu, Qe7, hn] at *
 ·try rw [h1]
  try simp only [qa, qb, qc, qd, qe] at h1
  refine Qv (Qd (kp2 rfl rfl) (Qf fun K hK => QG (cs := [_, _, _, _, _]) rfl rfl rfl rfl (QH (YM) rfl rfl (.inl rfl) (Q7 rfl rfl rfl rfl rfl rfl rfl rfl ?_))))
  refine hK _ _ (Qb (kp1 rfl) ?_)
  refine Qu (Post.eq (ZF (ds := [.int .i64 _, .int .i64 _, .int .i64 _, .int .i64 _, .str _, .str _, .bool _]) (cs := [_, _, _, _, _, _, _]) rfl rfl rfl rfl rfl) ?_)
  cases hn : Qi0 a b c [] [] <;> simp [QdX, dCu, Qe7, hn] at *
theorem X0  : Ok Tryz.prog 75 [] (ZG [(QbM, Qe7)]) := by
 refine Ok.ofT ZP Tryz.func75 Qs8 (Nat.le_of_ble_eq_true rfl) ?_
 show TW _ _ tf75.body _ _
 refine Qf fun K hK => Qa rfl ?_
 refine hK _ _ (Qb (Q2) ?_)
 refine Qf fun K hK => QH (YZ) rfl rfl (.inl rfl) (QH (Xb) rfl rfl (.inl rfl) (QZ rfl rfl (QE rfl rfl (Qa rfl ?_))))
 refine hK _ _ (Qb (kp1 rfl) ?_)
 refine Qu (Yj rfl ?_)
 rfl
theorem Yb  : Ok Tryz.prog 56 [] (Qhz ([], [])) := by
 refine Ok.ofT ZP Tryz.func56 QsP (Nat.le_of_ble_eq_true rfl) ?_
 show TW _ _ tf56.body _ _
 refine Qf fun K hK => ZH rfl ?_
 refine hK _ _ (Qb (kp1 rfl) ?_)
 refine Qf fun K hK => QZ rfl rfl (Q7 rfl rfl rfl rfl rfl rfl rfl rfl ?_)
 refine hK _ _ (Qb (kp1 rfl) ?_)
 refine Qu (Post.eq (ZF (ds := [.sl _, .sl _]) (cs := [_, _]) rfl rfl rfl rfl rfl) ?_)
 rfl
theorem QaC  : Ok Tryz.prog 54 [] (Qhz ([(QbM, Qe7)], [(QbM, Qe7)])) := by
 refine Ok.ofT ZP Tryz.func54 QsN (Nat.le_of_ble_eq_true rfl) ?_
 show TW _ _ tf54.body _ _
 refine Qf fun K hK => ZH rfl ?_
 refine hK _ _ (Qb (kp1 rfl) ?_)
 refine Qf fun K hK => QH (X0) rfl rfl (.inl rfl) (QH (X0) rfl rfl (.inl rfl) (QZ rfl rfl (Q7 rfl rfl rfl rfl rfl rfl rfl rfl ?_)))
 refine hK _ _ (Qb (kp1 rfl) ?_)
 refine Qu (Post.eq (ZF (ds := [.sl _, .sl _]) (cs := [_, _]) rfl rfl rfl rfl rfl) ?_)
 rfl
theorem XX {a b c : Int} {p q : List UInt8} (hp : p.length <= 1000000) (hq : q.length <= 1000000) : Ok Tryz.prog 35 [.agg [.int .i64 a, .int .i64 b, .int .i64 c, .str p, .str q]] (Qhz (Xh a b c p q)) := by
 refine Ok.ofT ZP Tryz.func35 Qsu (Nat.le_of_ble_eq_true rfl) ?_
 show TW _ _ tf35.body _ _
 refine Qf fun K hK => Zr rfl rfl rfl (ZH rfl ?_)
 refine hK _ _ (Qb (kp2 rfl rfl) ?_)
 refine Qz ?_ -- 0
 refine Qf fun K hK => QG (cs := [_, _, _, _, _]) rfl rfl rfl rfl (QH (Zh (by omega) (by omega)) rfl rfl (.inr rfl) (Z9 rfl ?_))
 refine hK _ _ (Qb (kp3 rfl rfl rfl) ?_)
 refine Qw rfl (fun h1 => ?_) (fun h1 => ?_)
 ·try rw [h1]
  try simp only [qa, qb, qc, qd, qe] at h1
  refine Qf fun K hK => QH (Yb) rfl rfl (.inl rfl) (Q7 rfl rfl rfl rfl rfl rfl rfl rfl ?_)
  refine hK _ _ (Qb (kp1 rfl) ?_)
  refine Qu (Qj (Post.eq (ZF (ds := [.sl _, .sl _]) (cs := [_, _]) rfl rfl rfl rfl rfl) ?_))
  simp [Xh, Qhz, ZG, Qe5, dCu, h1]
 ·try rw [h1]
  try simp only [qa, qb, qc, qd, qe] at h1
  refine Qv (Qd (kp2 rfl rfl) ?_)
  refine Qz ?_ -- 1
  refine Qf fun K hK => Qh rfl rfl (QC rfl rfl rfl (QnU rfl rfl ?_))
  refine hK _ _ (Qb (kp3 rfl rfl rfl) ?_)
  refine Qw rfl (fun h2 => ?_) (fun h2 => ?_)
  ·try rw [h2]
   try simp only [qa, qb, qc, qd, qe] at h2
   refine Qf fun K hK => QN (ds0 := [6, 3, 2, 1, 0]) (cs := [_, _, _, _, _]) rfl rfl rfl rfl rfl rfl (QU (ds0 := [3, 2, 1, 0]) (YM) rfl rfl (.inl rfl) rfl rfl (QN (ds0 := [4, 3, 2, 1, 0]) (cs := [_, _, _, _, _]) rfl rfl rfl rfl rfl rfl (QU (ds0 := [3, 2, 1, 0]) (Qb5) rfl rfl (.inl rfl) rfl rfl (QZ rfl rfl (QE rfl rfl (QZ rfl rfl (Y4 (ds0 := []) rfl rfl rfl rfl rfl rfl rfl rfl rfl rfl ?_)))))))
   refine hK _ _ (Qb (kp1 rfl) ?_)
   refine Qu (Qj (Post.eq (ZF (ds := [.sl _, .sl _]) (cs := [_, _]) rfl rfl rfl rfl rfl) ?_))
   simp [Xh, Qhz, ZG, Qe5, dCu, h1, h2]
  ·try rw [h2]
   try simp only [qa, qb, qc, qd, qe] at h2
   refine Qv (Qd (kp2 rfl rfl) (Qf fun K hK => QN (ds0 := [6, 3, 2, 1, 0]) (cs := [_, _, _, _, _]) rfl rfl rfl rfl rfl rfl (QU (ds0 := [3, 2, 1, 0]) (Qc3) rfl rfl (.inl rfl) rfl rfl (QN (ds0 := [4, 3, 2, 1, 0]) (cs := [_, _, _, _, _]) rfl rfl rfl rfl rfl rfl (QU (ds0 := [3, 2, 1, 0]) (Qb6) rfl rfl (.inl rfl) rfl rfl (QZ rfl rfl (QE rfl rfl (QZ rfl rfl (Y4 (ds0 := []) rfl rfl rfl rfl rfl rfl rfl rfl rfl rfl ?_)))))))))
   refine hK _ _ (Qb (kp1 rfl) ?_)
   refine Qu (Post.eq (ZF (ds := [.sl _, .sl _]) (cs := [_, _]) rfl rfl rfl rfl rfl) ?_)
   subst h2
   simp [Xh, Qhz, ZG, Qe5, dCu, h1]
end Go.Proofs
namespace Go.Proofs
open Go Go.Abs M3 M25
set_option linter.unusedVariables false
set_option linter.unusedSimpArgs false
theorem ZX {l : List (Cu × Cu)} (hl : Sm l) : Ok Tryz.prog 102 [ZG l] (.bool (QeD l)) := by
 refine Ok.ofT ZP Tryz.func102 QrD (Nat.le_of_ble_eq_true rfl) ?_
 show TW _ _ tf102.body _ _
 have hn := hl.1
 refine Qf fun K hK => Qa rfl ?_
 refine hK _ _ (Qb (kp1 rfl) ?_)
 refine Qz ?_ -- 0
 refine Qf fun K hK => Qa rfl ?_
 refine hK _ _ (Qb (kp2 rfl rfl) ?_)
 refine Qy ?_
 refine Zi (ι := Nat) (fun i => ⟨[(0, ZG l), (3, .int .i64 i)], []⟩) (fun i => i <= l.length /\ (List.range i).all (Qqo l) = true) (fun i => l.length - i) 0 ?_ ?_ ?_
 ·exact Zd (kp2 rfl rfl)
 ·exact ⟨Nat.zero_le _, rfl⟩
 intro i hI
 try dsimp only
 refine Qz ?_ -- 1
 refine Qf fun K hK => Qa rfl (Qa rfl (QO rfl rfl (ZW rfl rfl ?_)))
 refine hK _ _ (Qb (kp3 rfl rfl rfl) ?_)
 refine Qw rfl (fun h1 => ?_) (fun h1 => ?_)
 ·try rw [h1]
  try simp only [qa, qb, qc, qd, qe, List.length_map] at h1
  refine Qv (Qd (kp2 rfl rfl) ?_)
  refine Qz ?_ -- 2
  refine Qy (Qf fun K hK => Qa rfl (Qa rfl (QK rfl rfl rfl (by omega) (QS (by omega)) rfl (QN (ds0 := [20, 19, 18, 17, 16, 15, 14, 13, 12, 11, 10, 9, 8, 7, 6, 5, 4, 3, 2, 1, 0]) (cs := [_, _, _, _, _, _, _, _, _, _, _, _, _, _]) rfl rfl rfl rfl rfl rfl (QU (ds0 := [19, 18, 17, 16, 15, 14, 13, 12, 11, 10, 9, 8, 7, 6, 5, 4, 3, 2, 1, 0]) (YG (hl.at (i := i) (by omega)).1.1 (hl.at (i := i) (by omega)).1.2 (hl.at (i := i) (by omega)).2.1 (hl.at (i := i) (by omega)).2.2) rfl rfl (.inr rfl) rfl rfl (Z9 rfl (Qa rfl ?_)))))))
  refine QF (g := 16) rfl (fun h2 => ?_) (fun h2 => ?_)
  ·try rw [h2]
   try simp only [qa, qb, qc, qd, qe, List.length_map] at h2
   refine Qt rfl (Qt rfl (Qt rfl (Zj rfl (Zj rfl (Zj rfl (Zj rfl (Zj rfl (Zj rfl (Zj rfl (Zj rfl (Zj rfl ?_)))))))))))
   refine Zj rfl (Zj rfl (Zj rfl (Zj rfl (Qt rfl (Qm rfl rfl ?_)))))
   refine hK _ _ (Qb (kp3 rfl rfl rfl) ?_)
   refine Zs rfl (Qf fun K hK => Qa rfl ?_)
   refine hK _ _ (Qb (kp1 rfl) ?_)
   refine Qu (Qr (Qj (QW (Qr (Qj (Qs rfl ?_))))))
   first
    | exact (Qft hI.2 (by omega)).symm
    | exact (QbC (i := i) (by omega) (Qhb (by omega) (.inl h2))).symm
    | (simp only [Qd8] at *; exact (QbC (i := i) (by omega) (Qhb (by omega) (.inr ⟨by omega, h4⟩))).symm)
  ·try rw [h2]
   try simp only [qa, qb, qc, qd, qe, List.length_map] at h2
   refine Qk rfl (Qa rfl (Qk rfl (Qii rfl rfl (Qk rfl (Qa rfl ?_)))))
   refine QF (g := 19) rfl (fun h3 => ?_) (fun h3 => ?_)
   ·try rw [h3]
    try simp only [qa, qb, qc, qd, qe, List.length_map] at h3
    refine Qk rfl (Qa rfl (Qk rfl (Qa rfl (Qk rfl (Qas rfl rfl (by first | exact Qq (by omega) (by omega) | rfl) (Qk rfl (QK rfl rfl rfl (by omega) (Zu (by omega) (by omega)) rfl (Qk rfl (Q6 rfl rfl (Qk rfl (QN (ds0 := [3, 2, 1, 0]) (cs := [_, _, _, _, _, _, _]) rfl rfl rfl rfl rfl rfl ?_)))))))))))
    refine Qk rfl (Qa rfl (Qk rfl (Qa rfl (Qk rfl (QK rfl rfl rfl (by omega) (QS (by omega)) rfl (Qk rfl (Q6 rfl rfl (Qk rfl (QN (ds0 := [3, 2, 1, 0]) (cs := [_, _, _, _, _, _, _]) rfl rfl rfl rfl rfl rfl (Qk rfl (QU (ds0 := [2, 1, 0]) (Zx (hl.at (i := ((i : Int) - 1).toNat) (by omega)).2.1 (hl.at (i := ((i : Int) - 1).toNat) (by omega)).2.2 (hl.at (i := i) (by omega)).1.1 (hl.at (i := i) (by omega)).1.2) rfl rfl (.inr rfl) rfl rfl ?_)))))))))))
    refine Qk rfl (Qen rfl rfl (Qk rfl (Qm rfl rfl (Qm rfl rfl ?_))))
    refine hK _ _ (Qb (kp3 rfl rfl rfl) ?_)
    refine Qw rfl (fun h4 => ?_) (fun h4 => ?_)
    ·try rw [h4]
     try simp only [qa, qb, qc, qd, qe, List.length_map] at h4
     refine Qf fun K hK => Qa rfl ?_
     refine hK _ _ (Qb (kp1 rfl) ?_)
     refine Qu (Qr (Qj (QW (Qr (Qj (Qs rfl ?_))))))
     first
      | exact (Qft hI.2 (by omega)).symm
      | exact (QbC (i := i) (by omega) (Qhb (by omega) (.inl h2))).symm
      | (simp only [Qd8] at *; exact (QbC (i := i) (by omega) (Qhb (by omega) (.inr ⟨by omega, h4⟩))).symm)
    ·try rw [h4]
     try simp only [qa, qb, qc, qd, qe, List.length_map] at h4
     refine Qv (Qg (Qd (kp2 rfl rfl) (QL fun K hK => Qa rfl (QY rfl rfl (by first | exact Qq (by omega) (by omega) | rfl) (Qa rfl (hK _ ?_))))))
     refine Qi (i + 1) ?_ ?_ ?_
     ·exact Zd (kp2 rfl rfl)
     ·exact ⟨by omega, Qh5 hI.2 (Qph (by omega) h2 (by first | exact .inl (by omega) | (simp only [Qd8] at *; exact .inr (Int.not_le.1 h4))))⟩
     ·first | omega | (simp only; omega) | (dsimp only; omega)
   ·try rw [h3]
    try simp only [qa, qb, qc, qd, qe, List.length_map] at h3
    refine Qt rfl (Qt rfl (Qt rfl (Qt rfl (Qt rfl (Qt rfl (Qt rfl (Qt rfl (Qt rfl (Qt rfl (Qt rfl (Qt rfl ?_)))))))))))
    refine Qt rfl (Qk rfl (Qm rfl rfl (Qm rfl rfl ?_)))
    refine hK _ _ (Qb (kp3 rfl rfl rfl) ?_)
    refine Zz rfl (Qv (Qg (Qd (kp2 rfl rfl) (QL fun K hK => Qa rfl (QY rfl rfl (by first | exact Qq (by omega) (by omega) | rfl) (Qa rfl (hK _ ?_)))))))
    refine Qi (i + 1) ?_ ?_ ?_
    ·exact Zd (kp2 rfl rfl)
    ·exact ⟨by omega, Qh5 hI.2 (Qph (by omega) h2 (by first | exact .inl (by omega) | (simp only [Qd8] at *; exact .inr (Int.not_le.1 h4))))⟩
    ·first | omega | (simp only; omega) | (dsimp only; omega)
 ·try rw [h1]
  try simp only [qa, qb, qc, qd, qe, List.length_map] at h1
  refine Za (QJ (Qx (QB (Qd (Q2) (Qf fun K hK => Qa rfl ?_)))))
  refine hK _ _ (Qb (kp1 rfl) ?_)
  refine Qu (Qs rfl ?_)
  first
   | exact (Qft hI.2 (by omega)).symm
   | exact (QbC (i := i) (by omega) (Qhb (by omega) (.inl h2))).symm
   | (simp only [Qd8] at *; exact (QbC (i := i) (by omega) (Qhb (by omega) (.inr ⟨by omega, h4⟩))).symm)
theorem Qa0 {l : List (Cu × Cu)} (hl : Sm l) {x y : Cu} (hx : Cu.sm x) (hy : Cu.sm y) : Ok Tryz.prog 106 [ZG l, .agg (dCu x), .agg (dCu y)] (.bool (mIn l x y)) := by
 refine Ok.ofT ZP Tryz.func106 QrH (Nat.le_of_ble_eq_true rfl) ?_
 show TW _ _ tf106.body _ _
 have hn := hl.1
 refine Qf fun K hK => Zr rfl rfl rfl (Zr rfl rfl rfl (Qa rfl ?_))
 refine hK _ _ (Qb (kp3 rfl rfl rfl) ?_)
 refine Qz ?_ -- 0
 refine Qf fun K hK => Qa rfl ?_
 refine hK _ _ (Qb (kp4 rfl rfl rfl rfl) ?_)
 refine Qy ?_
 refine Zi (ι := Nat) (fun i => ⟨[(0, ZG l), (4, .ref 4 0 0), (5, .ref 5 0 0), (7, .int .i64 i)], [(4, ⟨[dCu x], 7, 105, true⟩), (5, ⟨[dCu y], 7, 105, true⟩)]⟩) (fun i => i <= l.length /\ (l.take i).any (inC x y) = false) (fun i => l.length - i) 0 ?_ ?_ ?_
 ·exact QX (l := [0, 4, 5, 7]) (lH := [4, 5]) (kp4 rfl rfl rfl rfl) (Qe rfl (Qe rfl Ql)) rfl rfl rfl
 ·exact ⟨Nat.zero_le _, by simp⟩
 intro i hI
 try dsimp only
 refine Qz ?_ -- 1
 refine Qf fun K hK => Qa rfl (Qa rfl (QO rfl rfl (ZW rfl rfl ?_)))
 refine hK _ _ (Qb (kp5 rfl rfl rfl rfl rfl) ?_)
 refine Qw rfl (fun h1 => ?_) (fun h1 => ?_)
 ·try rw [h1]
  try simp only [qa, qb, qc, qd, qe, List.length_map] at h1
  refine Qv (Qd (kp4 rfl rfl rfl rfl) ?_)
  refine Qz ?_ -- 2
  refine Qy (Qf fun K hK => Qa rfl (Qa rfl (QK rfl rfl rfl (by omega) (QS (by omega)) rfl (Q6 rfl rfl (QN (ds0 := [11, 10, 9, 8, 7, 6, 5, 4, 3, 2, 1, 0]) (cs := [_, _, _, _, _, _, _]) rfl rfl rfl rfl rfl rfl (QN (ds0 := [11, 10, 9, 8, 7, 6, 5, 4, 3, 2, 1, 0]) (cs := [_, _, _, _, _, _, _]) rfl rfl rfl rfl rfl rfl (QU (ds0 := [10, 9, 8, 7, 6, 5, 4, 3, 2, 1, 0]) (Zx (hl.at (i := i) (by omega)).1.1 (hl.at (i := i) (by omega)).1.2 hx.1 hx.2) rfl rfl (.inr rfl) rfl rfl (QoW rfl rfl (Qa rfl ?_)))))))))
  refine QF (g := 22) rfl (fun h2 => ?_) (fun h2 => ?_)
  ·try rw [h2]
   try simp only [qa, qb, qc, qd, qe, List.length_map] at h2
   refine Qk rfl (QN (ds0 := [2, 1, 0]) (cs := [_, _, _, _, _, _, _]) rfl rfl rfl rfl rfl rfl (Qk rfl (Qa rfl (Qk rfl (Qa rfl (Qk rfl (QK rfl rfl rfl (by omega) (QS (by omega)) rfl (Qk rfl (Q6 rfl rfl (Qk rfl (QN (ds0 := [2, 1, 0]) (cs := [_, _, _, _, _, _, _]) rfl rfl rfl rfl rfl rfl ?_)))))))))))
   refine Qk rfl (QU (ds0 := [1, 0]) (Zx hy.1 hy.2 (hl.at (i := i) (by omega)).2.1 (hl.at (i := i) (by omega)).2.2) rfl rfl (.inr rfl) rfl rfl (Qk rfl (QoW rfl rfl (Qm rfl rfl ?_))))
   refine hK _ _ (Qb (kp5 rfl rfl rfl rfl rfl) ?_)
   refine Qw rfl (fun h3 => ?_) (fun h3 => ?_)
   ·try rw [h3]
    try simp only [qa, qb, qc, qd, qe, List.length_map] at h3
    refine Qf fun K hK => Qa rfl ?_
    refine hK _ _ (Qb (kp1 rfl) ?_)
    refine Qu (Qr (Qj (QW (Qr (Qj (Qs rfl ?_))))))
    first
     | exact (Ql7 (i := i) (by omega) hI.2).symm
     | exact (QjF (i := i) (by omega) (QqK h2 h3)).symm
   ·try rw [h3]
    try simp only [qa, qb, qc, qd, qe, List.length_map] at h3
    refine Qv (Qg (Qd (kp4 rfl rfl rfl rfl) (QL fun K hK => Qa rfl (QY rfl rfl (by first | exact Qq (by omega) (by omega) | rfl) (Qa rfl (hK _ ?_))))))
    refine Qi (i + 1) ?_ ?_ ?_
    ·exact QX (l := [0, 4, 5, 7]) (lH := [4, 5]) (kp4 rfl rfl rfl rfl) (Qe rfl (Qe rfl Ql)) rfl rfl rfl
    ·exact ⟨by omega, Qiq (by omega) hI.2 (QqJ (by first | exact .inl h2 | exact .inr h3))⟩
    ·first | omega | (simp only; omega) | (dsimp only; omega)
  ·try rw [h2]
   try simp only [qa, qb, qc, qd, qe, List.length_map] at h2
   refine Qt rfl (Qt rfl (Qt rfl (Qt rfl (Qt rfl (Qt rfl (Qt rfl (Qt rfl (Qm rfl rfl ?_))))))))
   refine hK _ _ (Qb (kp5 rfl rfl rfl rfl rfl) ?_)
   refine Zz rfl (Qv (Qg (Qd (kp4 rfl rfl rfl rfl) (QL fun K hK => Qa rfl (QY rfl rfl (by first | exact Qq (by omega) (by omega) | rfl) (Qa rfl (hK _ ?_)))))))
   refine Qi (i + 1) ?_ ?_ ?_
   ·exact QX (l := [0, 4, 5, 7]) (lH := [4, 5]) (kp4 rfl rfl rfl rfl) (Qe rfl (Qe rfl Ql)) rfl rfl rfl
   ·exact ⟨by omega, Qiq (by omega) hI.2 (QqJ (by first | exact .inl h2 | exact .inr h3))⟩
   ·first | omega | (simp only; omega) | (dsimp only; omega)
 ·try rw [h1]
  try simp only [qa, qb, qc, qd, qe, List.length_map] at h1
  refine Za (QJ (Qx (QB (Qd (Q2) (Qf fun K hK => Qa rfl ?_)))))
  refine hK _ _ (Qb (kp1 rfl) ?_)
  refine Qu (Qs rfl ?_)
  first
   | exact (Ql7 (i := i) (by omega) hI.2).symm
   | exact (QjF (i := i) (by omega) (QqK h2 h3)).symm
end Go.Proofs
namespace Go.Proofs
open Go Go.Abs M3 M25
set_option linter.unusedVariables false
set_option linter.unusedSimpArgs false
theorem Qaz {l : List (Cu × Cu)} (hl : Sm l) {a b c : Int} {p q : List UInt8} (hp : p.length <= 1000000) (hq : q.length <= 1000000) : Ok Tryz.prog 108 [ZG l, .agg [.int .i64 a, .int .i64 b, .int .i64 c, .str p, .str q]] (.bool (QhV l a b c p q)) := by
 refine Ok.ofT ZP Tryz.func108 QrJ (Nat.le_of_ble_eq_true rfl) ?_
 show TW _ _ tf108.body _ _
 have hn := hl.1
 refine Qf fun K hK => Zr rfl rfl rfl (Qa rfl ?_)
 refine hK _ _ (Qb (kp2 rfl rfl) ?_)
 refine Qz ?_ -- 0
 refine Qf fun K hK => Qa rfl ?_
 refine hK _ _ (Qb (kp3 rfl rfl rfl) ?_)
 refine Qy ?_
 refine Zi (ι := Nat) (fun i => ⟨[(0, ZG l), (3, .ref 3 0 0), (5, .int .i64 i)], [(3, ⟨[[.int .i64 a, .int .i64 b, .int .i64 c, .str p, .str q]], 5, 67, true⟩)]⟩) (fun i => i <= l.length /\ (l.take i).any (fun s => QhW s a b c p q) = false) (fun i => l.length - i) 0 ?_ ?_ ?_
 ·exact QX (l := [0, 3, 5]) (lH := [3]) (kp3 rfl rfl rfl) (Qe rfl Ql) rfl rfl rfl
 ·exact ⟨Nat.zero_le _, by simp⟩
 intro i hI
 try dsimp only
 refine Qz ?_ -- 1
 refine Qf fun K hK => Qa rfl (Qa rfl (QO rfl rfl (ZW rfl rfl (Qa rfl ?_))))
 refine QF (g := 10) rfl (fun h1 => ?_) (fun h1 => ?_)
 ·try rw [h1]
  try simp only [qa, qb, qc, qd, qe, List.length_map] at h1
  refine Qk rfl (Qa rfl (Qk rfl (QH (ZX hl) rfl rfl (.inr rfl) (Qm rfl rfl ?_))))
  refine hK _ _ (Qb (kp4 rfl rfl rfl rfl) ?_)
  refine Qw rfl (fun h2 => ?_) (fun h2 => ?_)
  ·try rw [h2]
   try simp only [qa, qb, qc, qd, qe, List.length_map] at h2
   refine Qv (Qd (kp3 rfl rfl rfl) ?_)
   refine Qz ?_ -- 2
   refine Qy (Qf fun K hK => Qa rfl (Qa rfl (QK rfl rfl rfl (by omega) (QS (by omega)) rfl (QN (ds0 := [0]) (cs := [_, _, _, _, _, _, _, _, _, _, _, _, _, _]) rfl rfl rfl rfl rfl rfl (QN (ds0 := [0]) (cs := [_, _, _, _, _]) rfl rfl rfl rfl rfl rfl (QU (ds0 := []) (Qc2 (hl.at (i := i) (by omega)).1.1 (hl.at (i := i) (by omega)).1.2 (hl.at (i := i) (by omega)).2.1 (hl.at (i := i) (by omega)).2.2 hp hq) rfl rfl (.inr rfl) rfl rfl ?_))))))
   refine hK _ _ (Qb (kp4 rfl rfl rfl rfl) ?_)
   refine Qw rfl (fun h3 => ?_) (fun h3 => ?_)
   ·try rw [h3]
    try simp only [qa, qb, qc, qd, qe, List.length_map] at h3
    refine Qf fun K hK => Qa rfl ?_
    refine hK _ _ (Qb (kp1 rfl) ?_)
    refine Qu (Qr (Qj (QW (Qr (Qj (Qs rfl ?_))))))
    first
     | exact (QhJ (i := i) (by omega) hI.2).symm
     | exact (QhK h2).symm
     | exact (QhL h2 (i := i) (by omega) h3).symm
   ·try rw [h3]
    try simp only [qa, qb, qc, qd, qe, List.length_map] at h3
    refine Qv (Qg (Qd (kp3 rfl rfl rfl) (QL fun K hK => Qa rfl (QY rfl rfl (by first | exact Qq (by omega) (by omega) | rfl) (Qa rfl (hK _ ?_))))))
    refine Qi (i + 1) ?_ ?_ ?_
    ·exact QX (l := [0, 3, 5]) (lH := [3]) (kp3 rfl rfl rfl) (Qe rfl Ql) rfl rfl rfl
    ·exact ⟨by omega, Qiq (by omega) hI.2 h3⟩
    ·first | omega | (simp only; omega) | (dsimp only; omega)
  ·try rw [h2]
   try simp only [qa, qb, qc, qd, qe, List.length_map] at h2
   refine Za (QJ (Qx (QB (Qd (Q2) (Qf fun K hK => Qa rfl ?_)))))
   refine hK _ _ (Qb (kp1 rfl) ?_)
   refine Qu (Qs rfl ?_)
   first
    | exact (QhJ (i := i) (by omega) hI.2).symm
    | exact (QhK h2).symm
    | exact (QhL h2 (i := i) (by omega) h3).symm
 ·try rw [h1]
  try simp only [qa, qb, qc, qd, qe, List.length_map] at h1
  refine Qt rfl (Qt rfl (Qm rfl rfl ?_))
  refine hK _ _ (Qb (kp4 rfl rfl rfl rfl) ?_)
  refine Zz rfl (Za (QJ (Qx (QB (Qd (Q2) (Qf fun K hK => Qa rfl ?_))))))
  refine hK _ _ (Qb (kp1 rfl) ?_)
  refine Qu (Qs rfl ?_)
  first
   | exact (QhJ (i := i) (by omega) hI.2).symm
   | exact (QhK h2).symm
   | exact (QhL h2 (i := i) (by omega) h3).symm
theorem YH {s : List (Cu × Cu) × List (Cu × Cu)} (h1s : Sm s.1) (h2s : Sm s.2) : Ok Tryz.prog 97 [Qhz s] (.bool (Qgb s)) := by
 refine Ok.ofT ZP Tryz.func97 Qtu (Nat.le_of_ble_eq_true rfl) ?_
 show TW _ _ tf97.body _ _
 have hn := h1s.1
 refine Qf fun K hK => Zr rfl rfl rfl (Qa rfl ?_)
 refine hK _ _ (Qb (kp1 rfl) ?_)
 refine Qz ?_ -- 0
 refine Qf fun K hK => Qh rfl rfl (QC rfl rfl rfl (QH (ZX h1s) rfl rfl (.inr rfl) (Z9 rfl (Qa rfl ?_))))
 refine QF (g := 8) rfl (fun h1 => ?_) (fun h1 => ?_)
 ·try rw [h1]
  try simp only [qa, qb, qc, qd, qe, List.length_map] at h1
  refine Qt rfl (Qt rfl (Qt rfl (Qt rfl (Qm rfl rfl ?_))))
  refine hK _ _ (Qb (kp2 rfl rfl) ?_)
  refine Zs rfl (Qf fun K hK => Qa rfl ?_)
  refine hK _ _ (Qb (kp1 rfl) ?_)
  refine Qu (Qj (Qs rfl ?_))
  first
   | exact (Qd6 (i := i) h1 h2 (by omega) hI.2).symm
   | exact (QaP (i := i) (by omega) (.inl h4)).symm
   | exact (QaP (i := i) (by omega) (.inr h5)).symm
   | exact (QaQ (.inl h1)).symm
   | exact (QaQ (.inr h2)).symm
 ·try rw [h1]
  try simp only [qa, qb, qc, qd, qe, List.length_map] at h1
  refine Qk rfl (Qh rfl rfl (Qk rfl (QC rfl rfl rfl (Qk rfl (QH (ZX h2s) rfl rfl (.inr rfl) (Qk rfl (Z9 rfl (Qm rfl rfl ?_))))))))
  refine hK _ _ (Qb (kp2 rfl rfl) ?_)
  refine Qw rfl (fun h2 => ?_) (fun h2 => ?_)
  ·try rw [h2]
   try simp only [qa, qb, qc, qd, qe, List.length_map] at h2
   refine Qf fun K hK => Qa rfl ?_
   refine hK _ _ (Qb (kp1 rfl) ?_)
   refine Qu (Qj (Qs rfl ?_))
   first
    | exact (Qd6 (i := i) h1 h2 (by omega) hI.2).symm
    | exact (QaP (i := i) (by omega) (.inl h4)).symm
    | exact (QaP (i := i) (by omega) (.inr h5)).symm
    | exact (QaQ (.inl h1)).symm
    | exact (QaQ (.inr h2)).symm
  ·try rw [h2]
   try simp only [qa, qb, qc, qd, qe, List.length_map] at h2
   refine Qv (Qd (kp1 rfl) ?_)
   refine Qz ?_ -- 1
   refine Qf fun K hK => Qa rfl ?_
   refine hK _ _ (Qb (kp2 rfl rfl) ?_)
   refine Qy ?_
   refine Zi (ι := Nat) (fun i => ⟨[(1, .ref 1 0 0), (3, .int .i64 i)], [(1, ⟨[[ZG s.1, ZG s.2]], 2, 74, true⟩)]⟩) (fun i => i <= s.1.length /\ (s.1.take i).all (fun x => QbO x.1 && QbO x.2) = true) (fun i => s.1.length - i) 0 ?_ ?_ ?_
   ·exact QX (l := [1, 3]) (lH := [1]) (kp2 rfl rfl) (Qe rfl Ql) rfl rfl rfl
   ·exact ⟨Nat.zero_le _, by simp⟩
   intro i hI
   try dsimp only
   refine Qz ?_ -- 2
   refine Qf fun K hK => Qa rfl (Qh rfl rfl (QC rfl rfl rfl (QO rfl rfl (ZW rfl rfl ?_))))
   refine hK _ _ (Qb (kp3 rfl rfl rfl) ?_)
   refine Qw rfl (fun h3 => ?_) (fun h3 => ?_)
   ·try rw [h3]
    try simp only [qa, qb, qc, qd, qe, List.length_map] at h3
    refine Qv (Qd (kp2 rfl rfl) ?_)
    refine Qz ?_ -- 3
    refine Qy (Qf fun K hK => Qh rfl rfl (QC rfl rfl rfl (Qa rfl (QK rfl rfl rfl (by omega) (QS (by omega)) rfl (Q6 rfl rfl (QG (cs := [_, _, _, _, _, _, _]) rfl rfl rfl rfl (QH (XZ) rfl rfl (.inr rfl) (Z9 rfl (Qa rfl ?_)))))))))
    refine QF (g := 29) rfl (fun h4 => ?_) (fun h4 => ?_)
    ·try rw [h4]
     try simp only [qa, qb, qc, qd, qe, List.length_map] at h4
     refine Qt rfl (Qt rfl (Qt rfl (Qt rfl (Qt rfl (Qt rfl (Qt rfl (Qt rfl (Qm rfl rfl ?_))))))))
     refine hK _ _ (Qb (kp3 rfl rfl rfl) ?_)
     refine Zs rfl (Qf fun K hK => Qa rfl ?_)
     refine hK _ _ (Qb (kp1 rfl) ?_)
     refine Qu (Qr (Qj (QW (Qr (Qj (Qs rfl ?_))))))
     first
      | exact (Qd6 (i := i) h1 h2 (by omega) hI.2).symm
      | exact (QaP (i := i) (by omega) (.inl h4)).symm
      | exact (QaP (i := i) (by omega) (.inr h5)).symm
      | exact (QaQ (.inl h1)).symm
      | exact (QaQ (.inr h2)).symm
    ·try rw [h4]
     try simp only [qa, qb, qc, qd, qe, List.length_map] at h4
     refine Qk rfl (Qh rfl rfl (Qk rfl (QC rfl rfl rfl (Qk rfl (Qa rfl (Qk rfl (QK rfl rfl rfl (by omega) (QS (by omega)) rfl (Qk rfl (Q6 rfl rfl (Qk rfl (QG (cs := [_, _, _, _, _, _, _]) rfl rfl rfl rfl ?_)))))))))))
     refine Qk rfl (QH (XZ) rfl rfl (.inr rfl) (Qk rfl (Z9 rfl (Qm rfl rfl ?_))))
     refine hK _ _ (Qb (kp3 rfl rfl rfl) ?_)
     refine Qw rfl (fun h5 => ?_) (fun h5 => ?_)
     ·try rw [h5]
      try simp only [qa, qb, qc, qd, qe, List.length_map] at h5
      refine Qf fun K hK => Qa rfl ?_
      refine hK _ _ (Qb (kp1 rfl) ?_)
      refine Qu (Qr (Qj (QW (Qr (Qj (Qs rfl ?_))))))
      first
       | exact (Qd6 (i := i) h1 h2 (by omega) hI.2).symm
       | exact (QaP (i := i) (by omega) (.inl h4)).symm
       | exact (QaP (i := i) (by omega) (.inr h5)).symm
       | exact (QaQ (.inl h1)).symm
       | exact (QaQ (.inr h2)).symm
     ·try rw [h5]
      try simp only [qa, qb, qc, qd, qe, List.length_map] at h5
      refine Qv (Qg (Qd (kp2 rfl rfl) (QL fun K hK => Qa rfl (QY rfl rfl (by first | exact Qq (by omega) (by omega) | rfl) (Qa rfl (hK _ ?_))))))
      refine Qi (i + 1) ?_ ?_ ?_
      ·exact QX (l := [1, 3]) (lH := [1]) (kp2 rfl rfl) (Qe rfl Ql) rfl rfl rfl
      ·exact ⟨by omega, Z0 (by omega) hI.2 (by rw [show QbO s.1[i].1 = true from h4, show QbO s.1[i].2 = true from h5]; rfl)⟩
      ·first | omega | (simp only; omega) | (dsimp only; omega)
   ·try rw [h3]
    try simp only [qa, qb, qc, qd, qe, List.length_map] at h3
    refine Za (QJ (Qx (QB (Qd (Q2) (Qf fun K hK => Qa rfl ?_)))))
    refine hK _ _ (Qb (kp1 rfl) ?_)
    refine Qu (Qs rfl ?_)
    first
     | exact (Qd6 (i := i) h1 h2 (by omega) hI.2).symm
     | exact (QaP (i := i) (by omega) (.inl h4)).symm
     | exact (QaP (i := i) (by omega) (.inr h5)).symm
     | exact (QaQ (.inl h1)).symm
     | exact (QaQ (.inr h2)).symm
theorem QdI {s : List (Cu × Cu) × List (Cu × Cu)} (h1s : Sm s.1) (h2s : Sm s.2) {a b c : Int} {p q : List UInt8} (hp : p.length <= 1000000) (hq : q.length <= 1000000) : Ok Tryz.prog 100 [Qhz s, .agg [.int .i64 a, .int .i64 b, .int .i64 c, .str p, .str q]] (.bool (QlI s a b c p q)) := by
 refine Ok.ofT ZP Tryz.func100 QrB (Nat.le_of_ble_eq_true rfl) ?_
 show TW _ _ tf100.body _ _
 refine Qf fun K hK => Zr rfl rfl rfl (Zr rfl rfl rfl (Qa rfl ?_))
 refine hK _ _ (Qb (kp2 rfl rfl) ?_)
 refine Qz ?_ -- 0
 refine Qf fun K hK => QG (cs := [_, _]) rfl rfl rfl rfl (QH (YH h1s h2s) rfl rfl (.inr rfl) (Z9 rfl (Qa rfl ?_)))
 refine QF (g := 8) rfl (fun h1 => ?_) (fun h1 => ?_)
 ·try rw [h1]
  try simp only [qa, qb, qc, qd, qe] at h1
  refine Qt rfl (Qt rfl (Qt rfl (Qm rfl rfl ?_)))
  refine hK _ _ (Qb (kp3 rfl rfl rfl) ?_)
  refine Zs rfl (Qf fun K hK => Qa rfl ?_)
  refine hK _ _ (Qb (kp1 rfl) ?_)
  refine Qu (Qj (Qs rfl ?_))
  simp_all [QlI]
 ·try rw [h1]
  try simp only [qa, qb, qc, qd, qe] at h1
  refine Qk rfl (QG (cs := [_, _, _, _, _]) rfl rfl rfl rfl (Qk rfl (QH (Zh hp hq) rfl rfl (.inr rfl) (Qk rfl (Z9 rfl (Qm rfl rfl ?_))))))
  refine hK _ _ (Qb (kp3 rfl rfl rfl) ?_)
  refine Qw rfl (fun h2 => ?_) (fun h2 => ?_)
  ·try rw [h2]
   try simp only [qa, qb, qc, qd, qe] at h2
   refine Qf fun K hK => Qa rfl ?_
   refine hK _ _ (Qb (kp1 rfl) ?_)
   refine Qu (Qj (Qs rfl ?_))
   simp_all [QlI]
  ·try rw [h2]
   try simp only [qa, qb, qc, qd, qe] at h2
   refine Qv (Qd (kp2 rfl rfl) ?_)
   refine Qz ?_ -- 1
   refine Qf fun K hK => Qh rfl rfl (QC rfl rfl rfl (Qhr rfl rfl ?_))
   refine hK _ _ (Qb (kp3 rfl rfl rfl) ?_)
   refine Qw rfl (fun h3 => ?_) (fun h3 => ?_)
   ·try rw [h3]
    try simp only [qa, qb, qc, qd, qe] at h3
    refine Qf fun K hK => Qh rfl rfl (QC rfl rfl rfl (QG (cs := [_, _, _, _, _]) rfl rfl rfl rfl (QH (Qaz h1s hp hq) rfl rfl (.inr rfl) (Qa rfl ?_))))
    refine hK _ _ (Qb (kp1 rfl) ?_)
    refine Qu (Qj (Qs rfl ?_))
    simp_all [QlI]
   ·try rw [h3]
    try simp only [qa, qb, qc, qd, qe] at h3
    refine Qv (Qd (kp2 rfl rfl) (Qf fun K hK => Qh rfl rfl (QC rfl rfl rfl (QG (cs := [_, _, _, _, _]) rfl rfl rfl rfl (QH (Qaz h2s hp hq) rfl rfl (.inr rfl) (Qa rfl ?_))))))
    refine hK _ _ (Qb (kp1 rfl) ?_)
    refine Qu (Qs rfl ?_)
    simp_all [QlI]
end Go.Proofs
namespace Go.Proofs
open Go Go.Abs M3 M25
set_option linter.unusedVariables false
set_option linter.unusedSimpArgs false
theorem QaB {l : List Cu} {c : Cu} (hl : l.length <= 3000000) (hs : ∀ x ∈ l, Cu.sm x) (hc : Cu.sm c) : Ok Tryz.prog 111 [Qhy l, .agg (dCu c)] (Qhy (Qcn l c)) := by
 refine Ok.ofT ZP Tryz.func111 QrM (Nat.le_of_ble_eq_true rfl) ?_
 show TW _ _ tf111.body _ _
 refine Qf fun K hK => Zr rfl rfl rfl (Qa rfl ?_)
 refine hK _ _ (Qb (kp2 rfl rfl) ?_)
 refine Qf fun K hK => Qa rfl ?_
 refine hK _ _ (Qb (kp3 rfl rfl rfl) ?_)
 refine Qz ?_ -- 0
 refine Qy ?_
 refine Zi (ι := Nat) (fun k => ⟨[(0, Qhy l), (3, .ref 3 0 0), (5, .int .i64 k)], [(3, ⟨[dCu c], 7, 105, true⟩)]⟩) (fun k => k <= l.length /\ Qcn l c = l.take k ++ Qcn (l.drop k) c) (fun k => l.length - k) 0 ?_ ?_ ?_
 ·exact QX (l := [0, 3, 5]) (lH := [3]) (kp3 rfl rfl rfl) (Qe rfl Ql) rfl rfl rfl
 ·exact ⟨Nat.zero_le _, by simp⟩
 intro k hI
 try dsimp only
 refine Qz ?_ -- 1
 refine Qf fun K hK => Qa rfl (Qa rfl (QO rfl rfl (ZW rfl rfl (Qa rfl ?_))))
 refine QF (g := 10) rfl (fun h1 => ?_) (fun h1 => ?_)
 ·try rw [h1]
  try simp only [qa, qb, qc, qd, qe, List.length_map] at h1
  refine Qk rfl (Qa rfl (Qk rfl (Qa rfl (Qk rfl (QK rfl rfl rfl (by omega) (QS (by omega)) rfl (Qk rfl (QN (ds0 := [2, 1, 0]) (cs := [_, _, _, _, _, _, _]) rfl rfl rfl rfl rfl rfl (Qk rfl (QN (ds0 := [2, 1, 0]) (cs := [_, _, _, _, _, _, _]) rfl rfl rfl rfl rfl rfl (Qk rfl (QU (ds0 := [1, 0]) (Zx (hs _ (List.getElem_mem (by omega))).1 (hs _ (List.getElem_mem (by omega))).2 hc.1 hc.2) rfl rfl (.inr rfl) rfl rfl ?_)))))))))))
  refine Qk rfl (ZW rfl rfl (Qm rfl rfl ?_))
  refine hK _ _ (Qb (kp4 rfl rfl rfl rfl) ?_)
  refine Qw rfl (fun h2 => ?_) (fun h2 => ?_)
  ·try rw [h2]
   try simp only [qa, qb, qc, qd, qe, List.length_map] at h2
   refine Qv (Qd (kp3 rfl rfl rfl) (Qy (QL fun K hK => Qa rfl (QY rfl rfl (by first | exact Qq (by omega) (by omega) | rfl) (Qa rfl (hK _ ?_))))))
   refine Qg ?_
   refine Qi (k + 1) ?_ ?_ ?_
   ·exact QX (l := [0, 3, 5]) (lH := [3]) (kp3 rfl rfl rfl) (Qe rfl Ql) rfl rfl rfl
   ·exact ⟨by omega, QmT (by omega) h2 hI.2⟩
   ·first | omega | (simp only; omega) | (dsimp only; omega)
  ·try rw [h2]
   try simp only [qa, qb, qc, qd, qe, List.length_map] at h2
   refine Za (QJ (Qx (QB (Qd (kp3 rfl rfl rfl) ?_))))
   refine Qz ?_ -- 2
   refine Qf fun K hK => Qa rfl (Qa rfl (QO rfl rfl (ZW rfl rfl (Qa rfl ?_))))
   refine QF (g := 25) rfl (fun h3 => ?_) (fun h3 => ?_)
   ·try rw [h3]
    try simp only [qa, qb, qc, qd, qe, List.length_map] at h3
    refine Qk rfl (Qa rfl (Qk rfl (Qa rfl (Qk rfl (QK rfl rfl rfl (by omega) (QS (by omega)) rfl (Qk rfl (QN (ds0 := [2, 1, 0]) (cs := [_, _, _, _, _, _, _]) rfl rfl rfl rfl rfl rfl (Qk rfl (QN (ds0 := [2, 1, 0]) (cs := [_, _, _, _, _, _, _]) rfl rfl rfl rfl rfl rfl (Qk rfl (QU (ds0 := [1, 0]) (Zx (hs _ (List.getElem_mem (by omega))).1 (hs _ (List.getElem_mem (by omega))).2 hc.1 hc.2) rfl rfl (.inr rfl) rfl rfl ?_)))))))))))
    refine Qk rfl (ZL rfl rfl (Qm rfl rfl ?_))
    refine hK _ _ (Qb (kp4 rfl rfl rfl rfl) ?_)
    refine Qw rfl (fun h4 => ?_) (fun h4 => ?_)
    ·try rw [h4]
     try simp only [qa, qb, qc, qd, qe, List.length_map] at h4
     refine Qf fun K hK => Qa rfl (Qa rfl ?_)
     refine hK _ _ (Qb (kp1 rfl) ?_)
     refine Qu (Qj (Yj rfl ?_))
     rw [QmS (k := k) (by omega) (by assumption) hI.2]; rfl
    ·try rw [h4]
     try simp only [qa, qb, qc, qd, qe, List.length_map] at h4
     refine Qv (Qd (kp3 rfl rfl rfl) (Qf fun K hK => Qa rfl (Qa rfl (QbW rfl rfl rfl rfl (by omega) (by omega) (by simp; omega) Qjh rfl (Qeo (ds0 := [5, 1, 0]) rfl rfl (fun _ h => ⟨QoG, h⟩) rfl (.inl rfl) (by simp) (by simp; omega) (by simp; omega) rfl rfl (QN (ds0 := [6, 5, 1, 0]) (cs := [_, _, _, _, _, _, _]) rfl rfl rfl rfl rfl rfl (QE rfl rfl (Qbd (ds0 := [1, 0]) rfl rfl (by simp [D.ids, D.sid]) ⟨_, rfl, rfl, rfl, rfl, rfl⟩ rfl rfl (by simp) rfl rfl (by simp; omega) (by simp; omega) rfl rfl (Qa rfl (Qa rfl ?_))))))))))
     refine QbW rfl rfl rfl rfl (by omega) (by simp; omega) (by simp) Qjh rfl (Qbd (ds0 := [0]) rfl rfl (by simp [D.ids, D.sid]) ⟨rfl, QoG, rfl⟩ rfl rfl (by simp) rfl rfl (by simp; omega) (by simp; omega) rfl rfl (Qa rfl ?_))
     refine hK _ _ (Qb (kp1 rfl) ?_)
     refine Qu (Yj rfl ?_)
     rw [QkW (k := k) (by first | exact .inl (by omega) | exact .inr ⟨by omega, by assumption, by assumption⟩) hI.2]; simp [QbZ, D.fz, D.fzS, Qdb, lk, D.can, D.canS, Qhy, D.sid, (show ∀ a b : Nat, a + 1 + b = a + (b + 1) from fun a b => by omega), List.take_of_length_le (show (l.map dCu).length <= l.length by simp)] <;> rfl
   ·try rw [h3]
    try simp only [qa, qb, qc, qd, qe, List.length_map] at h3
    exact absurd h1 h3
 ·try rw [h1]
  try simp only [qa, qb, qc, qd, qe, List.length_map] at h1
  refine Qt rfl (Qt rfl (Qt rfl (Qt rfl (Qt rfl (Qt rfl (Qt rfl (Qm rfl rfl ?_)))))))
  refine hK _ _ (Qb (kp4 rfl rfl rfl rfl) ?_)
  refine Zz rfl (Za (QJ (Qx (QB (Qd (kp3 rfl rfl rfl) ?_)))))
  refine Qz ?_ -- 2
  refine Qf fun K hK => Qa rfl (Qa rfl (QO rfl rfl (ZW rfl rfl (Qa rfl ?_))))
  refine QF (g := 25) rfl (fun h5 => ?_) (fun h5 => ?_)
  ·try rw [h5]
   try simp only [qa, qb, qc, qd, qe, List.length_map] at h5
   exact absurd h5 h1
  ·try rw [h5]
   try simp only [qa, qb, qc, qd, qe, List.length_map] at h5
   refine Qt rfl (Qt rfl (Qt rfl (Qt rfl (Qt rfl (Qt rfl (Qt rfl (Qm rfl rfl ?_)))))))
   refine hK _ _ (Qb (kp4 rfl rfl rfl rfl) ?_)
   refine Zz rfl (Qv (Qd (kp3 rfl rfl rfl) (Qf fun K hK => Qa rfl (Qa rfl (QbW rfl rfl rfl rfl (by omega) (by omega) (by simp; omega) Qjh rfl (Qeo (ds0 := [5, 1, 0]) rfl rfl (fun _ h => ⟨QoG, h⟩) rfl (.inl rfl) (by simp) (by simp; omega) (by simp; omega) rfl rfl (QN (ds0 := [6, 5, 1, 0]) (cs := [_, _, _, _, _, _, _]) rfl rfl rfl rfl rfl rfl (QE rfl rfl (Qbd (ds0 := [1, 0]) rfl rfl (by simp [D.ids, D.sid]) ⟨_, rfl, rfl, rfl, rfl, rfl⟩ rfl rfl (by simp) rfl rfl (by simp; omega) (by simp; omega) rfl rfl (Qa rfl ?_))))))))))
   refine Qa rfl (QbW rfl rfl rfl rfl (by omega) (by simp; omega) (by simp) Qjh rfl (Qbd (ds0 := [0]) rfl rfl (by simp [D.ids, D.sid]) ⟨rfl, QoG, rfl⟩ rfl rfl (by simp) rfl rfl (by simp; omega) (by simp; omega) rfl rfl (Qa rfl ?_)))
   refine hK _ _ (Qb (kp1 rfl) ?_)
   refine Qu (Yj rfl ?_)
   rw [QkW (k := k) (by first | exact .inl (by omega) | exact .inr ⟨by omega, by assumption, by assumption⟩) hI.2]; simp [QbZ, D.fz, D.fzS, Qdb, lk, D.can, D.canS, Qhy, D.sid, (show ∀ a b : Nat, a + 1 + b = a + (b + 1) from fun a b => by omega), List.take_of_length_le (show (l.map dCu).length <= l.length by simp)] <;> rfl
theorem Qal {l : List (Cu × Cu)} (hl : Sm l) : Ok Tryz.prog 105 [ZG l] (Qhy (YU l)) := by
 refine Ok.ofT ZP Tryz.func105 QrG (Nat.le_of_ble_eq_true rfl) ?_
 show TW _ _ tf105.body _ _
 have hn := hl.1
 refine Qf fun K hK => Qa rfl ?_
 refine hK _ _ (Qb (kp1 rfl) ?_)
 refine Qf fun K hK => QH (YZ) rfl rfl (.inl rfl) (QH (Xb) rfl rfl (.inl rfl) (QE rfl rfl (Qa rfl ?_)))
 refine hK _ _ (Qb (kp2 rfl rfl) ?_)
 refine Qz ?_ -- 0
 refine Qf fun K hK => Qa rfl ?_
 refine hK _ _ (Qb (kp3 rfl rfl rfl) ?_)
 refine Qy ?_
 refine Zi (ι := Nat) (fun i => ⟨[(0, ZG l), (3, Qhy (YU (l.take i))), (4, .int .i64 i)], []⟩) (fun i => i <= l.length) (fun i => l.length - i) 0 ?_ ?_ ?_
 ·exact le_trans (QiS 7 _ (by decide)) (QX (l := [0, 3, 4]) (lH := []) (kp3 rfl rfl rfl) Ql rfl rfl rfl)
 ·exact Nat.zero_le _
 intro i hI
 try dsimp only
 refine Qz ?_ -- 1
 refine Qf fun K hK => Qa rfl (Qa rfl (QO rfl rfl (ZW rfl rfl ?_)))
 refine hK _ _ (Qb (kp4 rfl rfl rfl rfl) ?_)
 refine Qw rfl (fun h1 => ?_) (fun h1 => ?_)
 ·try rw [h1]
  try simp only [qa, qb, qc, qd, qe, List.length_map] at h1
  refine Qv (Qd (kp3 rfl rfl rfl) ?_)
  refine Qz ?_ -- 2
  refine Qy (QL fun K hK => Qa rfl (Qa rfl (Qa rfl (QK rfl rfl rfl (by omega) (QS (by omega)) rfl (Q6 rfl rfl (QN (ds0 := [7, 1, 0]) (cs := [_, _, _, _, _, _, _]) rfl rfl rfl rfl rfl rfl (QU (ds0 := [1, 0]) (QaB (Nat.le_trans (Qfm hl i).1 (by omega)) (Qfm hl i).2 (hl.2 _ (List.getElem_mem (by omega))).1) rfl rfl (.inl rfl) rfl rfl (Qa rfl (Qa rfl (QK rfl rfl rfl (by omega) (QS (by omega)) rfl ?_))))))))))
  refine Q6 rfl rfl (QN (ds0 := [1, 0]) (cs := [_, _, _, _, _, _, _]) rfl rfl rfl rfl rfl rfl (QU (ds0 := [0]) (QaB (Nat.le_trans (Qfo _ _) (by have := (Qfm hl i).1; omega)) (QhZ (Qfm hl i).2 (hl.2 _ (List.getElem_mem (by omega))).1) (hl.2 _ (List.getElem_mem (by omega))).2) rfl rfl (.inl rfl) rfl rfl (Qa rfl (hK _ ?_))))
  refine Qg (Qd (kp3 rfl rfl rfl) (QL fun K hK => Qa rfl (QY rfl rfl (by first | exact Qq (by omega) (by omega) | rfl) (Qa rfl (hK _ ?_)))))
  refine Qi (i + 1) ?_ ?_ ?_
  ·exact QX (l := [0, 3, 4]) (lH := []) (kp3 rfl rfl rfl) Ql (by rw [Qor (by omega)]; rfl) rfl rfl
  ·omega
  ·first | omega | (simp only; omega) | (dsimp only; omega)
 ·try rw [h1]
  try simp only [qa, qb, qc, qd, qe, List.length_map] at h1
  refine Za (QJ (Qx (QB (Qd (kp1 rfl) (Qf fun K hK => Qa rfl (Qa rfl ?_))))))
  refine hK _ _ (Qb (kp1 rfl) ?_)
  refine Qu (Yj rfl ?_)
  rw [List.take_of_length_le (show l.length <= i by omega)]; rfl
end Go.Proofs
namespace Go.Proofs
open Go Go.Abs M3 M25
set_option linter.unusedVariables false
set_option linter.unusedSimpArgs false
theorem Qam {l : List (Cu × Cu)} {x y : Cu} (hn : l.length <= 3000000) (hl : ∀ s ∈ l, Cu.sm s.1 /\ Cu.sm s.2) (hx : Cu.sm x) (hy : Cu.sm y) : OkH Tryz.prog 107 [.osl 500000 l.length, .agg (dCu x), .agg (dCu y)] [(500000, ⟨l.map Qe5, 14, 108, true⟩)] (.osl 500000 (Qck l x y).length) [(500000, ⟨(Qck l x y).map Qe5, 14, 108, true⟩)] := by
 refine OkH.mv ZP Tryz.func107 QrI (Nat.le_of_ble_eq_true rfl) rfl ?_
 show TW _ _ tf107.body _ _
 refine Qf fun K hK => Zr rfl rfl rfl (Zr rfl rfl rfl (Qa rfl ?_))
 refine hK _ _ (Qb (kp3 rfl rfl rfl) ?_)
 refine Qz ?_ -- 0
 refine Qf fun K hK => Qa rfl (QO rfl rfl (Qas rfl rfl (by first | exact Qq (by omega) (by omega) | rfl) (Qa rfl ?_)))
 refine hK _ _ (Qb (kp4 rfl rfl rfl rfl) ?_)
 refine Qf fun K hK => Qa rfl (Qen rfl rfl (Qa rfl ?_))
 refine QF (g := 13) rfl (fun h1 => ?_) (fun h1 => ?_)
 ·try rw [h1]
  try simp only [qa, qb, qc, qd, qe, List.length_map] at h1
  refine Qk rfl (Qa rfl (Qk rfl (Qa rfl (Qk rfl (XL (ds0 := [5, 4, 2, 1, 0]) rfl rfl rfl (by simp) (by omega) (by omega) rfl rfl rfl (Qk rfl (Qh rfl rfl (Qk rfl (QN (ds0 := [2, 1, 0]) (cs := [_, _, _, _, _, _, _]) rfl (Ya rfl (Zu (by omega) (by omega))) rfl rfl rfl rfl (Qk rfl (QN (ds0 := [2, 1, 0]) (cs := [_, _, _, _, _, _, _]) rfl rfl rfl rfl rfl rfl ?_)))))))))))
  refine Qk rfl (QU (ds0 := [1, 0]) (Zx (hl _ (List.getElem_mem (by omega))).2.1 (hl _ (List.getElem_mem (by omega))).2.2 hx.1 hx.2) rfl rfl (.inr rfl) rfl rfl (Qk rfl (ZL rfl rfl (Qm rfl rfl ?_))))
  refine hK _ _ (Qb (kp5 rfl rfl rfl rfl rfl) ?_)
  refine Qw rfl (fun h2 => ?_) (fun h2 => ?_)
  ·try rw [h2]
   try simp only [qa, qb, qc, qd, qe, List.length_map] at h2
   refine Qf fun K hK => Qa rfl (Qa rfl (QG (cs := [_, _, _, _, _, _, _]) rfl rfl rfl rfl (Xk rfl rfl rfl (by simp) (by omega) (by omega) rfl (Qh rfl rfl (Q7 rfl rfl (Zu (by omega) (by omega)) rfl rfl rfl rfl rfl ?_)))))
   refine hK _ _ (Qb (kp1 rfl) ?_)
   refine Qf fun K hK => Qa rfl (Qa rfl ?_)
   refine hK _ _ (Qb (kp1 rfl) ?_)
   refine Qu (Qj ?_)
   refine YA rfl ?_ (Qcu ?_)
   ·rw [QiX (i := ((l.length : Int) - 1).toNat) (by omega) h2]; simp [QlU, D.fz, D.fzS, Qgq, D.can, D.canS]
   ·rw [QiX (i := ((l.length : Int) - 1).toNat) (by omega) h2]; simp [lk, List.map_set, Qe5, dCu, setRow, D.sid]
  ·try rw [h2]
   try simp only [qa, qb, qc, qd, qe, List.length_map] at h2
   refine Qv (Qd (kp3 rfl rfl rfl) (Qf fun K hK => Qa rfl (QG (cs := [_, _, _, _, _, _, _]) rfl rfl rfl rfl (QG (cs := [_, _, _, _, _, _, _]) rfl rfl rfl rfl (QZ rfl rfl (QE rfl rfl (Xe rfl rfl (fun _ h => YW rfl rfl rfl h) rfl (by simp) rfl rfl rfl (by simp; omega) (by simp; omega) (Qa rfl ?_))))))))
   refine hK _ _ (Qb (kp1 rfl) ?_)
   refine Qu ?_
   refine YA rfl ?_ (Qcu ?_)
   ·rw [Qd1 (.inr ⟨((l.length : Int) - 1).toNat, by omega, h2⟩)]; simp [QlU, D.fz, D.fzS, Qgq, D.can, D.canS]
   ·rw [Qd1 (.inr ⟨((l.length : Int) - 1).toNat, by omega, h2⟩)]; simp [lk, Qe5, dCu, D.sid]
 ·try rw [h1]
  try simp only [qa, qb, qc, qd, qe, List.length_map] at h1
  refine Qt rfl (Qt rfl (Qt rfl (Qt rfl (Qt rfl (Qt rfl (Qt rfl (Qt rfl (Qm rfl rfl ?_))))))))
  refine hK _ _ (Qb (kp5 rfl rfl rfl rfl rfl) ?_)
  refine Zz rfl (Qv (Qd (kp3 rfl rfl rfl) (Qf fun K hK => Qa rfl (QG (cs := [_, _, _, _, _, _, _]) rfl rfl rfl rfl (QG (cs := [_, _, _, _, _, _, _]) rfl rfl rfl rfl (QZ rfl rfl (QE rfl rfl (Xe rfl rfl (fun _ h => YW rfl rfl rfl h) rfl (by simp) rfl rfl rfl (by simp; omega) (by simp; omega) (Qa rfl ?_)))))))))
  refine hK _ _ (Qb (kp1 rfl) ?_)
  refine Qu ?_
  have h0 : l = [] := List.eq_nil_of_length_eq_zero (by omega)
  refine YA rfl ?_ (Qcu ?_)
  ·rw [Qd1 (.inl h0)]; simp [QlU, D.fz, D.fzS, Qgq, D.can, D.canS]
  ·rw [Qd1 (.inl h0)]; simp [lk, Qe5, dCu, D.sid]
end Go.Proofs
namespace Go.Proofs
open Go Go.Abs M3 M25
set_option linter.unusedVariables false
set_option linter.unusedSimpArgs false
theorem Qdk {l : List (Cu × Cu)} (hl : Sm l) : Ok Tryz.prog 104 [ZG l] (.tup [ZG (Qj1 l), .bool (l.all Qd3)]) := by
  refine Ok.ofT ZP Tryz.func104 QrF (Nat.le_of_ble_eq_true rfl) ?_
  show TW _ _ tf104.body _ _
  have hn := hl.1
  have hc1 := Qci l
  refine Qf fun K hK => Qa rfl (Qa rfl ?_)
  refine hK _ _ (Qb (kp1 rfl) ?_)
  refine Qz ?_ -- 0
  refine Qf fun K hK => Qa rfl ?_
  refine hK _ _ (Qb (kp2 rfl rfl) ?_)
  refine Qy ?_
  refine Zi (ι := Nat) (fun i => ⟨[(0, ZG l), (4, .int .i64 i)], []⟩) (fun i => i <= l.length /\ (l.take i).all Qd3 = true) (fun i => l.length - i) 0 ?_ ?_ ?_
  · exact Zd (kp2 rfl rfl)
  · exact ⟨Nat.zero_le _, by simp⟩
  intro i hI
  try dsimp only
  refine Qz ?_ -- 1
  refine Qf fun K hK => Qa rfl (Qa rfl (QO rfl rfl (ZW rfl rfl ?_)))
  refine hK _ _ (Qb (kp3 rfl rfl rfl) ?_)
  refine Qw rfl (fun h1 => ?_) (fun h1 => ?_)
  · try rw [h1]
    try simp only [qa, qb, qc, qd, qe, List.length_map] at h1
    refine Qv (Qd (kp2 rfl rfl) ?_)
    refine Qz ?_ -- 2
    refine Qy (Qf fun K hK => Qa rfl (Qa rfl (QK rfl rfl rfl (by omega) (QS (by omega)) rfl (QG (cs := [_, _, _, _, _, _, _, _, _, _, _, _, _, _]) rfl rfl rfl rfl (QH (YG (hl.at (i := i) (by omega)).1.1 (hl.at (i := i) (by omega)).1.2 (hl.at (i := i) (by omega)).2.1 (hl.at (i := i) (by omega)).2.2) rfl rfl (.inr rfl) (Z9 rfl ?_))))))
    refine hK _ _ (Qb (kp3 rfl rfl rfl) ?_)
    refine Qw rfl (fun h2 => ?_) (fun h2 => ?_)
    · try rw [h2]
      try simp only [qa, qb, qc, qd, qe, List.length_map] at h2
      refine Qf fun K hK => Qa rfl (Qa rfl ?_)
      refine hK _ _ (Qb (kp2 rfl rfl) ?_)
      refine Qu (Qr (Qj (QW (Qr (Qj ?_)))))
      first
        | exact QT rfl rfl ⟨by rw [Qj1, if_neg (by rw [Xv (i := i) (by omega) (by assumption)]; simp)]; rfl, by rw [Xv (i := i) (by omega) (by assumption)]; rfl⟩
        | (have ha : l.all Qd3 = true := Xl (by omega) hI.2
           exact QT rfl rfl ⟨by rw [Qj1, if_pos ha, hI2.done (by omega)]; simp [QbZ, D.fz, D.fzS, Qdb, lk, D.can, D.canS, ZG], by rw [ha]; rfl⟩)
    · try rw [h2]
      try simp only [qa, qb, qc, qd, qe, List.length_map] at h2
      refine Qv (Qg (Qd (kp2 rfl rfl) (QL fun K hK => Qa rfl (QY rfl rfl (by first | exact Qq (by omega) (by omega) | rfl) (Qa rfl (hK _ ?_))))))
      refine Qi (i + 1) ?_ ?_ ?_
      · exact Zd (kp2 rfl rfl)
      · exact ⟨by omega, Z0 (by omega) hI.2 (by assumption)⟩
      · first | omega | (simp only; omega) | (dsimp only; omega)
  · try rw [h1]
    try simp only [qa, qb, qc, qd, qe, List.length_map] at h1
    refine Za (QJ (Qx (QB (Qd (kp1 rfl) (Qf fun K hK => Qa rfl ?_)))))
    refine hK _ _ (Qb (kp2 rfl rfl) ?_)
    refine Qf fun K hK => Qa rfl (QH (Qal hl) rfl rfl (.inl rfl) (Qa rfl ?_))
    refine hK _ _ (Qb (kp3 rfl rfl rfl) ?_)
    refine Qz ?_ -- 3
    refine Qf fun K hK => Qa rfl ?_
    refine hK _ _ (Qb (kp4 rfl rfl rfl rfl) ?_)
    refine Qy ?_
    refine Zi (ι := Nat × List (Cu × Cu)) (fun ⟨i, out⟩ => ⟨[(0, ZG l), (5, .osl 5 out.length), (6, Qhy (YU l)), (7, .int .i64 i)], [(5, ⟨out.map Qe5, 14, 108, true⟩)]⟩) (fun ⟨i, out⟩ => i <= (YU l).length /\ FillI (mIn l) (YU l) i out) (fun ⟨i, out⟩ => (YU l).length - i) (0, []) ?_ ?_ ?_
    · exact le_trans (Yc 5 5 14 108 rfl rfl) (QX (l := [0, 5, 6, 7]) (lH := [5]) (kp4 rfl rfl rfl rfl) (Qe rfl Ql) rfl rfl rfl)
    · exact ⟨Nat.zero_le _, FillI.zero⟩
    intro ⟨i, out⟩ hI
    obtain ⟨hI1, hI2⟩ := hI
    have hI3 := hI2.1
    try dsimp only
    refine Qz ?_ -- 4
    refine Qf fun K hK => Qa rfl (QY rfl rfl (by first | exact Qq (by omega) (by omega) | rfl) (Qa rfl (QO rfl rfl (ZW rfl rfl ?_))))
    refine hK _ _ (Qb (kp5 rfl rfl rfl rfl rfl) ?_)
    refine Qw rfl (fun h3 => ?_) (fun h3 => ?_)
    · try rw [h3]
      try simp only [qa, qb, qc, qd, qe, List.length_map] at h3
      refine Qv (Qd (kp4 rfl rfl rfl rfl) ?_)
      refine Qz ?_ -- 5
      refine Qy (Qf fun K hK => Qa rfl (Qa rfl (Qa rfl (QK rfl rfl rfl (by omega) (QS (by omega)) rfl (QN (ds0 := [0]) (cs := [_, _, _, _, _, _, _]) rfl rfl rfl rfl rfl rfl (Qa rfl (Qa rfl (QY rfl rfl (by first | exact Qq (by omega) (by omega) | rfl) (QK rfl rfl rfl (by omega) (QkJ (by omega)) rfl (QN (ds0 := [0]) (cs := [_, _, _, _, _, _, _]) rfl rfl rfl rfl rfl rfl ?_))))))))))
      refine QU (ds0 := []) (Qa0 hl (Yy hl _ (List.getElem_mem (by omega))) (Yy hl _ (List.getElem_mem (by omega)))) rfl rfl (.inr rfl) rfl rfl ?_
      refine hK _ _ (Qb (kp5 rfl rfl rfl rfl rfl) ?_)
      refine Qw rfl (fun h4 => ?_) (fun h4 => ?_)
      · try rw [h4]
        try simp only [qa, qb, qc, qd, qe, List.length_map] at h4
        refine QL fun K hK => Qa rfl (Qa rfl (Qa rfl (QK rfl rfl rfl (by omega) (QS (by omega)) rfl (QN (ds0 := [1, 0]) (cs := [_, _, _, _, _, _, _]) rfl rfl rfl rfl rfl rfl (Qa rfl (Qa rfl (QY rfl rfl (by first | exact Qq (by omega) (by omega) | rfl) (QK rfl rfl rfl (by omega) (QkJ (by omega)) rfl (QN (ds0 := [1, 0]) (cs := [_, _, _, _, _, _, _]) rfl rfl rfl rfl rfl rfl (Qko (ds0 := [0]) (Qkw (k := 5) rfl rfl rfl (by decide) rfl (by decide) (by simp [D.ids, D.sid, dCu]) ⟨.osl 5 out.length, by simp, by simp [D.ids, D.sid]⟩ rfl rfl (Qam (by omega) hI2.2.1 (Yy hl _ (List.getElem_mem (by omega))) (Yy hl _ (List.getElem_mem (by omega))))) (fun _ h => by cases h) rfl rfl ?_))))))))))
        refine Qa rfl (hK _ ?_)
        refine Qg (Qd (kp4 rfl rfl rfl rfl) (QL fun K hK => Qa rfl (QY rfl rfl (by first | exact Qq (by omega) (by omega) | rfl) (Qa rfl (hK _ ?_)))))
        refine Qi (i + 1, Qck out (YU l)[i] (YU l)[i + 1]) ?_ ?_ ?_
        · exact le_trans (QmD (l := [0, 6, 7]) (t := 50) (u := 5) 5 (kp3 rfl rfl rfl) rfl rfl rfl rfl) (QX (l := [0, 5, 6, 7]) (lH := [5]) (kp4 rfl rfl rfl rfl) (Qe rfl Ql) rfl rfl rfl)
        · exact ⟨by omega, hI2.take (Yy hl) (by omega) (by assumption)⟩
        · show (YU l).length - (i + 1) < (YU l).length - i; omega
      · try rw [h4]
        try simp only [qa, qb, qc, qd, qe, List.length_map] at h4
        refine Qv (Qg (Qd (kp4 rfl rfl rfl rfl) (QL fun K hK => Qa rfl (QY rfl rfl (by first | exact Qq (by omega) (by omega) | rfl) (Qa rfl (hK _ ?_))))))
        refine Qi (i + 1, out) ?_ ?_ ?_
        · exact QX (l := [0, 5, 6, 7]) (lH := [5]) (kp4 rfl rfl rfl rfl) (Qe rfl Ql) rfl rfl rfl
        · exact ⟨by omega, hI2.skip (by omega) (by assumption)⟩
        · show (YU l).length - (i + 1) < (YU l).length - i; omega
    · try rw [h3]
      try simp only [qa, qb, qc, qd, qe, List.length_map] at h3
      refine Za (QJ (Qx (QB (Qd (kp1 rfl) (Qf fun K hK => Qa rfl (Qa rfl (Qa rfl ?_)))))))
      refine hK _ _ (Qb (kp2 rfl rfl) ?_)
      refine Qu ?_
      first
        | exact QT rfl rfl ⟨by rw [Qj1, if_neg (by rw [Xv (i := i) (by omega) (by assumption)]; simp)]; rfl, by rw [Xv (i := i) (by omega) (by assumption)]; rfl⟩
        | (have ha : l.all Qd3 = true := Xl (by omega) hI.2
           exact QT rfl rfl ⟨by rw [Qj1, if_pos ha, hI2.done (by omega)]; simp [QbZ, D.fz, D.fzS, Qdb, lk, D.can, D.canS, ZG], by rw [ha]; rfl⟩)
end Go.Proofs
namespace Go.Proofs
open Go Go.Abs M3 M25
set_option linter.unusedVariables false
set_option linter.unusedSimpArgs false
theorem QaZ {a b : List (Cu × Cu)} (ha : Sm a) (hb : Sm b) (hab : a.length + b.length <= 1000000) : Ok Tryz.prog 98 [ZG a, ZG b] (ZG (Qpe a b)) := by
 refine Ok.ofT ZP Tryz.func98 Qtv (Nat.le_of_ble_eq_true rfl) ?_
 show TW _ _ tf98.body _ _
 refine Qf fun K hK => Qa rfl ?_
 refine hK _ _ (Qb (kp2 rfl rfl) ?_)
 refine Qz ?_ -- 0
 refine Qf fun K hK => Qa rfl (QH (ZX ha) rfl rfl (.inr rfl) (Z9 rfl (Qa rfl ?_)))
 refine QF (g := 10) rfl (fun h1 => ?_) (fun h1 => ?_)
 ·try rw [h1]
  try simp only [qa, qb, qc, qd, qe] at h1
  refine Qt rfl (Qt rfl (Qt rfl (Qm rfl rfl ?_)))
  refine hK _ _ (Qb (kp3 rfl rfl rfl) ?_)
  refine Zs rfl (Qf fun K hK => Qa rfl ?_)
  refine hK _ _ (Qb (kp1 rfl) ?_)
  refine Qu (Qj (Yj rfl ?_))
  rw [Qpe, if_neg (by simp [h1])]; rfl
 ·try rw [h1]
  try simp only [qa, qb, qc, qd, qe] at h1
  refine Qk rfl (Qa rfl (Qk rfl (QH (ZX hb) rfl rfl (.inr rfl) (Qk rfl (Z9 rfl (Qm rfl rfl ?_))))))
  refine hK _ _ (Qb (kp3 rfl rfl rfl) ?_)
  refine Qw rfl (fun h2 => ?_) (fun h2 => ?_)
  ·try rw [h2]
   try simp only [qa, qb, qc, qd, qe] at h2
   refine Qf fun K hK => Qa rfl ?_
   refine hK _ _ (Qb (kp1 rfl) ?_)
   refine Qu (Qj (Yj rfl ?_))
   rw [Qpe, if_neg (by simp [h1, h2])]; rfl
  ·try rw [h2]
   try simp only [qa, qb, qc, qd, qe] at h2
   refine Qv (Qd (kp2 rfl rfl) (Qf fun K hK => Qa rfl (Ql0 rfl rfl (fun _ h => Qlf Qpj h) rfl (.inl rfl) (by simp) (by simp; omega) (by simp; omega) (Qa rfl (Xe rfl rfl (fun _ h => Qlf Qpj h) rfl (by simp) rfl rfl rfl (by simp; omega) (by simp; omega) ?_)))))
   apply Qpv [17] (by simp)
   ·simp [St.freezeL, St.freeze, rem, D.fz, D.fzS, Box.fz, lk, D.scrub]; exact ⟨rfl, rfl⟩
   ·exact Qdk (ha.app hb hab)
   ·rfl
   ·simp [QbZ, D.fz, D.fzS, Qdb, D.can, D.canS, ZG]
   ·exact .inl rfl
   refine Qa rfl (QV rfl rfl (QV rfl rfl (Qa rfl (Qa rfl ?_))))
   refine hK _ _ (Qb (kp1 rfl) ?_)
   refine Qf fun K hK => Qa rfl (Qa rfl ?_)
   refine hK _ _ (Qb (kp1 rfl) ?_)
   refine Qu (Yj rfl ?_)
   rw [Qpe, if_pos ⟨h1, h2⟩]; rfl
theorem QaA {a : List (Cu × Cu)} (ha : Sm a) : Ok Tryz.prog 99 [ZG a] (ZG (Qj2 a)) := by
 refine Ok.ofT ZP Tryz.func99 Qtw (Nat.le_of_ble_eq_true rfl) ?_
 show TW _ _ tf99.body _ _
 have hn := ha.1
 have hc1 := Qci a
 refine Qf fun K hK => Qa rfl ?_
 refine hK _ _ (Qb (kp1 rfl) ?_)
 refine Qz ?_ -- 0
 refine Qf fun K hK => Qa rfl (QH (ZX ha) rfl rfl (.inr rfl) (Z9 rfl ?_))
 refine hK _ _ (Qb (kp2 rfl rfl) ?_)
 refine Qw rfl (fun h1 => ?_) (fun h1 => ?_)
 ·try rw [h1]
  try simp only [qa, qb, qc, qd, qe, List.length_map] at h1
  refine Qf fun K hK => Qa rfl ?_
  refine hK _ _ (Qb (kp1 rfl) ?_)
  refine Qu (Qj (Yj rfl ?_))
  rw [Qj2, if_neg (by simp [h1])]; rfl
 ·try rw [h1]
  try simp only [qa, qb, qc, qd, qe, List.length_map] at h1
  refine Qv (Qd (kp1 rfl) (Qf fun K hK => Qa rfl ?_))
  refine hK _ _ (Qb (kp2 rfl rfl) ?_)
  refine Qf fun K hK => Qa rfl (QH (Qal ha) rfl rfl (.inl rfl) (Qa rfl ?_))
  refine hK _ _ (Qb (kp3 rfl rfl rfl) ?_)
  refine Qz ?_ -- 1
  refine Qf fun K hK => Qa rfl ?_
  refine hK _ _ (Qb (kp4 rfl rfl rfl rfl) ?_)
  refine Qy ?_
  refine Zi (ι := Nat × List (Cu × Cu)) (fun ⟨i, out⟩ => ⟨[(0, ZG a), (3, .osl 3 out.length), (4, Qhy (YU a)), (5, .int .i64 i)], [(3, ⟨out.map Qe5, 14, 108, true⟩)]⟩) (fun ⟨i, out⟩ => i <= (YU a).length /\ FillI (fun x y => !mIn a x y) (YU a) i out) (fun ⟨i, out⟩ => (YU a).length - i) (0, []) ?_ ?_ ?_
  ·exact le_trans (Yc 3 3 14 108 rfl rfl) (QX (l := [0, 3, 4, 5]) (lH := [3]) (kp4 rfl rfl rfl rfl) (Qe rfl Ql) rfl rfl rfl)
  ·exact ⟨Nat.zero_le _, FillI.zero⟩
  intro ⟨i, out⟩ hI
  obtain ⟨hI1, hI2⟩ := hI
  have hI3 := hI2.1
  try dsimp only
  refine Qz ?_ -- 2
  refine Qf fun K hK => Qa rfl (QY rfl rfl (by first | exact Qq (by omega) (by omega) | rfl) (Qa rfl (QO rfl rfl (ZW rfl rfl ?_))))
  refine hK _ _ (Qb (kp5 rfl rfl rfl rfl rfl) ?_)
  refine Qw rfl (fun h2 => ?_) (fun h2 => ?_)
  ·try rw [h2]
   try simp only [qa, qb, qc, qd, qe, List.length_map] at h2
   refine Qv (Qd (kp4 rfl rfl rfl rfl) ?_)
   refine Qz ?_ -- 3
   refine Qy (Qf fun K hK => Qa rfl (Qa rfl (Qa rfl (QK rfl rfl rfl (by omega) (QS (by omega)) rfl (QN (ds0 := [1, 0]) (cs := [_, _, _, _, _, _, _]) rfl rfl rfl rfl rfl rfl (Qa rfl (Qa rfl (QY rfl rfl (by first | exact Qq (by omega) (by omega) | rfl) (QK rfl rfl rfl (by omega) (QkJ (by omega)) rfl (QN (ds0 := [1, 0]) (cs := [_, _, _, _, _, _, _]) rfl rfl rfl rfl rfl rfl ?_))))))))))
   refine QU (ds0 := [0]) (Qa0 ha (Yy ha _ (List.getElem_mem (by omega))) (Yy ha _ (List.getElem_mem (by omega)))) rfl rfl (.inr rfl) rfl rfl (Z9 rfl ?_)
   refine hK _ _ (Qb (kp5 rfl rfl rfl rfl rfl) ?_)
   refine Qw rfl (fun h3 => ?_) (fun h3 => ?_)
   ·try rw [h3]
    try simp only [qa, qb, qc, qd, qe, List.length_map] at h3
    refine QL fun K hK => Qa rfl (Qa rfl (Qa rfl (QK rfl rfl rfl (by omega) (QS (by omega)) rfl (QN (ds0 := [1, 0]) (cs := [_, _, _, _, _, _, _]) rfl rfl rfl rfl rfl rfl (Qa rfl (Qa rfl (QY rfl rfl (by first | exact Qq (by omega) (by omega) | rfl) (QK rfl rfl rfl (by omega) (QkJ (by omega)) rfl (QN (ds0 := [1, 0]) (cs := [_, _, _, _, _, _, _]) rfl rfl rfl rfl rfl rfl (Qko (ds0 := [0]) (Qkw (k := 3) rfl rfl rfl (by decide) rfl (by decide) (by simp [D.ids, D.sid, dCu]) ⟨.osl 3 out.length, by simp, by simp [D.ids, D.sid]⟩ rfl rfl (Qam (by omega) hI2.2.1 (Yy ha _ (List.getElem_mem (by omega))) (Yy ha _ (List.getElem_mem (by omega))))) (fun _ h => by cases h) rfl rfl ?_))))))))))
    refine Qa rfl (hK _ ?_)
    refine Qg (Qd (kp4 rfl rfl rfl rfl) (QL fun K hK => Qa rfl (QY rfl rfl (by first | exact Qq (by omega) (by omega) | rfl) (Qa rfl (hK _ ?_)))))
    refine Qi (i + 1, Qck out (YU a)[i] (YU a)[i + 1]) ?_ ?_ ?_
    ·exact le_trans (QmD (l := [0, 4, 5]) (t := 40) (u := 3) 3 (kp3 rfl rfl rfl) rfl rfl rfl rfl) (QX (l := [0, 3, 4, 5]) (lH := [3]) (kp4 rfl rfl rfl rfl) (Qe rfl Ql) rfl rfl rfl)
    ·exact ⟨by omega, hI2.take (Yy ha) (by omega) (by simp; assumption)⟩
    ·show (YU a).length - (i + 1) < (YU a).length - i; omega
   ·try rw [h3]
    try simp only [qa, qb, qc, qd, qe, List.length_map] at h3
    refine Qv (Qg (Qd (kp4 rfl rfl rfl rfl) (QL fun K hK => Qa rfl (QY rfl rfl (by first | exact Qq (by omega) (by omega) | rfl) (Qa rfl (hK _ ?_))))))
    refine Qi (i + 1, out) ?_ ?_ ?_
    ·exact QX (l := [0, 3, 4, 5]) (lH := [3]) (kp4 rfl rfl rfl rfl) (Qe rfl Ql) rfl rfl rfl
    ·exact ⟨by omega, hI2.skip (by omega) (by simp; assumption)⟩
    ·show (YU a).length - (i + 1) < (YU a).length - i; omega
  ·try rw [h2]
   try simp only [qa, qb, qc, qd, qe, List.length_map] at h2
   refine Za (QJ (Qx (QB (Qd (kp1 rfl) (Qf fun K hK => Qa rfl (Qa rfl ?_))))))
   refine hK _ _ (Qb (kp1 rfl) ?_)
   refine Qu (Yj rfl ?_)
   rw [Qj2, if_pos h1, hI2.done (by omega)]; simp [QbZ, D.fz, D.fzS, Qdb, lk, D.can, D.canS, ZG]
end Go.Proofs
namespace Go.Proofs
open Go Go.Abs M3 M25
set_option linter.unusedVariables false
set_option linter.unusedSimpArgs false
theorem Qer {a b : Qfd} (h1a : Sm a.1) (h2a : Sm a.2) (h1b : Sm b.1) (h2b : Sm b.2) (hl1 : a.1.length + b.1.length <= 1000000) (hl2 : a.2.length + b.2.length <= 1000000) : Ok Tryz.prog 83 [Qhz a, Qhz b] (Qhz (Qpf a b)) := by
 refine Ok.ofT ZP Tryz.func83 Qtg (Nat.le_of_ble_eq_true rfl) ?_
 show TW _ _ tf83.body _ _
 refine Qf fun K hK => Zr rfl rfl rfl (Zr rfl rfl rfl (ZH rfl ?_))
 refine hK _ _ (Qb (kp3 rfl rfl rfl) ?_)
 refine Qz ?_ -- 0
 refine Qf fun K hK => QG (cs := [_, _]) rfl rfl rfl rfl (QH (YH h1a h2a) rfl rfl (.inr rfl) (Z9 rfl (Qa rfl ?_)))
 refine QF (g := 8) rfl (fun h1 => ?_) (fun h1 => ?_)
 ·try rw [h1]
  try simp only [qa, qb, qc, qd, qe] at h1
  refine Qt rfl (Qt rfl (Qt rfl (Qm rfl rfl ?_)))
  refine hK _ _ (Qb (kp4 rfl rfl rfl rfl) ?_)
  refine Zs rfl (Qf fun K hK => QH (Yb) rfl rfl (.inl rfl) (Q7 rfl rfl rfl rfl rfl rfl rfl rfl ?_))
  refine hK _ _ (Qb (kp1 rfl) ?_)
  refine Qu (Qj (Post.eq (ZF (ds := [.sl _, .sl _]) (cs := [_, _]) rfl rfl rfl rfl rfl) ?_))
  rw [Qpf, if_neg (by simp [h1])]; rfl
 ·try rw [h1]
  try simp only [qa, qb, qc, qd, qe] at h1
  refine Qk rfl (QG (cs := [_, _]) rfl rfl rfl rfl (Qk rfl (QH (YH h1b h2b) rfl rfl (.inr rfl) (Qk rfl (Z9 rfl (Qm rfl rfl ?_))))))
  refine hK _ _ (Qb (kp4 rfl rfl rfl rfl) ?_)
  refine Qw rfl (fun h2 => ?_) (fun h2 => ?_)
  ·try rw [h2]
   try simp only [qa, qb, qc, qd, qe] at h2
   refine Qf fun K hK => QH (Yb) rfl rfl (.inl rfl) (Q7 rfl rfl rfl rfl rfl rfl rfl rfl ?_)
   refine hK _ _ (Qb (kp1 rfl) ?_)
   refine Qu (Qj (Post.eq (ZF (ds := [.sl _, .sl _]) (cs := [_, _]) rfl rfl rfl rfl rfl) ?_))
   rw [Qpf, if_neg (by simp [h1, h2])]; rfl
  ·try rw [h2]
   try simp only [qa, qb, qc, qd, qe] at h2
   refine Qv (Qd (kp3 rfl rfl rfl) (Qf fun K hK => Qh rfl rfl (QR (ds0 := [7, 1, 0]) rfl rfl rfl rfl rfl (Qh rfl rfl (QR (ds0 := [7, 1, 0]) rfl rfl rfl rfl rfl (QU (ds0 := [1, 0]) (QaZ h1a h1b hl1) rfl rfl (.inl rfl) rfl rfl (Qh rfl rfl (QR (ds0 := [2, 1, 0]) rfl rfl rfl rfl rfl (Qh rfl rfl (QR (ds0 := [2, 1, 0]) rfl rfl rfl rfl rfl ?_))))))))))
   refine QU (ds0 := [1, 0]) (QaZ h2a h2b hl2) rfl rfl (.inl rfl) rfl rfl (QZ rfl rfl (Y4 (ds0 := []) rfl rfl rfl rfl rfl rfl rfl rfl rfl rfl ?_))
   refine hK _ _ (Qb (kp1 rfl) ?_)
   refine Qu (Post.eq (ZF (ds := [.sl _, .sl _]) (cs := [_, _]) rfl rfl rfl rfl rfl) ?_)
   rw [Qpf, if_pos ⟨h1, h2⟩]; rfl
theorem QdJ {a : Qfd} (h1a : Sm a.1) (h2a : Sm a.2) : Ok Tryz.prog 84 [Qhz a] (Qhz (QhY a)) := by
 refine Ok.ofT ZP Tryz.func84 Qth (Nat.le_of_ble_eq_true rfl) ?_
 show TW _ _ tf84.body _ _
 refine Qf fun K hK => Zr rfl rfl rfl (ZH rfl ?_)
 refine hK _ _ (Qb (kp2 rfl rfl) ?_)
 refine Qz ?_ -- 0
 refine Qf fun K hK => QG (cs := [_, _]) rfl rfl rfl rfl (QH (YH h1a h2a) rfl rfl (.inr rfl) (Z9 rfl ?_))
 refine hK _ _ (Qb (kp3 rfl rfl rfl) ?_)
 refine Qw rfl (fun h1 => ?_) (fun h1 => ?_)
 ·try rw [h1]
  try simp only [qa, qb, qc, qd, qe] at h1
  refine Qf fun K hK => QH (Yb) rfl rfl (.inl rfl) (Q7 rfl rfl rfl rfl rfl rfl rfl rfl ?_)
  refine hK _ _ (Qb (kp1 rfl) ?_)
  refine Qu (Qj (Post.eq (ZF (ds := [.sl _, .sl _]) (cs := [_, _]) rfl rfl rfl rfl rfl) ?_))
  rw [QhY, if_neg (by simp [h1])]; rfl
 ·try rw [h1]
  try simp only [qa, qb, qc, qd, qe] at h1
  refine Qv (Qd (kp2 rfl rfl) (Qf fun K hK => Qh rfl rfl (QR (ds0 := [5, 1, 0]) rfl rfl rfl rfl rfl (QU (ds0 := [1, 0]) (QaA h1a) rfl rfl (.inl rfl) rfl rfl (Qh rfl rfl (QR (ds0 := [2, 1, 0]) rfl rfl rfl rfl rfl (QU (ds0 := [1, 0]) (QaA h2a) rfl rfl (.inl rfl) rfl rfl (QZ rfl rfl (Y4 (ds0 := []) rfl rfl rfl rfl rfl rfl rfl rfl rfl rfl ?_)))))))))
  refine hK _ _ (Qb (kp1 rfl) ?_)
  refine Qu (Post.eq (ZF (ds := [.sl _, .sl _]) (cs := [_, _]) rfl rfl rfl rfl rfl) ?_)
  rw [QhY, if_pos h1]; rfl
end Go.Proofs
namespace Go.Proofs
open Go Go.Abs M3 M25
set_option linter.unusedVariables false
set_option linter.unusedSimpArgs false
theorem Z4 {v n : Int} (hn : n <= 9223372036854775807) (hv : I64 v) : Ok Tryz.prog 31 [.int .i64 v, .int .i64 n] (.int .i64 (mPl v n)) := by
 refine Ok.ofT ZP Tryz.func31 Qsq (Nat.le_of_ble_eq_true rfl) ?_
 show TW _ _ tf31.body _ _
 refine Qf fun K hK => Qa rfl ?_
 refine hK _ _ (Qb (kp2 rfl rfl) ?_)
 refine Qz ?_ -- 0
 refine Qf fun K hK => Qa rfl (ZW rfl rfl ?_)
 refine hK _ _ (Qb (kp3 rfl rfl rfl) ?_)
 refine Qw rfl (fun h1 => ?_) (fun h1 => ?_)
 ·try rw [h1]
  try simp only [qa, qb, qc, qd, qe] at h1
  refine Qf fun K hK => Qa rfl ?_
  refine hK _ _ (Qb (kp1 rfl) ?_)
  refine Qu (Qj (QD rfl ?_))
  rw [mPl, if_pos h1]
 ·try rw [h1]
  try simp only [qa, qb, qc, qd, qe] at h1
  refine Qv (Qd (kp2 rfl rfl) (Qf fun K hK => Qa rfl (Qa rfl (Ql3 rfl rfl (by omega) (Qa rfl ?_)))))
  refine hK _ _ (Qb (kp2 rfl rfl) ?_)
  refine Qz ?_ -- 1
  refine Qf fun K hK => Qa rfl (ZW rfl rfl ?_)
  refine hK _ _ (Qb (kp3 rfl rfl rfl) ?_)
  refine Qw rfl (fun h2 => ?_) (fun h2 => ?_)
  ·try rw [h2]
   try simp only [qa, qb, qc, qd, qe] at h2
   refine Qf fun K hK => Qa rfl (Qa rfl (QY rfl rfl (Qq (by have := Int.lt_tmod_of_pos v (show 0 < n by omega); omega) (by have := Int.tmod_lt_of_pos v (show 0 < n by omega); omega)) (Qa rfl ?_)))
   refine hK _ _ (Qb (kp1 rfl) ?_)
   refine Qu (Qj (QD rfl ?_))
   rw [mPl, if_neg h1, Qgc, if_pos h2]
  ·try rw [h2]
   try simp only [qa, qb, qc, qd, qe] at h2
   refine Qv (Qd (kp1 rfl) (Qf fun K hK => Qa rfl (Qa rfl ?_)))
   refine hK _ _ (Qb (kp1 rfl) ?_)
   refine Qu (QD rfl ?_)
   rw [mPl, if_neg h1, Qgc, if_neg h2]
theorem Qeq {l : List Int} {i : Int} : Ok Tryz.prog 61 [Zl l, .int .i64 i] (.int .i64 (QnN l i)) := by
 refine Ok.ofT ZP Tryz.func61 QsU (Nat.le_of_ble_eq_true rfl) ?_
 show TW _ _ tf61.body _ _
 refine Qf fun K hK => Qa rfl ?_
 refine hK _ _ (Qb (kp2 rfl rfl) ?_)
 refine Qz ?_ -- 0
 refine Qf fun K hK => Qa rfl (ZW rfl rfl (Qa rfl ?_))
 refine QF (g := 7) rfl (fun h1 => ?_) (fun h1 => ?_)
 ·try rw [h1]
  try simp only [qa, qb, qc, qd, qe, List.length_map] at h1
  refine Qt rfl (Qt rfl (Qt rfl (Qt rfl (Qm rfl rfl ?_))))
  refine hK _ _ (Qb (kp3 rfl rfl rfl) ?_)
  refine Zs rfl (Qf fun K hK => Qa rfl (Ql3 rfl rfl (by omega) (Qa rfl ?_)))
  refine hK _ _ (Qb (kp1 rfl) ?_)
  refine Qu (Qj (QD rfl ?_))
  rw [QnN, if_pos (by omega)]
 ·try rw [h1]
  try simp only [qa, qb, qc, qd, qe, List.length_map] at h1
  refine Qk rfl (Qa rfl (Qk rfl (Qa rfl (Qk rfl (QO rfl rfl (Qk rfl (Qen rfl rfl (Qm rfl rfl ?_))))))))
  refine hK _ _ (Qb (kp3 rfl rfl rfl) ?_)
  refine Qw rfl (fun h2 => ?_) (fun h2 => ?_)
  ·try rw [h2]
   try simp only [qa, qb, qc, qd, qe, List.length_map] at h2
   refine Qf fun K hK => Qa rfl (Ql3 rfl rfl (by omega) (Qa rfl ?_))
   refine hK _ _ (Qb (kp1 rfl) ?_)
   refine Qu (Qj (QD rfl ?_))
   rw [QnN, if_pos (by omega)]
  ·try rw [h2]
   try simp only [qa, qb, qc, qd, qe, List.length_map] at h2
   refine Qv (Qd (kp2 rfl rfl) (Qf fun K hK => Qa rfl (Qa rfl (QK rfl rfl rfl (by omega) (Zu (by omega) (by omega)) rfl (QC rfl rfl rfl (Qa rfl ?_))))))
   refine hK _ _ (Qb (kp1 rfl) ?_)
   refine Qu (QD rfl ?_)
   exact (QmJ (by omega) (by omega)).symm
theorem XM {k : Nat} {L : List Int} {I n : Int} (hk : 1000000 <= k) (hL : ∀ x ∈ L, I64 x) (hn : n <= 9223372036854775807) (et : Nat) : OkH Tryz.prog 36 [.ref k 0 0, .int .i64 n] [(k, gB L I et)] (.int .i64 (nx L I n)) ((k, gB L (nxI I) et) :: [(k, gB L I et)]) := by
 refine OkH.lent hk ZP Tryz.func36 Qsv (Nat.le_of_ble_eq_true rfl) rfl ?_
 show TW _ _ tf36.body _ _
 refine Qf fun K hK => Qa rfl ?_
 refine hK _ _ (Qb (kp2 rfl rfl) ?_)
 refine Qf fun K hK => Qa rfl (Yf rfl rfl (Qh rfl Qfl (QC rfl (Ya QeB rfl) rfl (QY rfl rfl rfl (Yf rfl rfl (Qh rfl Qfl (Q7 rfl QeB rfl rfl rfl rfl rfl rfl ?_)))))))
 refine hK _ _ (Qb (kp2 rfl rfl) ?_)
 refine Qf fun K hK => Qa rfl (Yf rfl rfl (Qh rfl Qfl (QR (ds0 := [3, 1, 0]) rfl (Ya QeB rfl) rfl rfl rfl (Qa rfl (Yf rfl rfl (Qh rfl Qfl (QR (ds0 := [4, 3, 1, 0]) rfl (Ya QeB rfl) rfl rfl rfl (Qas rfl rfl rfl (QU (ds0 := [1, 0]) (Qeq) rfl rfl (.inr rfl) rfl rfl (Qa rfl ?_))))))))))
 refine QU (ds0 := [0]) (Z4 hn (Qoq hL (Qgw _))) rfl rfl (.inr rfl) rfl rfl (Qa rfl ?_)
 refine hK _ _ (Qb (kp1 rfl) ?_)
 refine Qu ?_
 exact YA rfl rfl (Qqb QeB)
end Go.Proofs
namespace Go.Proofs
open Go Go.Abs M3 M25
set_option linter.unusedVariables false
set_option linter.unusedSimpArgs false
theorem Yu {v : Int} (h0 : 0 <= v) (h1v : v <= 61) : Ok Tryz.prog 50 [.int .i64 v] (.int .i64 (2 ^ v.toNat)) := by
 refine Ok.ofT ZP Tryz.func50 QsJ (Nat.le_of_ble_eq_true rfl) ?_
 show TW _ _ tf50.body _ _
 refine Qf fun K hK => Qa rfl ?_
 refine hK _ _ (Qb (kp1 rfl) ?_)
 refine Qf fun K hK => Qa rfl ?_
 refine hK _ _ (Qb (kp2 rfl rfl) ?_)
 refine Qz ?_ -- 0
 refine Qf fun K hK => Qa rfl ?_
 refine hK _ _ (Qb (kp3 rfl rfl rfl) ?_)
 refine Qy ?_
 refine Zi (ι := Nat) (fun i => ⟨[(0, .int .i64 v), (3, .int .i64 (2 ^ i)), (4, .int .i64 i)], []⟩) (fun i => (i : Int) <= v) (fun i => v.toNat - i) 0 ?_ ?_ ?_
 ·exact Zd (kp3 rfl rfl rfl)
 ·exact h0
 intro i hI
 have hp := Qh3 (i := i + 1) (by omega)
 rw [Int.pow_succ] at hp
 try dsimp only
 refine Qz ?_ -- 1
 refine Qf fun K hK => Qa rfl (Qa rfl (ZW rfl rfl ?_))
 refine hK _ _ (Qb (kp4 rfl rfl rfl rfl) ?_)
 refine Qw rfl (fun h1 => ?_) (fun h1 => ?_)
 ·try rw [h1]
  try simp only [qa, qb, qc, qd, qe] at h1
  refine Qv (Qd (kp3 rfl rfl rfl) ?_)
  refine Qz ?_ -- 2
  refine Qy (QL fun K hK => Qa rfl (QnT rfl rfl (Qq (by obtain ⟨p1, p2⟩ := hp; generalize (2 : Int) ^ i = z at *; omega) (by obtain ⟨p1, p2⟩ := hp; generalize (2 : Int) ^ i = z at *; omega)) (Qa rfl (hK _ ?_))))
  refine Qg (Qd (kp3 rfl rfl rfl) (QL fun K hK => Qa rfl (QY rfl rfl (Qq (by omega) (by omega)) (Qa rfl (hK _ ?_)))))
  refine Qi (i + 1) ?_ ?_ ?_
  ·exact QX (l := [0, 3, 4]) (lH := []) (kp3 rfl rfl rfl) Ql (by rw [Int.pow_succ]; rfl) rfl rfl
  ·show ((i + 1 : Nat) : Int) <= v; omega
  ·first | omega | (simp only; omega) | (dsimp only; omega)
 ·try rw [h1]
  try simp only [qa, qb, qc, qd, qe] at h1
  refine Za (QJ (Qx (QB (Qd (kp1 rfl) (Qf fun K hK => Qa rfl (Qa rfl ?_))))))
  refine hK _ _ (Qb (kp1 rfl) ?_)
  refine Qu (QD rfl ?_)
  rw [show v.toNat = i by omega]
theorem XN {h m : Int} : Ok Tryz.prog 29 [.int .i64 h, .int .i64 m] (.int .i64 (ZO h m)) := by
 refine Ok.ofT ZP Tryz.func29 Qsp (Nat.le_of_ble_eq_true rfl) ?_
 show TW _ _ tf29.body _ _
 refine Qf fun K hK => Qa rfl ?_
 refine hK _ _ (Qb (kp2 rfl rfl) ?_)
 refine Qz ?_ -- 0
 refine Qy (Qf fun K hK => Qa rfl (Qa rfl (Qdy rfl rfl (Qa rfl (ZL rfl rfl (Qa rfl ?_))))))
 refine hK _ _ (Qb (kp3 rfl rfl rfl) ?_)
 refine Qw rfl (fun h1 => ?_) (fun h1 => ?_)
 ·try rw [h1]
  try simp only [qa, qb, qc, qd, qe] at h1
  refine Qf fun K hK => Qa rfl ?_
  refine hK _ _ (Qb (kp1 rfl) ?_)
  refine Qu (Qr (Qj (QD rfl ?_)))
  rw [ZO, if_pos h1]
 ·try rw [h1]
  try simp only [qa, qb, qc, qd, qe] at h1
  refine Qf fun K hK => Qa rfl (Qa rfl (Qdy rfl rfl (ZL rfl rfl (Qa rfl ?_))))
  refine hK _ _ (Qb (kp1 rfl) ?_)
  refine Qw rfl (fun h2 => ?_) (fun h2 => ?_)
  ·try rw [h2]
   try simp only [qa, qb, qc, qd, qe] at h2
   refine Qf fun K hK => Qa rfl ?_
   refine hK _ _ (Qb (kp1 rfl) ?_)
   refine Qu (Qr (Qj (QD rfl ?_)))
   rw [ZO, if_neg h1, if_pos h2]
  ·try rw [h2]
   try simp only [qa, qb, qc, qd, qe] at h2
   refine Qv (Qg (Qd (Q2) (Qf fun K hK => Qa rfl ?_)))
   refine hK _ _ (Qb (kp1 rfl) ?_)
   refine Qu (QD rfl ?_)
   rw [ZO, if_neg h1, if_neg h2]
theorem Qiv {h m : Int} : Ok Tryz.prog 87 [.int .i64 h, .int .i64 m] (.int .i64 (QaO h m)) := by
 refine Ok.ofT ZP Tryz.func87 Qtk (Nat.le_of_ble_eq_true rfl) ?_
 show TW _ _ tf87.body _ _
 refine Qf fun K hK => Qa rfl ?_
 refine hK _ _ (Qb (kp2 rfl rfl) ?_)
 refine Qz ?_ -- 0
 refine Qy (Qf fun K hK => Qa rfl (Qa rfl (Qfc rfl rfl (ZL rfl rfl (Qa rfl ?_)))))
 refine hK _ _ (Qb (kp3 rfl rfl rfl) ?_)
 refine Qw rfl (fun h1 => ?_) (fun h1 => ?_)
 ·try rw [h1]
  try simp only [qa, qb, qc, qd, qe] at h1
  refine Qf fun K hK => Qa rfl ?_
  refine hK _ _ (Qb (kp1 rfl) ?_)
  refine Qu (Qr (Qj (QD rfl ?_)))
  rw [QaO, if_pos h1]
 ·try rw [h1]
  try simp only [qa, qb, qc, qd, qe] at h1
  refine Qf fun K hK => Qa rfl (Qa rfl (Qdy rfl rfl (ZL rfl rfl (Qa rfl ?_))))
  refine hK _ _ (Qb (kp1 rfl) ?_)
  refine Qw rfl (fun h2 => ?_) (fun h2 => ?_)
  ·try rw [h2]
   try simp only [qa, qb, qc, qd, qe] at h2
   refine Qf fun K hK => Qa rfl ?_
   refine hK _ _ (Qb (kp1 rfl) ?_)
   refine Qu (Qr (Qj (QD rfl ?_)))
   rw [QaO, if_neg h1, if_pos h2]
  ·try rw [h2]
   try simp only [qa, qb, qc, qd, qe] at h2
   refine Qv (Qg (Qd (Q2) (Qf fun K hK => Qa rfl ?_)))
   refine hK _ _ (Qb (kp1 rfl) ?_)
   refine Qu (QD rfl ?_)
   rw [QaO, if_neg h1, if_neg h2]
end Go.Proofs
namespace Go.Proofs
open Go Go.Abs M3 M25
set_option linter.unusedVariables false
set_option linter.unusedSimpArgs false
theorem Xn  : Ok Tryz.prog 53 [] (.sl (versions.map dVr)) := by
 refine Ok.ofT ZP Tryz.func53 QsM (Nat.le_of_ble_eq_true rfl) ?_
 show TW _ _ tf53.body _ _
 refine Qf fun K hK => Qa rfl ?_
 refine hK _ _ (Qb (Q2) ?_)
 refine Qf fun K hK => QZ rfl rfl (QZ rfl rfl (QZ rfl rfl (QZ rfl rfl (QE rfl rfl (Qa rfl ?_)))))
 refine hK _ _ (Qb (kp1 rfl) ?_)
 refine Qu (Yj rfl ?_)
 rfl
end Go.Proofs
namespace M25
open Go Go.Abs M3
structure WantT where
 u : Int
 s : Qfd
structure CandT where
 v : Vr
 sh : Int
 ns : List (List WantT)
 bs : List WantT
structure Ql4 where
 n : List UInt8
 f : List UInt8
 cs : List CandT
abbrev Qn := List Ql4
def Qe6 (x : WantT) : List D := [.int .i64 x.u, ZG x.s.1, ZG x.s.2]
def Q9 (l : List WantT) : D := .sl (l.map Qe6)
def Q1 (l : List (List WantT)) : D := .sl (l.map fun r => [Q9 r])
def QpL (c : CandT) : List D := [.int .i64 c.v.a, .int .i64 c.v.b, .int .i64 c.v.c, .str c.v.p, .str c.v.q, .int .i64 c.sh, Q1 c.ns, Q9 c.bs]
def Qkx (l : List CandT) : D := .sl (l.map QpL)
def Z8 (u : Ql4) : List D := [.str u.n, .str u.f, Qkx u.cs]
def ZI (w : Qn) : D := .agg [.sl (w.map Z8)]
structure TermT where
 u : Int
 m : Int
 deriving DecidableEq
structure StepT where
 u : Int
 m : Int
 l : Int
 c : Int
 deriving DecidableEq
structure RowT where
 k : Int
 u : Int
 a : Int
 b : Int
 t : List TermT
def Qdm (t : TermT) : List D := [.int .i64 t.u, .int .i64 t.m]
def ZC (l : List TermT) : D := .sl (l.map Qdm)
def QfK (s : StepT) : List D := [.int .i64 s.u, .int .i64 s.m, .int .i64 s.l, .int .i64 s.c]
def Zp (l : List StepT) : D := .sl (l.map QfK)
def Qmf (r : RowT) : List D := [.int .i64 r.k, .int .i64 r.u, .int .i64 r.a, .int .i64 r.b, ZC r.t]
def QpM (l : List RowT) : D := .sl (l.map Qmf)
def dDb (l : List (List TermT)) : D := .sl (l.map fun t => [ZC t])
abbrev XQ (a b : Int) : Int := Qat .and .i64 a b
abbrev bor (a b : Int) : Int := Qat .or .i64 a b
abbrev Qe4 (a b : Int) : Int := Qat .andNot .i64 a b
def uAt (w : Qn) (u : Int) : Option Ql4 := if u < 0 then none else w[u.toNat]?
theorem Qhl {w : Qn} {u : Int} (h0 : 0 <= u) (h : u < w.length) : uAt w u = some (w[u.toNat]'(by omega)) := by
 rw [uAt, if_neg (by omega), List.getElem?_eq_getElem (by omega)]
theorem Qif {w : Qn} {u : Int} (h : u < 0 \/ (w.length : Int) <= u) : uAt w u = none := by
 unfold uAt
 split
 ·rfl
 ·rw [List.getElem?_eq_none]; omega
def Y0 (w : Qn) (u : Int) : Int := match uAt w u with
 | none => 0
 | some x => 2 ^ (min x.cs.length 16 + 1) - 1
theorem QhU {w : Qn} {u : Int} (h0 : 0 <= u) (h : u < w.length) : Y0 w u = 2 ^ (min (w[u.toNat]'(by omega)).cs.length 16 + 1) - 1 := by
 rw [Y0, Qhl h0 h]
theorem Qd0 {w : Qn} {u : Int} (h : u < 0 \/ (w.length : Int) <= u) : Y0 w u = 0 := by rw [Y0, Qif h]
theorem QdZ (w : Qn) (u : Int) : 0 <= Y0 w u /\ Y0 w u <= 131071 := by
 unfold Y0
 split
 ·omega
 ·rename_i x _
  have h1 : (2 : Nat) ^ (min x.cs.length 16 + 1) <= 2 ^ 17 := Nat.pow_le_pow_right (by omega) (by omega)
  have h2 : 1 <= (2 : Nat) ^ (min x.cs.length 16 + 1) := Nat.one_le_two_pow
  have h3 : ((2 ^ (min x.cs.length 16 + 1) : Nat) : Int) = (2 : Int) ^ (min x.cs.length 16 + 1) := by simp
  rw [<- h3]
  have h4 : (2 : Nat) ^ 17 = 131072 := by decide
  omega
def QgI (v : Vr) : Prop := v.p.length <= 1000000 /\ v.q.length <= 1000000
structure WSm (w : Qn) : Prop where
 len : w.length <= 48
 cs : ∀ u ∈ w, u.cs.length <= 16
 vs : ∀ u ∈ w, ∀ c ∈ u.cs, QgI c.v
 ns : ∀ u ∈ w, ∀ c ∈ u.cs, c.ns.length <= 1000 /\ c.bs.length <= 1000
 nl : ∀ u ∈ w, ∀ c ∈ u.cs, ∀ r ∈ c.ns, r.length <= 1000
 nw : ∀ u ∈ w, ∀ c ∈ u.cs, ∀ r ∈ c.ns, ∀ x ∈ r, Sm x.s.1 /\ Sm x.s.2
 bw : ∀ u ∈ w, ∀ c ∈ u.cs, ∀ x ∈ c.bs, Sm x.s.1 /\ Sm x.s.2
def Qrs (s : Qfd) (v : Vr) : Bool := QlI s v.a v.b v.c v.p v.q
def QbV (s : Qfd) (l : List CandT) : Nat -> Int
 | 0 => 0
 | n + 1 => QbV s l n + match l[n]? with
  | some c => if Qrs s c.v = true then 2 ^ (n + 1) else 0
  | none => 0
theorem QkZ (s : Qfd) (l : List CandT) : ∀ n, 0 <= QbV s l n /\ QbV s l n <= 2 ^ (n + 1) - 2
 | 0 => by simp [QbV]
 | n + 1 => by
  obtain ⟨h1, h2⟩ := QkZ s l n
  have h3 : (2 : Int) ^ (n + 1 + 1) = 2 ^ (n + 1) * 2 := Int.pow_succ ..
  have h4 : (0 : Int) < 2 ^ (n + 1) := Int.pow_pos (by omega)
  rw [QbV, h3]
  generalize (2 : Int) ^ (n + 1) = z at *
  split
  ·split <;> omega
  ·omega
theorem QmX {s : Qfd} {l : List CandT} {i : Nat} (h : i < l.length) (hp : Qrs s l[i].v = true) : QbV s l (i + 1) = QbV s l i + 2 ^ (i + 1) := by
 rw [QbV, List.getElem?_eq_getElem h]; simp only [hp, if_true]
theorem Qox {s : Qfd} {l : List CandT} {i : Nat} (h : i < l.length) (hp : Qrs s l[i].v = false) : QbV s l (i + 1) = QbV s l i := by
 rw [QbV, List.getElem?_eq_getElem h]; simp only [hp, Bool.false_eq_true, if_false, Int.add_zero]
def Qjz (w : Qn) (x : WantT) : Int := match uAt w x.u with
 | none => 0
 | some un => QbV x.s un.cs (min un.cs.length 16)
theorem QmQ {w : Qn} {x : WantT} (h0 : 0 <= x.u) (h : x.u < w.length) : Qjz w x = QbV x.s (w[x.u.toNat]'(by omega)).cs (min (w[x.u.toNat]'(by omega)).cs.length 16) := by
 rw [Qjz, Qhl h0 h]
theorem QkV {w : Qn} {x : WantT} (h : x.u < 0 \/ (w.length : Int) <= x.u) : Qjz w x = 0 := by rw [Qjz, Qif h]
theorem Qp2 {n : Nat} (h : n <= 17) : 1 <= (2 : Int) ^ n /\ (2 : Int) ^ n <= 131072 := by
 have h1 : (2 : Nat) ^ n <= 2 ^ 17 := Nat.pow_le_pow_right (by omega) h
 have h2 : 1 <= (2 : Nat) ^ n := Nat.one_le_two_pow
 have h3 : ((2 ^ n : Nat) : Int) = (2 : Int) ^ n := by simp
 rw [<- h3]
 have h4 : (2 : Nat) ^ 17 = 131072 := by decide
 omega
theorem QkY (s : Qfd) (l : List CandT) {n : Nat} (h : n <= 16) : 0 <= QbV s l n /\ QbV s l n <= 131070 := by
 obtain ⟨h1, h2⟩ := QkZ s l n
 have := Qp2 (n := n + 1) (by omega)
 omega
theorem QpY (w : Qn) (x : WantT) : 0 <= Qjz w x /\ Qjz w x <= 131070 := by
 unfold Qjz
 split
 ·omega
 ·exact QkY _ _ (by omega)
def Yz (w : Qn) (c : List Int) (u : Int) : Int := match uAt w u with
 | none => 0
 | some x => if (c.length : Int) <= u then 0 else if c.getD u.toNat 0 < -1 \/ ((min x.cs.length 16 : Nat) : Int) <= c.getD u.toNat 0 then 0 else 2 ^ (c.getD u.toNat 0 + 1).toNat
def QhX (w : Qn) (t : TermT) (c : List Int) : Bool := !decide (XQ (Yz w c t.u) t.m = 0)
def Xg (m : Int) : Nat -> List Int
 | 0 => []
 | n + 1 => Xg m n ++ if XQ m (2 ^ n) = 0 then [] else [(n : Int) - 1]
def Qbx (m : Int) : List Int := Xg m 17
theorem Qcy (m : Int) : ∀ n, (Xg m n).length <= n
 | 0 => Nat.le_refl _
 | n + 1 => by
  have := Qcy m n
  rw [Xg, List.length_append]
  split <;> simp <;> omega
def QbN (f : Int) (u : Int) : List TermT -> Int
 | [] => f
 | t :: r => if t.u = u then t.m else QbN f u r
def Qdq (w : Qn) (l : List TermT) (u : Int) : Int := QbN (Y0 w u) u l
theorem QlN {f u : Int} {l : List TermT} {i : Nat} (h : i < l.length) (hn : ¬ l[i].u = u) : QbN f u (l.drop i) = QbN f u (l.drop (i + 1)) := by
 rw [List.drop_eq_getElem_cons h, QbN, if_neg hn]
theorem QmW {f u : Int} {l : List TermT} {i : Nat} (h : i < l.length) (hn : l[i].u = u) : QbN f u (l.drop i) = l[i].m := by
 rw [List.drop_eq_getElem_cons h, QbN, if_pos hn]
def Qb9 (w : Qn) : Nat -> List Int
 | 0 => []
 | n + 1 => Qb9 w n ++ [Y0 w n]
theorem Qdo (w : Qn) : ∀ n, (Qb9 w n).length = n
 | 0 => rfl
 | n + 1 => by rw [Qb9, List.length_append, Qdo w n]; rfl
def Qa6 (w : Qn) : List Int := Qb9 w w.length
def XB (w : Qn) (ms : List Int) : Nat -> List TermT
 | 0 => []
 | n + 1 => XB w ms n ++ if ms.getD n 0 = Y0 w n then [] else [⟨n, ms.getD n 0⟩]
theorem Qg7 (w : Qn) (ms : List Int) : ∀ n, (XB w ms n).length <= n
 | 0 => Nat.le_refl _
 | n + 1 => by
  have := Qg7 w ms n
  rw [XB, List.length_append]
  split <;> simp <;> omega
def QiZ (w : Qn) (ms : List Int) : Option (List TermT) := if ms.all (fun m => !decide (m = 0)) = true then some (XB w ms ms.length) else none
def dOT (o : Option (List TermT)) : D := .tup [ZC (o.getD []), .bool o.isSome]
def XA (ms : List Int) (l : List TermT) : List Int := l.foldl (fun ms t => ms.set t.u.toNat (XQ (ms.getD t.u.toNat 0) t.m)) ms
def inW (w : Qn) (u : Int) : Bool := decide (0 <= u) && decide (u < w.length)
def Qda (w : Qn) (l : List TermT) : Option (List TermT) := if l.all (fun t => inW w t.u) = true then QiZ w (XA (Qa6 w) l) else none
def QgD (w : Qn) (l : List TermT) (c : List Int) : Bool := l.all fun t => QhX w t c
def Qg1 (l : List TermT) (u : Int) : List TermT := l.filter fun t => !decide (t.u = u)
def Yo (l : List TermT) : Nat -> List TermT
 | 0 => []
 | n + 1 => Yo l n ++ l.filter fun t => decide (t.u = ((n : Nat) : Int))
def Qh0 (l : List TermT) : List TermT := Yo l 48
def Ym (w : Qn) (u : Int) (p : Nat) (l : List WantT) (bar : Bool) : Option (List TermT) :=
 Qda w (⟨u, XQ (Y0 w u) (2 * 2 ^ p)⟩ :: l.map fun x => ⟨x.u, if bar = true then Qjz w x else Y0 w x.u - Qjz w x⟩)
def QjX (r x : RowT) : Bool := decide (x.k = r.k) && decide (x.u = r.u) && decide (Qg1 x.t r.u = Qg1 r.t r.u)
def Qog (w : Qn) (r x : RowT) : RowT := { x with t := Qh0 (⟨r.u, bor (Qdq w x.t r.u) (Qdq w r.t r.u)⟩ :: Qg1 x.t r.u) }
def Xj (w : Qn) (r : RowT) : List RowT -> List RowT
 | [] => [r]
 | x :: l => if QjX r x = true then Qog w r x :: l else x :: Xj w r l
def YP (w : Qn) (u : Int) (p : Nat) (l : List (List WantT)) (rows : List RowT) : List RowT := l.foldl (fun rows n => match Ym w u p n false with
 | some t => Xj w ⟨2, u, 0, 0, t⟩ rows
 | none => rows) rows
def QbQ (w : Qn) (u : Int) (p : Nat) (l : List WantT) (rows : List RowT) : List RowT := l.foldl (fun rows n => match Ym w u p [n] true with
 | some t => Xj w ⟨3, u, 0, 0, t⟩ rows
 | none => rows) rows
def YI (w : Qn) (u : Int) (cs : List CandT) : Nat -> List RowT -> List RowT
 | 0, rows => rows
 | n + 1, rows => match cs[n]? with
  | some c => QbQ w u n c.bs (YP w u n c.ns (YI w u cs n rows))
  | none => YI w u cs n rows
def Ys (w : Qn) : Nat -> List RowT
 | 0 => [⟨1, 0, 0, 0, [⟨0, 1⟩]⟩]
 | n + 1 => match w[n]? with
  | some u => YI w n u.cs u.cs.length (Ys w n)
  | none => Ys w n
def Qch (w : Qn) : List RowT := Ys w w.length
def mDB (w : Qn) : List (List TermT) := (Qch w).map RowT.t
/-! ### Trails -/
def Zg (w : Qn) (l : List StepT) (u : Int) : Int := l.foldl (fun a s => if s.u = u /\ inW w u = true then s.m else a) (Y0 w u)
def Xz (l : List StepT) : Int := match l.getLast? with
 | none => 0
 | some s => s.l
def QdY (l : List StepT) (u : Int) : Bool := l.any fun s => decide (s.u = u) && decide (s.c = -1)
def Qp0 : List Int -> Int
 | [x] => x
 | _ => -1
def Qgd (m : Int) : Int := Qp0 (Qbx m)
def Qd4 (w : Qn) (l : List StepT) (s : StepT) : Bool :=
 inW w s.u && decide (-1 <= s.c) && decide (XQ s.m (Zg w l s.u) = s.m) &&
  if s.c = -1 then decide (0 <= Qgd s.m) && !QdY l s.u && decide (s.l = IntKind.i64.wrap (Xz l + 1))
  else !decide (s.m = 0) && !decide (s.m = Zg w l s.u) && decide (s.l = Xz l)
def Qdr (w : Qn) (l : List StepT) : Bool := (List.range l.length).all fun i => match l[i]? with
 | some s => Qd4 w (l.take i) s
 | none => true
def Qe9 (w : Qn) (l : List StepT) (inc : List TermT) : Bool := inc.all fun t => decide (ZO (Zg w l t.u) t.m = 2)
def ZS (have_ : Int -> Int) : List TermT -> Int -> Int
 | [], at_ => at_
 | t :: r, at_ => if ZO (have_ t.u) t.m = 0 then -1 else if ZO (have_ t.u) t.m = 1 then (if 0 <= at_ then -1 else ZS have_ r t.u) else ZS have_ r at_
def Qe8 (w : Qn) (l : List StepT) (inc : List TermT) : Int := ZS (Zg w l) inc (-1)
def YJ (w : Qn) (l : List StepT) : Nat -> List (List TermT) -> Int × Int
 | _, [] => (-1, -1)
 | i, x :: r => if Qe9 w l x = true then (i, -1) else if 0 <= Qe8 w l x then (i, Qe8 w l x) else YJ w l (i + 1) r
def ZD (w : Qn) (db : List (List TermT)) (l : List StepT) : Int × Int := YJ w l 0 db
def Yn (w : Qn) (l : List StepT) (t : TermT) (c : Int) : Option (List StepT) :=
 if c < 0 \/ inW w t.u = false then none
 else if IntKind.i64.wrap (Zg w l t.u - XQ (Zg w l t.u) t.m) = 0 \/ IntKind.i64.wrap (Zg w l t.u - XQ (Zg w l t.u) t.m) = Zg w l t.u then none
 else some (l ++ [⟨t.u, IntKind.i64.wrap (Zg w l t.u - XQ (Zg w l t.u) t.m), Xz l, c⟩])
def Xp (w : Qn) (l : List StepT) (u p : Int) : Option (List StepT) := match uAt w u with
 | none => none
 | some x => if p < 0 \/ (x.cs.length : Int) <= p then none
  else if Qd4 w l ⟨u, IntKind.i64.wrap (2 * 2 ^ min p.toNat 64), IntKind.i64.wrap (Xz l + 1), -1⟩ = true then some (l ++ [⟨u, IntKind.i64.wrap (2 * 2 ^ min p.toNat 64), IntKind.i64.wrap (Xz l + 1), -1⟩]) else none
def dOS (o : Option (List StepT)) : D := .tup [Zp (o.getD []), .bool o.isSome]
def QbD (w : Qn) (db : List (List TermT)) : Nat -> List StepT -> List StepT × Int
 | 0, out => (out, -1)
 | n + 1, out => if (ZD w db out).2 < 0 then (out, (ZD w db out).1)
  else QbD w db n ((Yn w out ⟨(ZD w db out).2, Qdq w (db.getD (ZD w db out).1.toNat []) (ZD w db out).2⟩ (ZD w db out).1).getD [])
def Qa7 (w : Qn) (db : List (List TermT)) (l : List StepT) : List StepT × Int := QbD w db (w.length * 18 + 1) l
end M25
namespace M25
open Go Go.Abs M3
section
variable {fr : List (Nat × D)} {H : List (Nat × Box)} {t u : Nat}
theorem Qkq {k n : Nat} {b : Box} {d : D} (hb : lk H k = some b) (hp : b.pr = true) (hn : n = b.rows.length) (hd : .sl b.rows = d) : QbZ ⟨fr, H⟩ (.osl k n) = d := by
 unfold QbZ; rw [Qrr (S := Qdb) rfl hb hp hn]; exact hd
theorem Qaa {e : YE} {k n : Nat} {b : Box} {d : D} (h : lk fr t = some (.osl k n)) (hb : lk H k = some b) (hp : b.pr = true) (hn : n = b.rows.length) (hd : .sl b.rows = d) (he : e = .ret \/ e = .normal := by first | exact .inl rfl | exact .inr rfl) : Post [.tmp t] d e ⟨fr, H⟩ :=
 Yj h (Qkq hb hp hn hd) he
theorem Qgj {e : YE} {k n : Nat} {b : Box} {q d d' : D} (h : lk fr t = some (.osl k n)) (hb : lk H k = some b) (hp : b.pr = true) (hn : n = b.rows.length) (hd : .sl b.rows = d) (h2 : lk fr u = some q) (hd2 : QbZ ⟨fr, H⟩ q = d') (he : e = .ret \/ e = .normal := by first | exact .inl rfl | exact .inr rfl) : Post [.tmp t, .tmp u] (.tup [d, d']) e ⟨fr, H⟩ :=
 QT h h2 ⟨Qkq hb hp hn hd, hd2⟩ he
end
theorem Qrt (n : Nat) : (min (n : Int) 16 + 1).toNat = min n 16 + 1 := by omega
theorem Qjx {n : Nat} (h : n <= 62) : IntKind.i64.wrap ((2 : Int) ^ n - 1) = 2 ^ n - 1 := by
 have := Qh3 h; exact Qq (by omega) (by omega)
theorem QqT (i : Nat) : (2 : Int) ^ ((i : Int) + 1).toNat = 2 ^ (i + 1) := by rw [QnH]
theorem QoT (s : Qfd) (l : List CandT) {i : Nat} (h : i < 16) : IntKind.i64.wrap (QbV s l i + (2 : Int) ^ ((i : Int) + 1).toNat) = QbV s l i + 2 ^ (i + 1) := by
 rw [QqT]
 have h1 := QkY s l (n := i) (by omega)
 have h2 := Qp2 (n := i + 1) (by omega)
 exact Qq (by omega) (by omega)
theorem Qae {w : Qn} {c : List Int} {u : Int} (h : (u < 0 \/ (w.length : Int) <= u) \/ (c.length : Int) <= u) : Yz w c u = 0 := by
 unfold Yz
 split
 ·rfl
 ·rename_i x hx
  rcases h with h | h
  ·rw [Qif h] at hx; cases hx
  ·rw [if_pos h]
theorem Qad {w : Qn} {c : List Int} {u : Int} (h0 : 0 <= u) (h1 : u < w.length) (h2 : u < c.length) (h : c[u.toNat]'(by omega) < -1 \/ min (((w[u.toNat]'(by omega)).cs.length : Nat) : Int) 16 <= c[u.toNat]'(by omega)) : Yz w c u = 0 := by
 rw [Yz, Qhl h0 h1]
 simp only []
 rw [if_neg (by omega), List.getD_eq_getElem?_getD, List.getElem?_eq_getElem (by omega)]
 simp only [Option.getD_some]
 rw [if_pos]
 rcases h with h | h
 ·exact .inl h
 ·right; omega
theorem Qa8 {w : Qn} {c : List Int} {u : Int} (h0 : 0 <= u) (h1 : u < w.length) (h2 : u < c.length) (h : ¬ c[u.toNat]'(by omega) < -1) (h' : ¬ min (((w[u.toNat]'(by omega)).cs.length : Nat) : Int) 16 <= c[u.toNat]'(by omega)) : Yz w c u = 2 ^ (c[u.toNat]'(by omega) + 1).toNat := by
 rw [Yz, Qhl h0 h1]
 simp only []
 rw [if_neg (by omega), List.getD_eq_getElem?_getD, List.getElem?_eq_getElem (by omega)]
 simp only [Option.getD_some]
 rw [if_neg]
 omega
theorem X3 {m : Int} {n : Nat} (h : ¬ XQ m (2 ^ n) = 0) : Xg m (n + 1) = Xg m n ++ [(n : Int) - 1] := by rw [Xg, if_neg h]
theorem Qbl {m : Int} {n : Nat} (h : XQ m (2 ^ n) = 0) : Xg m (n + 1) = Xg m n := by rw [Xg, if_pos h, List.append_nil]
theorem Qo2 {l : List TermT} {u : Int} {i : Nat} (h : i < l.length) : Qg1 (l.take (i + 1)) u = Qg1 (l.take i) u ++ if l[i].u = u then [] else [l[i]] := by
 rw [List.take_succ_eq_append_getElem h, Qg1, List.filter_append]
 congr 1
 simp only [List.filter_cons, List.filter_nil]
 by_cases hu : l[i].u = u <;> simp [hu]
theorem Qbf {l : List TermT} {u : Int} {i : Nat} (h : i < l.length) (hn : ¬ l[i].u = u) : Qg1 (l.take (i + 1)) u = Qg1 (l.take i) u ++ [l[i]] := by rw [Qo2 h, if_neg hn]
theorem QdD {l : List TermT} {u : Int} {i : Nat} (h : i < l.length) (hn : l[i].u = u) : Qg1 (l.take (i + 1)) u = Qg1 (l.take i) u := by rw [Qo2 h, if_pos hn, List.append_nil]
theorem QfG (l : List TermT) (u : Int) : (Qg1 l u).length <= l.length := List.length_filter_le ..
theorem Qn0 (l : List TermT) (u : Int) (i : Nat) : (Qg1 (l.take i) u).length <= l.length := Nat.le_trans (QfG ..) (List.length_take_le' ..)
def QeP (l : List TermT) (u : Nat) (i : Nat) : List TermT := (l.take i).filter fun t => decide (t.u = ((u : Nat) : Int))
theorem Qp9 {l : List TermT} {u i : Nat} (h : i < l.length) (hn : l[i].u = ((u : Nat) : Int)) : QeP l u (i + 1) = QeP l u i ++ [l[i]] := by
 rw [QeP, List.take_succ_eq_append_getElem h, List.filter_append]; simp [hn, QeP]
theorem QqU {l : List TermT} {u i : Nat} (h : i < l.length) (hn : ¬ l[i].u = ((u : Nat) : Int)) : QeP l u (i + 1) = QeP l u i := by
 rw [QeP, List.take_succ_eq_append_getElem h, List.filter_append]; simp [hn, QeP]
theorem Qnq (l : List TermT) (u i : Nat) : (QeP l u i).length <= l.length := Nat.le_trans (List.length_filter_le ..) (List.length_take_le' ..)
theorem Qjq (l : List TermT) (u : Nat) : Yo l (u + 1) = Yo l u ++ QeP l u l.length := by rw [Yo, QeP, List.take_length]
theorem Qhk (l : List TermT) : ∀ n, (Yo l n).length <= n * l.length
 | 0 => by simp [Yo]
 | n + 1 => by
  have := Qhk l n
  rw [Qjq, List.length_append, Nat.succ_mul]
  have := Qnq l n l.length
  omega
theorem X4 (w : Qn) (n : Nat) : Qb9 w (n + 1) = Qb9 w n ++ [Y0 w n] := rfl
theorem X7 {w : Qn} {ms : List Int} {n : Nat} (h : n < ms.length) (hn : ¬ ms[n] = Y0 w n) : XB w ms (n + 1) = XB w ms n ++ [⟨n, ms[n]⟩] := by
 rw [XB, List.getD_eq_getElem?_getD, List.getElem?_eq_getElem h]; simp [hn]
theorem Qby {w : Qn} {ms : List Int} {n : Nat} (h : n < ms.length) (hn : ms[n] = Y0 w n) : XB w ms (n + 1) = XB w ms n := by
 rw [XB, List.getD_eq_getElem?_getD, List.getElem?_eq_getElem h]; simp [hn]
theorem QlK {w : Qn} {ms : List Int} {i : Nat} (h : i < ms.length) (hz : ms[i] = 0) : QiZ w ms = none := by
 rw [QiZ, if_neg]
 rw [Xv h (by simp [hz])]; simp
theorem QmO {w : Qn} {ms : List Int} {i : Nat} (hi : ms.length <= i) (h : (ms.take i).all (fun m => !decide (m = 0)) = true) : QiZ w ms = some (XB w ms ms.length) := by
 rw [List.take_of_length_le hi] at h; rw [QiZ, if_pos h]
theorem Qc7 {w : Qn} {u : Int} (h0 : 0 <= u) (h : u < w.length) : inW w u = true := by simp [inW, h0, h]
theorem Qbr {w : Qn} {u : Int} (h : u < 0 \/ (w.length : Int) <= u) : inW w u = false := by
 simp only [inW, Bool.and_eq_false_iff, decide_eq_false_iff_not]; omega
theorem Qbq {w : Qn} {u : Int} : inW w u = true ↔ 0 <= u /\ u < w.length := by simp [inW]
theorem QlL (l : List TermT) : ∀ ms : List Int, (XA ms l).length = ms.length := by
 induction l with
 | nil => intro ms; rfl
 | cons t l ih => intro ms; rw [XA, List.foldl_cons]; exact (ih _).trans (List.length_set ..)
theorem Qou {ms : List Int} {l : List TermT} {i : Nat} (h : i < l.length) : XA ms (l.take (i + 1)) = (XA ms (l.take i)).set l[i].u.toNat (XQ ((XA ms (l.take i)).getD l[i].u.toNat 0) l[i].m) := by
 rw [List.take_succ_eq_append_getElem h, XA, List.foldl_append]; rfl
theorem QkX {ms : List Int} {l : List TermT} {i : Nat} (h : i < l.length) (hu : l[i].u.toNat < (XA ms (l.take i)).length) : XA ms (l.take (i + 1)) = (XA ms (l.take i)).set l[i].u.toNat (XQ ((XA ms (l.take i))[l[i].u.toNat]) l[i].m) := by
 rw [Qou h, List.getD_eq_getElem?_getD, List.getElem?_eq_getElem hu]; rfl
theorem QnF {x y : TermT} : QaE [0, 0] (Qdm x) (Qdm y) = some (decide (x = y)) := by
 obtain ⟨a, b⟩ := x
 obtain ⟨c, d⟩ := y
 simp only [Qdm, QaE, if_true, Option.map_some, Bool.and_true, Option.some.injEq]
 rw [Bool.eq_iff_iff]
 simp only [Bool.and_eq_true, decide_eq_true_eq, TermT.mk.injEq]
theorem Qnz {x y : StepT} : QaE [0, 0, 0, 0] (QfK x) (QfK y) = some (decide (x = y)) := by
 obtain ⟨a, b, e, f⟩ := x
 obtain ⟨c, d, g, h⟩ := y
 simp only [QfK, QaE, if_true, Option.map_some, Bool.and_true, Option.some.injEq]
 rw [Bool.eq_iff_iff]
 simp only [Bool.and_eq_true, decide_eq_true_eq, StepT.mk.injEq]
theorem Qjt {α : Type} {a b : List α} {i : Nat} (ha : i < a.length) (hb : i < b.length) (h : a.take i = b.take i) (he : a[i] = b[i]) : a.take (i + 1) = b.take (i + 1) := by
 rw [List.take_succ_eq_append_getElem ha, List.take_succ_eq_append_getElem hb, h, he]
theorem Qnl {α : Type} [DecidableEq α] {a b : List α} {i : Nat} (ha : i < a.length) (hb : i < b.length) (he : ¬ a[i] = b[i]) : decide (a = b) = false := decide_eq_false fun e => he (by subst e; rfl)
theorem Qfw {e : Int} (h1 : 0 <= e) (h2 : e <= 18446744073709551615) : IntKind.u64.wrap e = e := by
 unfold IntKind.wrap
 simp only [IntKind.bits, IntKind.signed, Bool.false_and, Bool.false_eq_true, if_false]
 omega
theorem QnL {p : Nat} (h : p <= 60) : IntKind.i64.wrap ((2 : Int) * 2 ^ min ((p : Nat) : Int).toNat IntKind.i64.bits) = 2 * 2 ^ p := by
 rw [show min ((p : Nat) : Int).toNat IntKind.i64.bits = p from by simp only [IntKind.bits, Int.toNat_natCast]; omega]
 have := Qh3 (i := p + 1) (by omega)
 rw [Int.pow_succ] at this
 exact Qq (by omega) (by omega)
theorem Qqg (w : Qn) (u : Int) (x : WantT) : IntKind.i64.wrap (Y0 w u - Qjz w x) = Y0 w u - Qjz w x := by
 have h1 := QdZ w u
 have h2 := QpY w x
 exact Qq (by omega) (by omega)
def clF (w : Qn) (bar : Bool) (x : WantT) : TermT := ⟨x.u, if bar = true then Qjz w x else Y0 w x.u - Qjz w x⟩
def clT (w : Qn) (u : Int) (p : Nat) (bar : Bool) (l : List WantT) : List TermT := ⟨u, XQ (Y0 w u) (2 * 2 ^ p)⟩ :: l.map (clF w bar)
theorem Qbj {w : Qn} {u : Int} {p : Nat} {bar : Bool} {l : List WantT} {i : Nat} (h : i < l.length) (hb : bar = false) : clT w u p bar (l.take (i + 1)) = clT w u p bar (l.take i) ++ [⟨l[i].u, Y0 w l[i].u - Qjz w l[i]⟩] := by
 rw [clT, List.take_succ_eq_append_getElem h, List.map_append, <- List.cons_append]; simp [clT, clF, hb]
theorem Qbi {w : Qn} {u : Int} {p : Nat} {bar : Bool} {l : List WantT} {i : Nat} (h : i < l.length) (hb : bar = true) : clT w u p bar (l.take (i + 1)) = clT w u p bar (l.take i) ++ [⟨l[i].u, Qjz w l[i]⟩] := by
 rw [clT, List.take_succ_eq_append_getElem h, List.map_append, <- List.cons_append]; simp [clT, clF, hb]
theorem Qmd (w : Qn) (u : Int) (p : Nat) (bar : Bool) (l : List WantT) : (clT w u p bar l).length = l.length + 1 := by simp [clT]
theorem Qg5 {w : Qn} {l : List TermT} {i : Nat} (h : i < l.length) (hu : inW w l[i].u = false) : Qda w l = none := by
 rw [Qda, Xv h hu]; rfl
theorem QmP {w : Qn} {l : List TermT} (h : l.all (fun t => inW w t.u) = true) : Qda w l = QiZ w (XA (Qa6 w) l) := by
 rw [Qda, if_pos h]
theorem QfR (w : Qn) (l : List TermT) : (XA (Qa6 w) l).length = w.length := by rw [QlL, Qa6, Qdo]
def srt (l : List TermT) (u i : Nat) : List TermT := Yo l u ++ QeP l u i
theorem QbG {l : List TermT} {u i : Nat} (h : i < l.length) (hn : l[i].u = ((u : Nat) : Int)) : srt l u (i + 1) = srt l u i ++ [l[i]] := by rw [srt, Qp9 h hn, <- List.append_assoc]; rfl
theorem Qej {l : List TermT} {u i : Nat} (h : i < l.length) (hn : ¬ l[i].u = ((u : Nat) : Int)) : srt l u (i + 1) = srt l u i := by rw [srt, QqU h hn]; rfl
theorem Qab (l : List TermT) (u : Nat) : srt l u 0 = Yo l u := by simp [srt, QeP]
theorem QbF (l : List TermT) (u : Nat) {i : Nat} (h : l.length = i) : Yo l (u + 1) = srt l u i := by rw [Qjq, h]; rfl
theorem Qqa (l : List TermT) (u i : Nat) : (srt l u i).length <= u * l.length + l.length := by
 have h1 := Qhk l u
 have h2 := Qnq l u i
 rw [srt, List.length_append]; omega
end M25
namespace Go.Proofs
open Go Go.Abs M3 M25
set_option linter.unusedVariables false
set_option linter.unusedSimpArgs false
theorem ZA {w : Qn} (hw : WSm w) {u : Int} : Ok Tryz.prog 27 [ZI w, .int .i64 u] (.int .i64 (Y0 w u)) := by
 refine Ok.ofT ZP Tryz.func27 Qsn (Nat.le_of_ble_eq_true rfl) ?_
 show TW _ _ tf27.body _ _
 refine Qf fun K hK => Zr rfl rfl rfl (Qa rfl ?_)
 refine hK _ _ (Qb (kp2 rfl rfl) ?_)
 refine Qz ?_ -- 0
 refine Qf fun K hK => Qa rfl (ZW rfl rfl (Qa rfl ?_))
 refine QF (g := 7) rfl (fun h1 => ?_) (fun h1 => ?_)
 ·try rw [h1]
  try simp only [qa, qb, qc, qd, qe, List.length_map] at h1
  refine Qt rfl (Qt rfl (Qt rfl (Qt rfl (Qt rfl (Qm rfl rfl ?_)))))
  refine hK _ _ (Qb (kp3 rfl rfl rfl) ?_)
  refine Zs rfl (Qf fun K hK => Qa rfl ?_)
  refine hK _ _ (Qb (kp1 rfl) ?_)
  refine Qu (Qj (QD rfl ?_))
  rw [Qd0 (by omega)]
 ·try rw [h1]
  try simp only [qa, qb, qc, qd, qe, List.length_map] at h1
  refine Qk rfl (Qa rfl (Qk rfl (Qh rfl rfl (Qk rfl (QC rfl rfl rfl (Qk rfl (QO rfl rfl (Qk rfl (Qen rfl rfl (Qm rfl rfl ?_))))))))))
  refine hK _ _ (Qb (kp3 rfl rfl rfl) ?_)
  refine Qw rfl (fun h2 => ?_) (fun h2 => ?_)
  ·try rw [h2]
   try simp only [qa, qb, qc, qd, qe, List.length_map] at h2
   refine Qf fun K hK => Qa rfl ?_
   refine hK _ _ (Qb (kp1 rfl) ?_)
   refine Qu (Qj (QD rfl ?_))
   rw [Qd0 (by omega)]
  ·try rw [h2]
   try simp only [qa, qb, qc, qd, qe, List.length_map] at h2
   refine Qv (Qd (kp2 rfl rfl) (Qf fun K hK => Qh rfl rfl (QC rfl rfl rfl (Qa rfl (QK rfl rfl rfl (by omega) (Zu (by omega) (by omega)) rfl (Q6 rfl rfl (QC rfl rfl rfl (QO rfl rfl (Qqx rfl rfl (QY rfl rfl (by first | exact Qq (by omega) (by omega) | rfl) ?_))))))))))
   refine QH (Yu (by omega) (by omega)) rfl rfl (.inr rfl) (Qas rfl rfl (Qjx (by omega)) (Qa rfl ?_))
   refine hK _ _ (Qb (kp1 rfl) ?_)
   refine Qu (QD rfl ?_)
   rw [QhU (by omega) (by omega), List.length_map, Qrt]
theorem YY {w : Qn} (hw : WSm w) {l : List TermT} (hl : l.length <= 1000000) {u : Int} : Ok Tryz.prog 28 [ZI w, ZC l, .int .i64 u] (.int .i64 (Qdq w l u)) := by
 refine Ok.ofT ZP Tryz.func28 Qso (Nat.le_of_ble_eq_true rfl) ?_
 show TW _ _ tf28.body _ _
 refine Qf fun K hK => Zr rfl rfl rfl (Qa rfl ?_)
 refine hK _ _ (Qb (kp3 rfl rfl rfl) ?_)
 refine Qz ?_ -- 0
 refine Qf fun K hK => Qa rfl ?_
 refine hK _ _ (Qb (kp4 rfl rfl rfl rfl) ?_)
 refine Qy ?_
 refine Zi (ι := Nat) (fun i => ⟨[(1, ZC l), (2, .int .i64 u), (3, .ref 3 0 0), (7, .int .i64 i)], [(3, ⟨[[.sl ((w).map Z8)]], 1, 26, true⟩)]⟩) (fun i => i <= l.length /\ QbN (Y0 w u) u l = QbN (Y0 w u) u (l.drop i)) (fun i => l.length - i) 0 ?_ ?_ ?_
 ·exact QX (l := [1, 2, 3, 7]) (lH := [3]) (kp4 rfl rfl rfl rfl) (Qe rfl Ql) rfl rfl rfl
 ·exact ⟨Nat.zero_le _, by simp⟩
 intro i hI
 try dsimp only
 refine Qz ?_ -- 1
 refine Qf fun K hK => Qa rfl (Qa rfl (QO rfl rfl (ZW rfl rfl ?_)))
 refine hK _ _ (Qb (kp5 rfl rfl rfl rfl rfl) ?_)
 refine Qw rfl (fun h1 => ?_) (fun h1 => ?_)
 ·try rw [h1]
  try simp only [qa, qb, qc, qd, qe, List.length_map] at h1
  refine Qv (Qd (kp4 rfl rfl rfl rfl) ?_)
  refine Qz ?_ -- 2
  refine Qy (Qf fun K hK => Qa rfl (Qa rfl (QK rfl rfl rfl (by omega) (QS (by omega)) rfl (Q6 rfl rfl (QC rfl rfl rfl (Qa rfl (ZL rfl rfl ?_)))))))
  refine hK _ _ (Qb (kp5 rfl rfl rfl rfl rfl) ?_)
  refine Qw rfl (fun h2 => ?_) (fun h2 => ?_)
  ·try rw [h2]
   try simp only [qa, qb, qc, qd, qe, List.length_map] at h2
   refine Qf fun K hK => Qa rfl (Qa rfl (QK rfl rfl rfl (by omega) (QS (by omega)) rfl (Q6 rfl rfl (QC rfl rfl rfl (Qa rfl ?_)))))
   refine hK _ _ (Qb (kp1 rfl) ?_)
   refine Qu (Qr (Qj (QW (Qr (Qj (QD rfl ?_))))))
   rw [Qdq, hI.2, QmW (by omega) h2]
  ·try rw [h2]
   try simp only [qa, qb, qc, qd, qe, List.length_map] at h2
   refine Qv (Qg (Qd (kp4 rfl rfl rfl rfl) (QL fun K hK => Qa rfl (QY rfl rfl (by first | exact Qq (by omega) (by omega) | rfl) (Qa rfl (hK _ ?_))))))
   refine Qi (i + 1) ?_ ?_ ?_
   ·exact QX (l := [1, 2, 3, 7]) (lH := [3]) (kp4 rfl rfl rfl rfl) (Qe rfl Ql) rfl rfl rfl
   ·exact ⟨by omega, by rw [hI.2, QlN (by omega) (by assumption)]⟩
   ·first | omega | (simp only; omega) | (dsimp only; omega)
 ·try rw [h1]
  try simp only [qa, qb, qc, qd, qe, List.length_map] at h1
  refine Za (QJ (Qx (QB (Qd (kp2 rfl rfl) (Qf fun K hK => QG (cs := [_]) rfl rfl rfl rfl (Qa rfl (QH (ZA hw) rfl rfl (.inr rfl) (Qa rfl ?_))))))))
  refine hK _ _ (Qb (kp1 rfl) ?_)
  refine Qu (QD rfl ?_)
  rw [Qdq, hI.2, List.drop_eq_nil_of_le (by omega)]; rfl
theorem XO {w : Qn} (hw : WSm w) {c : List Int} {u : Int} : Ok Tryz.prog 48 [ZI w, Zl c, .int .i64 u] (.int .i64 (Yz w c u)) := by
 refine Ok.ofT ZP Tryz.func48 QsH (Nat.le_of_ble_eq_true rfl) ?_
 show TW _ _ tf48.body _ _
 refine Qf fun K hK => Zr rfl rfl rfl (Qa rfl ?_)
 refine hK _ _ (Qb (kp3 rfl rfl rfl) ?_)
 refine Qz ?_ -- 0
 refine Qf fun K hK => Qa rfl (ZW rfl rfl (Qa rfl ?_))
 refine QF (g := 9) rfl (fun h1 => ?_) (fun h1 => ?_)
 ·try rw [h1]
  try simp only [qa, qb, qc, qd, qe, List.length_map] at h1
  refine Qt rfl (Qt rfl (Qt rfl (Qt rfl (Qt rfl (Qm rfl rfl (Qa rfl (Qt rfl (Qt rfl (Qt rfl (Qt rfl (Qm rfl rfl ?_)))))))))))
  refine hK _ _ (Qb (kp4 rfl rfl rfl rfl) ?_)
  refine Zs rfl (Qf fun K hK => Qa rfl ?_)
  refine hK _ _ (Qb (kp1 rfl) ?_)
  refine Qu (Qj (QD rfl ?_))
  first | rw [Qae (by omega)] | rw [Qad (by omega) (by omega) (by omega) (by first | exact .inl (by assumption) | exact .inr (by simpa using h5))] | rw [Qa8 (by omega) (by omega) (by omega) (by assumption) (by simpa using h5)]
 ·try rw [h1]
  try simp only [qa, qb, qc, qd, qe, List.length_map] at h1
  refine Qk rfl (Qa rfl (Qk rfl (Qh rfl rfl (Qk rfl (QC rfl rfl rfl (Qk rfl (QO rfl rfl (Qk rfl (Qen rfl rfl (Qm rfl rfl (Qa rfl ?_)))))))))))
  refine QF (g := 16) rfl (fun h2 => ?_) (fun h2 => ?_)
  ·try rw [h2]
   try simp only [qa, qb, qc, qd, qe, List.length_map] at h2
   refine Qt rfl (Qt rfl (Qt rfl (Qt rfl (Qm rfl rfl ?_))))
   refine hK _ _ (Qb (kp4 rfl rfl rfl rfl) ?_)
   refine Zs rfl (Qf fun K hK => Qa rfl ?_)
   refine hK _ _ (Qb (kp1 rfl) ?_)
   refine Qu (Qj (QD rfl ?_))
   first | rw [Qae (by omega)] | rw [Qad (by omega) (by omega) (by omega) (by first | exact .inl (by assumption) | exact .inr (by simpa using h5))] | rw [Qa8 (by omega) (by omega) (by omega) (by assumption) (by simpa using h5)]
  ·try rw [h2]
   try simp only [qa, qb, qc, qd, qe, List.length_map] at h2
   refine Qk rfl (Qa rfl (Qk rfl (Qa rfl (Qk rfl (QO rfl rfl (Qk rfl (Qen rfl rfl (Qm rfl rfl ?_))))))))
   refine hK _ _ (Qb (kp4 rfl rfl rfl rfl) ?_)
   refine Qw rfl (fun h3 => ?_) (fun h3 => ?_)
   ·try rw [h3]
    try simp only [qa, qb, qc, qd, qe, List.length_map] at h3
    refine Qf fun K hK => Qa rfl ?_
    refine hK _ _ (Qb (kp1 rfl) ?_)
    refine Qu (Qj (QD rfl ?_))
    first | rw [Qae (by omega)] | rw [Qad (by omega) (by omega) (by omega) (by first | exact .inl (by assumption) | exact .inr (by simpa using h5))] | rw [Qa8 (by omega) (by omega) (by omega) (by assumption) (by simpa using h5)]
   ·try rw [h3]
    try simp only [qa, qb, qc, qd, qe, List.length_map] at h3
    refine Qv (Qd (kp3 rfl rfl rfl) ?_)
    refine Qz ?_ -- 1
    refine Qf fun K hK => Qa rfl (Qa rfl (QK rfl rfl rfl (by omega) (Zu (by omega) (by omega)) rfl (QR (ds0 := [15, 14, 13, 12, 11, 10, 9, 8, 7, 6, 5, 4, 3, 2, 1, 0]) rfl rfl rfl rfl rfl (ZW rfl rfl (Qa rfl ?_)))))
    refine QF (g := 27) rfl (fun h4 => ?_) (fun h4 => ?_)
    ·try rw [h4]
     try simp only [qa, qb, qc, qd, qe, List.length_map] at h4
     refine Qt rfl (Qt rfl (Qt rfl (Qt rfl (Qt rfl (Qt rfl (Qt rfl (Qt rfl (Qt rfl (Qt rfl (Qt rfl (Qt rfl ?_)))))))))))
     refine Qt rfl (Qm rfl rfl ?_)
     refine hK _ _ (Qb (kp3 rfl rfl rfl) ?_)
     refine Zs rfl (Qf fun K hK => Qa rfl ?_)
     refine hK _ _ (Qb (kp1 rfl) ?_)
     refine Qu (Qj (QD rfl ?_))
     first | rw [Qae (by omega)] | rw [Qad (by omega) (by omega) (by omega) (by first | exact .inl (by assumption) | exact .inr (by simpa using h5))] | rw [Qa8 (by omega) (by omega) (by omega) (by assumption) (by simpa using h5)]
    ·try rw [h4]
     try simp only [qa, qb, qc, qd, qe, List.length_map] at h4
     refine Qk rfl (Qa rfl (Qk rfl (Qa rfl (Qk rfl (QK rfl rfl rfl (by omega) (Zu (by omega) (by omega)) rfl (Qk rfl (QR (ds0 := [1, 0]) rfl rfl rfl rfl rfl (Qk rfl (Qh rfl rfl (Qk rfl (QR (ds0 := [6, 5, 4, 3, 2, 1, 0]) rfl rfl rfl rfl rfl ?_)))))))))))
     refine Qk rfl (Qa rfl (Qk rfl (QK rfl rfl rfl (by omega) (Zu (by omega) (by omega)) rfl (Qk rfl (Q6 rfl rfl (Qk rfl (QR (ds0 := [3, 2, 1, 0]) rfl rfl rfl rfl rfl (Qk rfl (QO rfl rfl (Qk rfl (Qqx rfl rfl ?_)))))))))))
     refine Qk rfl (Qen rfl rfl (Qm rfl rfl ?_))
     refine hK _ _ (Qb (kp3 rfl rfl rfl) ?_)
     refine Qw rfl (fun h5 => ?_) (fun h5 => ?_)
     ·try rw [h5]
      try simp only [qa, qb, qc, qd, qe, List.length_map] at h5
      refine Qf fun K hK => Qa rfl ?_
      refine hK _ _ (Qb (kp1 rfl) ?_)
      refine Qu (Qj (QD rfl ?_))
      first | rw [Qae (by omega)] | rw [Qad (by omega) (by omega) (by omega) (by first | exact .inl (by assumption) | exact .inr (by simpa using h5))] | rw [Qa8 (by omega) (by omega) (by omega) (by assumption) (by simpa using h5)]
     ·try rw [h5]
      try simp only [qa, qb, qc, qd, qe, List.length_map] at h5
      refine Qv (Qd (kp2 rfl rfl) (Qf fun K hK => Qa rfl (Qa rfl (QK rfl rfl rfl (by omega) (Zu (by omega) (by omega)) rfl (QC rfl rfl rfl (QY rfl rfl (by first | exact Qq (by omega) (by omega) | rfl) (QH (Yu (by omega) (by omega)) rfl rfl (.inr rfl) (Qa rfl ?_))))))))
      refine hK _ _ (Qb (kp1 rfl) ?_)
      refine Qu (QD rfl ?_)
      first | rw [Qae (by omega)] | rw [Qad (by omega) (by omega) (by omega) (by first | exact .inl (by assumption) | exact .inr (by simpa using h5))] | rw [Qa8 (by omega) (by omega) (by omega) (by assumption) (by simpa using h5)]
theorem Qb2 {w : Qn} (hw : WSm w) {t : TermT} {c : List Int} : Ok Tryz.prog 70 [ZI w, .agg (Qdm t), Zl c] (.bool (QhX w t c)) := by
 refine Ok.ofT ZP Tryz.func70 Qs3 (Nat.le_of_ble_eq_true rfl) ?_
 show TW _ _ tf70.body _ _
 refine Qf fun K hK => Zr rfl rfl rfl (Zr rfl rfl rfl (Qa rfl ?_))
 refine hK _ _ (Qb (kp3 rfl rfl rfl) ?_)
 refine Qf fun K hK => QN (ds0 := [5, 2, 1, 0]) (cs := [_]) rfl rfl rfl rfl rfl rfl (Qa rfl (Qh rfl rfl (QR (ds0 := [5, 2, 1, 0]) rfl rfl rfl rfl rfl (QU (ds0 := [2, 1, 0]) (XO hw) rfl rfl (.inr rfl) rfl rfl (Qh rfl rfl (QR (ds0 := [2, 1, 0]) rfl rfl rfl rfl rfl (Qdy rfl rfl (X1 rfl rfl (Qa rfl ?_)))))))))
 refine hK _ _ (Qb (kp1 rfl) ?_)
 refine Qu (Qs rfl ?_)
 rfl
theorem QcV {w : Qn} (hw : WSm w) {l : List TermT} (hl : l.length <= 1000000) {c : List Int} : Ok Tryz.prog 49 [ZI w, ZC l, Zl c] (.bool (QgD w l c)) := by
 refine Ok.ofT ZP Tryz.func49 QsI (Nat.le_of_ble_eq_true rfl) ?_
 show TW _ _ tf49.body _ _
 refine Qf fun K hK => Zr rfl rfl rfl (Qa rfl ?_)
 refine hK _ _ (Qb (kp3 rfl rfl rfl) ?_)
 refine Qz ?_ -- 0
 refine Qf fun K hK => Qa rfl ?_
 refine hK _ _ (Qb (kp4 rfl rfl rfl rfl) ?_)
 refine Qy ?_
 refine Zi (ι := Nat) (fun i => ⟨[(1, ZC l), (2, Zl c), (3, .ref 3 0 0), (7, .int .i64 i)], [(3, ⟨[[.sl ((w).map Z8)]], 1, 26, true⟩)]⟩) (fun i => i <= l.length /\ (l.take i).all (fun t => QhX w t c) = true) (fun i => l.length - i) 0 ?_ ?_ ?_
 ·exact QX (l := [1, 2, 3, 7]) (lH := [3]) (kp4 rfl rfl rfl rfl) (Qe rfl Ql) rfl rfl rfl
 ·exact ⟨Nat.zero_le _, by simp⟩
 intro i hI
 try dsimp only
 refine Qz ?_ -- 1
 refine Qf fun K hK => Qa rfl (Qa rfl (QO rfl rfl (ZW rfl rfl ?_)))
 refine hK _ _ (Qb (kp5 rfl rfl rfl rfl rfl) ?_)
 refine Qw rfl (fun h1 => ?_) (fun h1 => ?_)
 ·try rw [h1]
  try simp only [qa, qb, qc, qd, qe, List.length_map] at h1
  refine Qv (Qd (kp4 rfl rfl rfl rfl) ?_)
  refine Qz ?_ -- 2
  refine Qy (Qf fun K hK => QN (ds0 := [1, 0]) (cs := [_]) rfl rfl rfl rfl rfl rfl (Qa rfl (Qa rfl (QK rfl rfl rfl (by omega) (QS (by omega)) rfl (QN (ds0 := [1, 0]) (cs := [_, _]) rfl rfl rfl rfl rfl rfl (Qa rfl (QU (ds0 := [0]) (Qb2 hw) rfl rfl (.inr rfl) rfl rfl (Z9 rfl ?_))))))))
  refine hK _ _ (Qb (kp5 rfl rfl rfl rfl rfl) ?_)
  refine Qw rfl (fun h2 => ?_) (fun h2 => ?_)
  ·try rw [h2]
   try simp only [qa, qb, qc, qd, qe, List.length_map] at h2
   refine Qf fun K hK => Qa rfl ?_
   refine hK _ _ (Qb (kp1 rfl) ?_)
   refine Qu (Qr (Qj (QW (Qr (Qj (Qs rfl ?_))))))
   rw [QgD, Xv (i := i) (by omega) (by assumption)]
  ·try rw [h2]
   try simp only [qa, qb, qc, qd, qe, List.length_map] at h2
   refine Qv (Qg (Qd (kp4 rfl rfl rfl rfl) (QL fun K hK => Qa rfl (QY rfl rfl (by first | exact Qq (by omega) (by omega) | rfl) (Qa rfl (hK _ ?_))))))
   refine Qi (i + 1) ?_ ?_ ?_
   ·exact QX (l := [1, 2, 3, 7]) (lH := [3]) (kp4 rfl rfl rfl rfl) (Qe rfl Ql) rfl rfl rfl
   ·exact ⟨by omega, Z0 (by omega) hI.2 (by assumption)⟩
   ·first | omega | (simp only; omega) | (dsimp only; omega)
 ·try rw [h1]
  try simp only [qa, qb, qc, qd, qe, List.length_map] at h1
  refine Za (QJ (Qx (QB (Qd (Q2) (Qf fun K hK => Qa rfl ?_)))))
  refine hK _ _ (Qb (kp1 rfl) ?_)
  refine Qu (Qs rfl ?_)
  rw [QgD, Xl (i := i) (by omega) hI.2]
theorem Qde {w : Qn} (hw : WSm w) {x : WantT} (hx : Sm x.s.1 /\ Sm x.s.2) : Ok Tryz.prog 89 [ZI w, .agg (Qe6 x)] (.int .i64 (Qjz w x)) := by
 refine Ok.ofT ZP Tryz.func89 Qtm (Nat.le_of_ble_eq_true rfl) ?_
 show TW _ _ tf89.body _ _
 refine Qf fun K hK => Zr rfl rfl rfl (Zr rfl rfl rfl (Qa rfl ?_))
 refine hK _ _ (Qb (kp2 rfl rfl) ?_)
 refine Qz ?_ -- 0
 refine Qf fun K hK => Qh rfl rfl (QC rfl rfl rfl (ZW rfl rfl (Qa rfl ?_)))
 refine QF (g := 11) rfl (fun h1 => ?_) (fun h1 => ?_)
 ·try rw [h1]
  try simp only [qa, qb, qc, qd, qe, List.length_map] at h1
  refine Qt rfl (Qt rfl (Qt rfl (Qt rfl (Qt rfl (Qt rfl (Qm rfl rfl ?_))))))
  refine hK _ _ (Qb (kp3 rfl rfl rfl) ?_)
  refine Zs rfl (Qf fun K hK => Qa rfl ?_)
  refine hK _ _ (Qb (kp1 rfl) ?_)
  refine Qu (Qj (QD rfl ?_))
  rw [QkV (by omega)]
 ·try rw [h1]
  try simp only [qa, qb, qc, qd, qe, List.length_map] at h1
  refine Qk rfl (Qh rfl rfl (Qk rfl (QC rfl rfl rfl (Qk rfl (Qh rfl rfl (Qk rfl (QC rfl rfl rfl (Qk rfl (QO rfl rfl (Qk rfl (Qen rfl rfl ?_)))))))))))
  refine Qm rfl rfl ?_
  refine hK _ _ (Qb (kp3 rfl rfl rfl) ?_)
  refine Qw rfl (fun h2 => ?_) (fun h2 => ?_)
  ·try rw [h2]
   try simp only [qa, qb, qc, qd, qe, List.length_map] at h2
   refine Qf fun K hK => Qa rfl ?_
   refine hK _ _ (Qb (kp1 rfl) ?_)
   refine Qu (Qj (QD rfl ?_))
   rw [QkV (by omega)]
  ·try rw [h2]
   try simp only [qa, qb, qc, qd, qe, List.length_map] at h2
   refine Qv (Qd (kp2 rfl rfl) (Qf fun K hK => Qa rfl ?_))
   refine hK _ _ (Qb (kp3 rfl rfl rfl) ?_)
   refine Qf fun K hK => Qh rfl rfl (QC rfl rfl rfl (Qh rfl rfl (QC rfl rfl rfl (QK rfl rfl rfl (by omega) (Zu (by omega) (by omega)) rfl (Q6 rfl rfl (QC rfl rfl rfl (Qa rfl ?_)))))))
   refine hK _ _ (Qb (kp3 rfl rfl rfl) ?_)
   refine Qz ?_ -- 1
   refine Qf fun K hK => Qa rfl ?_
   refine hK _ _ (Qb (kp4 rfl rfl rfl rfl) ?_)
   refine Qy ?_
   refine Zi (ι := Nat) (fun i => ⟨[(3, .ref 3 0 0), (5, .int .i64 (QbV x.s (w[x.u.toNat]'(by omega)).cs i)), (6, Qkx (w[x.u.toNat]'(by omega)).cs), (7, .int .i64 i)], [(3, ⟨[[.int .i64 (x).u, ZG (x).s.1, ZG (x).s.2]], 3, 77, true⟩)]⟩) (fun i => i <= (min (w[x.u.toNat]'(by omega)).cs.length 16)) (fun i => (min (w[x.u.toNat]'(by omega)).cs.length 16) - i) 0 ?_ ?_ ?_
   ·exact QX (l := [3, 5, 6, 7]) (lH := [3]) (kp4 rfl rfl rfl rfl) (Qe rfl Ql) rfl rfl rfl
   ·exact Nat.zero_le _
   intro i hI
   try dsimp only
   refine Qz ?_ -- 2
   refine Qf fun K hK => Qa rfl (Qa rfl (QO rfl rfl (ZW rfl rfl (Qa rfl ?_))))
   refine QF (g := 30) rfl (fun h3 => ?_) (fun h3 => ?_)
   ·try rw [h3]
    try simp only [qa, qb, qc, qd, qe, List.length_map] at h3
    refine Qk rfl (Qa rfl (Qk rfl (ZW rfl rfl (Qm rfl rfl ?_))))
    refine hK _ _ (Qb (kp5 rfl rfl rfl rfl rfl) ?_)
    refine Qw rfl (fun h4 => ?_) (fun h4 => ?_)
    ·try rw [h4]
     try simp only [qa, qb, qc, qd, qe, List.length_map] at h4
     refine Qv (Qd (kp4 rfl rfl rfl rfl) ?_)
     refine Qz ?_ -- 3
     refine Qy (Qf fun K hK => Qh rfl rfl (QN (ds0 := [0]) (cs := [_, _]) rfl rfl rfl rfl rfl rfl (Qa rfl (Qa rfl (QK rfl rfl rfl (by omega) (QS (by omega)) rfl (Q6 rfl rfl (QN (ds0 := [0]) (cs := [_, _, _, _, _]) rfl rfl rfl rfl rfl rfl (QU (ds0 := []) (QdI hx.1 hx.2 (hw.vs _ (List.getElem_mem _) _ (List.getElem_mem (by omega))).1 (hw.vs _ (List.getElem_mem _) _ (List.getElem_mem (by omega))).2) rfl rfl (.inr rfl) rfl rfl ?_))))))))
     refine hK _ _ (Qb (kp5 rfl rfl rfl rfl rfl) ?_)
     refine Qw rfl (fun h5 => ?_) (fun h5 => ?_)
     ·try rw [h5]
      try simp only [qa, qb, qc, qd, qe, List.length_map] at h5
      refine QL fun K hK => Qa rfl (Qa rfl (QY rfl rfl (by first | exact Qq (by omega) (by omega) | rfl) (QH (Yu (by omega) (by omega)) rfl rfl (.inr rfl) (QY rfl rfl (QoT _ _ (by omega)) (Qa rfl (hK _ ?_))))))
      refine Qg (Qd (kp4 rfl rfl rfl rfl) (QL fun K hK => Qa rfl (QY rfl rfl (by first | exact Qq (by omega) (by omega) | rfl) (Qa rfl (hK _ ?_)))))
      refine Qi (i + 1) ?_ ?_ ?_
      ·exact QX (l := [3, 5, 6, 7]) (lH := [3]) (kp4 rfl rfl rfl rfl) (Qe rfl Ql) (by rw [QmX (by omega) (by assumption)]; rfl) rfl rfl
      ·omega
      ·first | omega | (simp only; omega) | (dsimp only; omega)
     ·try rw [h5]
      try simp only [qa, qb, qc, qd, qe, List.length_map] at h5
      refine Qv (Qg (Qd (kp4 rfl rfl rfl rfl) (QL fun K hK => Qa rfl (QY rfl rfl (by first | exact Qq (by omega) (by omega) | rfl) (Qa rfl (hK _ ?_))))))
      refine Qi (i + 1) ?_ ?_ ?_
      ·exact QX (l := [3, 5, 6, 7]) (lH := [3]) (kp4 rfl rfl rfl rfl) (Qe rfl Ql) (by rw [Qox (by omega) (by assumption)]; rfl) rfl rfl
      ·omega
      ·first | omega | (simp only; omega) | (dsimp only; omega)
    ·try rw [h4]
     try simp only [qa, qb, qc, qd, qe, List.length_map] at h4
     refine Za (QJ (Qx (QB (Qd (kp1 rfl) (Qf fun K hK => Qa rfl (Qa rfl ?_))))))
     refine hK _ _ (Qb (kp1 rfl) ?_)
     refine Qu (QD rfl ?_)
     rw [QmQ (by omega) (by omega), show i = min (w[x.u.toNat]'(by omega)).cs.length 16 by omega]
   ·try rw [h3]
    try simp only [qa, qb, qc, qd, qe, List.length_map] at h3
    refine Qt rfl (Qt rfl (Qm rfl rfl ?_))
    refine hK _ _ (Qb (kp5 rfl rfl rfl rfl rfl) ?_)
    refine Zz rfl (Za (QJ (Qx (QB (Qd (kp1 rfl) (Qf fun K hK => Qa rfl (Qa rfl ?_)))))))
    refine hK _ _ (Qb (kp1 rfl) ?_)
    refine Qu (QD rfl ?_)
    rw [QmQ (by omega) (by omega), show i = min (w[x.u.toNat]'(by omega)).cs.length 16 by omega]
theorem XT {m : Int} : Ok Tryz.prog 39 [.int .i64 m] (Zl (Qbx m)) := by
 refine Ok.ofT ZP Tryz.func39 Qsy (Nat.le_of_ble_eq_true rfl) ?_
 show TW _ _ tf39.body _ _
 refine Qf fun K hK => Qa rfl ?_
 refine hK _ _ (Qb (kp1 rfl) ?_)
 refine Qf fun K hK => Qa rfl ?_
 refine hK _ _ (Qb (kp2 rfl rfl) ?_)
 refine Qz ?_ -- 0
 refine Qf fun K hK => Qa rfl ?_
 refine hK _ _ (Qb (kp3 rfl rfl rfl) ?_)
 refine Qy ?_
 refine Zi (ι := Nat) (fun i => ⟨[(0, .int .i64 m), (3, .osl 3 (Xg m i).length), (4, .int .i64 i)], [(3, ⟨(Xg m i).map (fun x => [.int .i64 x]), 1, 3, true⟩)]⟩) (fun i => i <= 17) (fun i => 17 - i) 0 ?_ ?_ ?_
 ·exact le_trans (Yc 3 3 1 3 rfl rfl) (QX (l := [0, 3, 4]) (lH := [3]) (kp3 rfl rfl rfl) (Qe rfl Ql) rfl rfl rfl)
 ·exact Nat.zero_le _
 intro i hI
 have hlen := Qcy m i
 try dsimp only
 refine Qz ?_ -- 1
 refine Qf fun K hK => Qa rfl (QoW rfl rfl ?_)
 refine hK _ _ (Qb (kp4 rfl rfl rfl rfl) ?_)
 refine Qw rfl (fun h1 => ?_) (fun h1 => ?_)
 ·try rw [h1]
  try simp only [qa, qb, qc, qd, qe] at h1
  refine Qv (Qd (kp3 rfl rfl rfl) ?_)
  refine Qz ?_ -- 2
  refine Qy (Qf fun K hK => Qa rfl (Qa rfl (QH (Yu (by omega) (by omega)) rfl rfl (.inr rfl) (Qdy rfl rfl (X1 rfl rfl ?_)))))
  refine hK _ _ (Qb (kp4 rfl rfl rfl rfl) ?_)
  refine Qw rfl (fun h2 => ?_) (fun h2 => ?_)
  ·try rw [h2]
   try simp only [qa, qb, qc, qd, qe] at h2
   refine QL fun K hK => Qa rfl (Qa rfl (Qas rfl rfl (by first | exact Qq (by omega) (by omega) | rfl) (QE rfl rfl (Xe rfl rfl (fun _ h => YW rfl rfl rfl h) rfl (by simp) rfl rfl rfl (by simp; omega) (by simp; omega) (Qa rfl (hK _ ?_))))))
   refine Qg (Qd (kp3 rfl rfl rfl) (QL fun K hK => Qa rfl (QY rfl rfl (by first | exact Qq (by omega) (by omega) | rfl) (Qa rfl (hK _ ?_)))))
   refine Qi (i + 1) ?_ ?_ ?_
   ·exact QX (l := [0, 3, 4]) (lH := [3]) (kp3 rfl rfl rfl) (Qe rfl Ql) (by first | (rw [X3 (m := m) (n := i) h2]; done) | (rw [X3 (m := m) (n := i) h2]; rfl) | (rw [X3 (m := m) (n := i) h2, List.length_append]; rfl) | (simp [X3 (m := m) (n := i) h2]; done) | (simp [X3 (m := m) (n := i) h2]; omega) | rfl) (by first | (rw [X3 (m := m) (n := i) h2]; done) | (rw [X3 (m := m) (n := i) h2]; rfl) | (rw [X3 (m := m) (n := i) h2, List.map_append]; rfl) | (simp [X3 (m := m) (n := i) h2]; done) | rfl) rfl
   ·omega
   ·first | omega | (simp only; omega) | (dsimp only; omega)
  ·try rw [h2]
   try simp only [qa, qb, qc, qd, qe] at h2
   refine Qv (Qg (Qd (kp3 rfl rfl rfl) (QL fun K hK => Qa rfl (QY rfl rfl (by first | exact Qq (by omega) (by omega) | rfl) (Qa rfl (hK _ ?_))))))
   refine Qi (i + 1) ?_ ?_ ?_
   ·exact QX (l := [0, 3, 4]) (lH := [3]) (kp3 rfl rfl rfl) (Qe rfl Ql) (by first | (rw [Qbl (m := m) (n := i) h2]; done) | (rw [Qbl (m := m) (n := i) h2]; rfl) | (rw [Qbl (m := m) (n := i) h2, List.length_append]; rfl) | (simp [Qbl (m := m) (n := i) h2]; done) | (simp [Qbl (m := m) (n := i) h2]; omega) | rfl) (by first | (rw [Qbl (m := m) (n := i) h2]; done) | (rw [Qbl (m := m) (n := i) h2]; rfl) | (rw [Qbl (m := m) (n := i) h2, List.map_append]; rfl) | (simp [Qbl (m := m) (n := i) h2]; done) | rfl) rfl
   ·omega
   ·first | omega | (simp only; omega) | (dsimp only; omega)
 ·try rw [h1]
  try simp only [qa, qb, qc, qd, qe] at h1
  refine Za (QJ (Qx (QB (Qd (kp1 rfl) (Qf fun K hK => Qa rfl (Qa rfl ?_))))))
  refine hK _ _ (Qb (kp1 rfl) ?_)
  refine Qu ?_
  exact Qaa rfl rfl rfl (by simp) (by rw [Qbx, show (17 : Nat) = i by omega]; rfl)
theorem QcW {a b : List TermT} (ha : a.length <= 1000000) : Ok Tryz.prog 19 [ZC a, ZC b] (.bool (decide (a = b))) := by
 refine Ok.ofT ZP Tryz.func19 Qsf (Nat.le_of_ble_eq_true rfl) ?_
 show TW _ _ tf19.body _ _
 refine Qf fun K hK => Qa rfl ?_
 refine hK _ _ (Qb (kp2 rfl rfl) ?_)
 refine Qz ?_ -- 0
 refine Qf fun K hK => Qa rfl (QO rfl rfl (Qa rfl (QO rfl rfl (X1 rfl rfl ?_))))
 refine hK _ _ (Qb (kp3 rfl rfl rfl) ?_)
 refine Qw rfl (fun h1 => ?_) (fun h1 => ?_)
 ·try rw [h1]
  try simp only [qa, qb, qc, qd, qe, List.length_map] at h1
  refine Qf fun K hK => Qa rfl ?_
  refine hK _ _ (Qb (kp1 rfl) ?_)
  refine Qu (Qj (Qs rfl ?_))
  rw [decide_eq_false fun e => h1 (by rw [e])]
 ·try rw [h1]
  try simp only [qa, qb, qc, qd, qe, List.length_map] at h1
  refine Qv (Qd (kp2 rfl rfl) ?_)
  refine Qz ?_ -- 1
  refine Qf fun K hK => Qa rfl ?_
  refine hK _ _ (Qb (kp3 rfl rfl rfl) ?_)
  refine Qy ?_
  refine Zi (ι := Nat) (fun i => ⟨[(0, ZC a), (1, ZC b), (5, .int .i64 i)], []⟩) (fun i => i <= a.length /\ a.take i = b.take i) (fun i => a.length - i) 0 ?_ ?_ ?_
  ·exact Zd (kp3 rfl rfl rfl)
  ·exact ⟨Nat.zero_le _, by simp⟩
  intro i hI
  try dsimp only
  refine Qz ?_ -- 2
  refine Qf fun K hK => Qa rfl (Qa rfl (QO rfl rfl (ZW rfl rfl ?_)))
  refine hK _ _ (Qb (kp4 rfl rfl rfl rfl) ?_)
  refine Qw rfl (fun h2 => ?_) (fun h2 => ?_)
  ·try rw [h2]
   try simp only [qa, qb, qc, qd, qe, List.length_map] at h2
   refine Qv (Qd (kp3 rfl rfl rfl) ?_)
   refine Qz ?_ -- 3
   refine Qy (Qf fun K hK => Qa rfl (Qa rfl (QK rfl rfl rfl (by omega) (QS (by omega)) rfl (QN (ds0 := [0]) (cs := [_, _]) rfl rfl rfl rfl rfl rfl (Qa rfl (Qa rfl (QK rfl rfl rfl (by omega) (QS (by omega)) rfl (QN (ds0 := [0]) (cs := [_, _]) rfl rfl rfl rfl rfl rfl (QoV rfl rfl QnF ?_)))))))))
   refine hK _ _ (Qb (kp4 rfl rfl rfl rfl) ?_)
   refine Qw rfl (fun h3 => ?_) (fun h3 => ?_)
   ·try rw [h3]
    try simp only [qa, qb, qc, qd, qe, List.length_map] at h3
    refine Qf fun K hK => Qa rfl ?_
    refine hK _ _ (Qb (kp1 rfl) ?_)
    refine Qu (Qr (Qj (QW (Qr (Qj (Qs rfl ?_))))))
    rw [Qnl (i := i) (by omega) (by omega) h3]
   ·try rw [h3]
    try simp only [qa, qb, qc, qd, qe, List.length_map] at h3
    refine Qv (Qg (Qd (kp3 rfl rfl rfl) (QL fun K hK => Qa rfl (QY rfl rfl (by first | exact Qq (by omega) (by omega) | rfl) (Qa rfl (hK _ ?_))))))
    refine Qi (i + 1) ?_ ?_ ?_
    ·exact Zd (kp3 rfl rfl rfl)
    ·exact ⟨by omega, Qjt (by omega) (by omega) hI.2 h3⟩
    ·first | omega | (simp only; omega) | (dsimp only; omega)
  ·try rw [h2]
   try simp only [qa, qb, qc, qd, qe, List.length_map] at h2
   refine Za (QJ (Qx (QB (Qd (Q2) (Qf fun K hK => Qa rfl ?_)))))
   refine hK _ _ (Qb (kp1 rfl) ?_)
   refine Qu (Qs rfl ?_)
   rw [List.take_of_length_le (by omega), List.take_of_length_le (by omega)] at hI; exact (decide_eq_true hI.2).symm
end Go.Proofs
namespace Go.Proofs
open Go Go.Abs M3 M25
set_option linter.unusedVariables false
set_option linter.unusedSimpArgs false
theorem Qb3 {w : Qn} (hw : WSm w) (et : Nat) (het : et = 3) : OkH Tryz.prog 73 [ZI w] [] (.osl 500000 (Qa6 w).length) [(500000, ⟨(Qa6 w).map (fun x => [.int .i64 x]), 1, et, true⟩)] := by
 subst het
 refine OkH.new ZP Tryz.func73 Qs6 (Nat.le_of_ble_eq_true rfl) rfl ?_
 show TW _ _ tf73.body _ _
 have hn := hw.len
 refine Qf fun K hK => Zr rfl rfl rfl (Qa rfl ?_)
 refine hK _ _ (Qb (kp1 rfl) ?_)
 refine Qf fun K hK => Qa rfl ?_
 refine hK _ _ (Qb (kp2 rfl rfl) ?_)
 refine Qz ?_ -- 0
 refine Qf fun K hK => Qa rfl ?_
 refine hK _ _ (Qb (kp3 rfl rfl rfl) ?_)
 refine Qy ?_
 refine Zi (ι := Nat) (fun i => ⟨[(1, .ref 1 0 0), (3, .osl 500000 (Qb9 w i).length), (4, .int .i64 i)], [(1, ⟨[[.sl ((w).map Z8)]], 1, 26, true⟩), (500000, ⟨(Qb9 w i).map (fun x => [.int .i64 x]), 1, 3, true⟩)]⟩) (fun i => i <= w.length) (fun i => w.length - i) 0 ?_ ?_ ?_
 ·exact le_trans (Yc 3 500000 1 3 rfl rfl) (QX (l := [1, 3, 4]) (lH := [1, 500000]) (kp3 rfl rfl rfl) (Qe rfl (Qe rfl Ql)) rfl rfl rfl)
 ·exact Nat.zero_le _
 intro i hI
 have hlen := Qdo w i
 try dsimp only
 refine Qz ?_ -- 1
 refine Qf fun K hK => Qa rfl (Qh rfl rfl (QC rfl rfl rfl (QO rfl rfl (ZW rfl rfl ?_))))
 refine hK _ _ (Qb (kp4 rfl rfl rfl rfl) ?_)
 refine Qw rfl (fun h1 => ?_) (fun h1 => ?_)
 ·try rw [h1]
  try simp only [qa, qb, qc, qd, qe, List.length_map] at h1
  refine Qv (Qd (kp3 rfl rfl rfl) ?_)
  refine Qz ?_ -- 2
  refine Qy (QL fun K hK => Qa rfl (QG (cs := [_]) rfl rfl rfl rfl (Qa rfl (QH (ZA hw) rfl rfl (.inr rfl) (QE rfl rfl (Xe rfl rfl (fun _ h => YW rfl rfl rfl h) rfl (by simp) rfl rfl rfl (by simp; omega) (by simp; omega) (Qa rfl (hK _ ?_))))))))
  refine Qg (Qd (kp3 rfl rfl rfl) (QL fun K hK => Qa rfl (QY rfl rfl (by first | exact Qq (by omega) (by omega) | rfl) (Qa rfl (hK _ ?_)))))
  refine Qi (i + 1) ?_ ?_ ?_
  ·exact QX (l := [1, 3, 4]) (lH := [1, 500000]) (kp3 rfl rfl rfl) (Qe rfl (Qe rfl Ql)) (by first | (rw [X4]; done) | (rw [X4]; rfl) | (rw [X4, List.length_append]; rfl) | (simp [X4]; done) | (simp [X4]; omega) | rfl) (by first | (rw [X4]; done) | (rw [X4]; rfl) | (rw [X4, List.map_append]; rfl) | (simp [X4]; done) | rfl) rfl
  ·omega
  ·first | omega | (simp only; omega) | (dsimp only; omega)
 ·try rw [h1]
  try simp only [qa, qb, qc, qd, qe, List.length_map] at h1
  refine Za (QJ (Qx (QB (Qd (kp1 rfl) (Qf fun K hK => Qa rfl (Qa rfl ?_))))))
  refine hK _ _ (Qb (kp1 rfl) ?_)
  refine Qu ?_
  refine YA rfl ?_ (Qcu ?_)
  ·rw [Qa6, show w.length = i by omega]; rfl
  ·rw [Qa6, show w.length = i by omega]; rfl
theorem QcX {w : Qn} (hw : WSm w) {ms : List Int} (hm : ms.length <= 1000000) : Ok Tryz.prog 74 [ZI w, Zl ms] (dOT (QiZ w ms)) := by
 refine Ok.ofT ZP Tryz.func74 Qs7 (Nat.le_of_ble_eq_true rfl) ?_
 show TW _ _ tf74.body _ _
 refine Qf fun K hK => Zr rfl rfl rfl (Qa rfl (Qa rfl ?_))
 refine hK _ _ (Qb (kp2 rfl rfl) ?_)
 refine Qf fun K hK => Qa rfl ?_
 refine hK _ _ (Qb (kp3 rfl rfl rfl) ?_)
 refine Qz ?_ -- 0
 refine Qf fun K hK => Qa rfl ?_
 refine hK _ _ (Qb (kp4 rfl rfl rfl rfl) ?_)
 refine Qy ?_
 refine Zi (ι := Nat) (fun i => ⟨[(1, Zl ms), (2, .ref 2 0 0), (6, .osl 6 (XB w ms i).length), (7, .int .i64 i)], [(2, ⟨[[.sl ((w).map Z8)]], 1, 26, true⟩), (6, ⟨(XB w ms i).map Qdm, 2, 56, true⟩)]⟩) (fun i => i <= ms.length /\ (ms.take i).all (fun m => !decide (m = 0)) = true) (fun i => ms.length - i) 0 ?_ ?_ ?_
 ·exact le_trans (Yc 6 6 2 56 rfl rfl) (QX (l := [1, 2, 6, 7]) (lH := [2, 6]) (kp4 rfl rfl rfl rfl) (Qe rfl (Qe rfl Ql)) rfl rfl rfl)
 ·exact ⟨Nat.zero_le _, by simp⟩
 intro i hI
 have hlen := Qg7 w ms i
 try dsimp only
 refine Qz ?_ -- 1
 refine Qf fun K hK => Qa rfl (Qa rfl (QO rfl rfl (ZW rfl rfl ?_)))
 refine hK _ _ (Qb (kp5 rfl rfl rfl rfl rfl) ?_)
 refine Qw rfl (fun h1 => ?_) (fun h1 => ?_)
 ·try rw [h1]
  try simp only [qa, qb, qc, qd, qe, List.length_map] at h1
  refine Qv (Qd (kp4 rfl rfl rfl rfl) ?_)
  refine Qz ?_ -- 2
  refine Qy ?_
  refine Qz ?_ -- 3
  refine Qf fun K hK => Qa rfl (Qa rfl (QK rfl rfl rfl (by omega) (QS (by omega)) rfl (QC rfl rfl rfl (ZL rfl rfl ?_))))
  refine hK _ _ (Qb (kp5 rfl rfl rfl rfl rfl) ?_)
  refine Qw rfl (fun h2 => ?_) (fun h2 => ?_)
  ·try rw [h2]
   try simp only [qa, qb, qc, qd, qe, List.length_map] at h2
   refine Qf fun K hK => Qa rfl (Qa rfl ?_)
   refine hK _ _ (Qb (kp2 rfl rfl) ?_)
   refine Qu (Qj (Qr (Qj (QW (Qr (Qj ?_))))))
   rw [QlK (i := i) (by omega) h2]
   exact QT rfl rfl ⟨rfl, rfl⟩
  ·try rw [h2]
   try simp only [qa, qb, qc, qd, qe, List.length_map] at h2
   refine Qv (Qd (kp4 rfl rfl rfl rfl) (Qf fun K hK => Qa rfl (Qa rfl (QK rfl rfl rfl (by omega) (QS (by omega)) rfl (QR (ds0 := [0]) rfl rfl rfl rfl rfl (QN (ds0 := [1, 0]) (cs := [_]) rfl rfl rfl rfl rfl rfl (Qa rfl (QU (ds0 := [0]) (ZA hw) rfl rfl (.inr rfl) rfl rfl (X1 rfl rfl ?_)))))))))
   refine hK _ _ (Qb (kp5 rfl rfl rfl rfl rfl) ?_)
   refine Qw rfl (fun h3 => ?_) (fun h3 => ?_)
   ·try rw [h3]
    try simp only [qa, qb, qc, qd, qe, List.length_map] at h3
    refine QL fun K hK => Qa rfl (Qa rfl (Qa rfl (Qa rfl (QK rfl rfl rfl (by omega) (QS (by omega)) rfl (QC rfl rfl rfl (QZ rfl rfl (QE rfl rfl (Xe rfl rfl (fun _ h => YW rfl rfl rfl h) rfl (by simp) rfl rfl rfl (by simp; omega) (by simp; omega) (Qa rfl (hK _ ?_))))))))))
    refine Qg (Qd (kp4 rfl rfl rfl rfl) (QL fun K hK => Qa rfl (QY rfl rfl (by first | exact Qq (by omega) (by omega) | rfl) (Qa rfl (hK _ ?_)))))
    refine Qi (i + 1) ?_ ?_ ?_
    ·exact QX (l := [1, 2, 6, 7]) (lH := [2, 6]) (kp4 rfl rfl rfl rfl) (Qe rfl (Qe rfl Ql)) (by first | (rw [X7 (by omega) h3]; done) | (rw [X7 (by omega) h3]; rfl) | (rw [X7 (by omega) h3, List.length_append]; rfl) | (simp [X7 (by omega) h3]; done) | (simp [X7 (by omega) h3]; omega) | rfl) (by first | (rw [X7 (by omega) h3]; done) | (rw [X7 (by omega) h3]; rfl) | (rw [X7 (by omega) h3, List.map_append]; rfl) | (simp [X7 (by omega) h3]; done) | rfl) rfl
    ·exact ⟨by omega, Z0 (by omega) hI.2 (by simpa using h2)⟩
    ·first | omega | (simp only; omega) | (dsimp only; omega)
   ·try rw [h3]
    try simp only [qa, qb, qc, qd, qe, List.length_map] at h3
    refine Qv (Qg (Qd (kp4 rfl rfl rfl rfl) (QL fun K hK => Qa rfl (QY rfl rfl (by first | exact Qq (by omega) (by omega) | rfl) (Qa rfl (hK _ ?_))))))
    refine Qi (i + 1) ?_ ?_ ?_
    ·exact QX (l := [1, 2, 6, 7]) (lH := [2, 6]) (kp4 rfl rfl rfl rfl) (Qe rfl (Qe rfl Ql)) (by first | (rw [Qby (by omega) h3]; done) | (rw [Qby (by omega) h3]; rfl) | (rw [Qby (by omega) h3, List.length_append]; rfl) | (simp [Qby (by omega) h3]; done) | (simp [Qby (by omega) h3]; omega) | rfl) (by first | (rw [Qby (by omega) h3]; done) | (rw [Qby (by omega) h3]; rfl) | (rw [Qby (by omega) h3, List.map_append]; rfl) | (simp [Qby (by omega) h3]; done) | rfl) rfl
    ·exact ⟨by omega, Z0 (by omega) hI.2 (by simpa using h2)⟩
    ·first | omega | (simp only; omega) | (dsimp only; omega)
 ·try rw [h1]
  try simp only [qa, qb, qc, qd, qe, List.length_map] at h1
  refine Za (QJ (Qx (QB (Qd (kp1 rfl) (Qf fun K hK => Qa rfl (Qa rfl (Qa rfl ?_)))))))
  refine hK _ _ (Qb (kp2 rfl rfl) ?_)
  refine Qu ?_
  rw [QmO (i := i) (by omega) hI.2]
  exact Qgj rfl rfl rfl (by simp) (by show D.sl _ = ZC (XB w ms ms.length); rw [show ms.length = i by omega]; rfl) rfl rfl
theorem XU {w : Qn} (hw : WSm w) {l : List TermT} (hl : l.length <= 2000000) : Ok Tryz.prog 52 [ZI w, ZC l] (dOT (Qda w l)) := by
 refine Ok.ofT ZP Tryz.func52 QsL (Nat.le_of_ble_eq_true rfl) ?_
 show TW _ _ tf52.body _ _
 have hn := hw.len
 refine Qf fun K hK => Zr rfl rfl rfl (Qa rfl (Qa rfl ?_))
 refine hK _ _ (Qb (kp2 rfl rfl) ?_)
 refine Qf fun K hK => QG (cs := [_]) rfl rfl rfl rfl (Yl (Qku rfl (by intro x hx; simp at hx; subst hx; rfl) rfl rfl rfl (Qb3 hw _ rfl)) (Qa rfl ?_))
 refine hK _ _ (Qb (kp3 rfl rfl rfl) ?_)
 refine Qfy (ι := Unit) (fun _ => ⟨[(2, .ref 2 0 0), (6, Zl (XA (Qa6 w) l))], [(2, ⟨[[.sl ((w).map Z8)]], 1, 26, true⟩)]⟩) (fun _ => l.all (fun t => inW w t.u) = true) ?_ ?_
 ·skip
  refine Qf fun K hK => Qa rfl ?_
  refine hK _ _ (Qb (kp4 rfl rfl rfl rfl) ?_)
  refine Qy ?_
  refine Zi (ι := Nat) (fun i => ⟨[(1, ZC l), (2, .ref 2 0 0), (6, .osl 500000 (XA (Qa6 w) (l.take i)).length), (7, .int .i64 i)], [(2, ⟨[[.sl ((w).map Z8)]], 1, 26, true⟩), (500000, ⟨(XA (Qa6 w) (l.take i)).map (fun x => [.int .i64 x]), 1, 3, true⟩)]⟩) (fun i => i <= l.length /\ (l.take i).all (fun t => inW w t.u) = true) (fun i => l.length - i) 0 ?_ ?_ ?_
  ·exact QX (l := [1, 2, 6, 7]) (lH := [2, 500000]) (kp4 rfl rfl rfl rfl) (Qe rfl (Qe rfl Ql)) rfl rfl rfl
  ·exact ⟨Nat.zero_le _, by simp⟩
  intro i hI
  have hlen := QfR w (l.take i)
  try dsimp only
  refine Qz ?_ -- 1
  refine Qf fun K hK => Qa rfl (Qa rfl (QO rfl rfl (ZW rfl rfl ?_)))
  refine hK _ _ (Qb (kp5 rfl rfl rfl rfl rfl) ?_)
  refine Qw rfl (fun h1 => ?_) (fun h1 => ?_)
  ·try rw [h1]
   try simp only [qa, qb, qc, qd, qe, List.length_map] at h1
   refine Qv (Qd (kp4 rfl rfl rfl rfl) ?_)
   refine Qz ?_ -- 2
   refine Qy ?_
   refine Qz ?_ -- 3
   refine Qf fun K hK => Qa rfl (Qa rfl (QK rfl rfl rfl (by omega) (QS (by omega)) rfl (Q6 rfl rfl (QC rfl rfl rfl (ZW rfl rfl (Qa rfl ?_))))))
   refine QF (g := 22) rfl (fun h2 => ?_) (fun h2 => ?_)
   ·try rw [h2]
    try simp only [qa, qb, qc, qd, qe, List.length_map] at h2
    refine Qt rfl (Qt rfl (Qt rfl (Qt rfl (Qt rfl (Qt rfl (Qt rfl (Qt rfl (Qm rfl rfl ?_))))))))
    refine hK _ _ (Qb (kp5 rfl rfl rfl rfl rfl) ?_)
    refine Zs rfl (Qf fun K hK => Qa rfl (Qa rfl ?_))
    refine hK _ _ (Qb (kp2 rfl rfl) ?_)
    refine Qu (Qj (Qr (Qj (QW (Qr (QdU ?_))))))
    rw [Qg5 (i := i) (by omega) (Qbr (by omega))]
    exact QT rfl rfl ⟨rfl, rfl⟩
   ·try rw [h2]
    try simp only [qa, qb, qc, qd, qe, List.length_map] at h2
    refine Qk rfl (Qa rfl (Qk rfl (Qa rfl (Qk rfl (QK rfl rfl rfl (by omega) (QS (by omega)) rfl (Qk rfl (Q6 rfl rfl (Qk rfl (QC rfl rfl rfl (Qk rfl (Qa rfl ?_)))))))))))
    refine Qk rfl (QO rfl rfl (Qk rfl (Qen rfl rfl (Qm rfl rfl ?_))))
    refine hK _ _ (Qb (kp5 rfl rfl rfl rfl rfl) ?_)
    refine Qw rfl (fun h3 => ?_) (fun h3 => ?_)
    ·try rw [h3]
     try simp only [qa, qb, qc, qd, qe, List.length_map] at h3
     refine Qf fun K hK => Qa rfl (Qa rfl ?_)
     refine hK _ _ (Qb (kp2 rfl rfl) ?_)
     refine Qu (Qj (Qr (Qj (QW (Qr (QdU ?_))))))
     rw [Qg5 (i := i) (by omega) (Qbr (by omega))]
     exact QT rfl rfl ⟨rfl, rfl⟩
    ·try rw [h3]
     try simp only [qa, qb, qc, qd, qe, List.length_map] at h3
     refine Qv (Qd (kp4 rfl rfl rfl rfl) (QL fun K hK => Qa rfl (Qa rfl (Qa rfl (QK rfl rfl rfl (by omega) (QS (by omega)) rfl (Q6 rfl rfl (QR (ds0 := [1, 0]) rfl rfl rfl rfl rfl (Qa rfl (Qa rfl (Qa rfl ?_))))))))))
     refine QK rfl rfl rfl (by omega) (QS (by omega)) rfl (Q6 rfl rfl (QR (ds0 := [9, 8, 2, 0]) rfl rfl rfl rfl rfl (XL (ds0 := [8, 2, 0]) rfl rfl rfl (by simp) (by omega) (by omega) rfl rfl rfl (QR (ds0 := [2, 0]) rfl (Ya rfl (Zu (by omega) (by omega))) rfl rfl rfl (Qa rfl (Qa rfl (QK rfl rfl rfl (by omega) (QS (by omega)) rfl (Q6 rfl rfl (QR (ds0 := [2, 0]) rfl rfl rfl rfl rfl (Qdy rfl rfl (XL (ds0 := [0]) rfl rfl rfl (by simp) (by omega) (by omega) rfl rfl rfl ?_)))))))))))
     refine Y4 (ds0 := []) rfl rfl (Zu (by omega) (by omega)) rfl rfl rfl rfl rfl rfl rfl (hK _ ?_)
     refine Qg (Qd (kp4 rfl rfl rfl rfl) (QL fun K hK => Qa rfl (QY rfl rfl (by first | exact Qq (by omega) (by omega) | rfl) (Qa rfl (hK _ ?_)))))
     refine Qi (i + 1) ?_ ?_ ?_
     ·exact QX (l := [1, 2, 6, 7]) (lH := [2, 500000]) (kp4 rfl rfl rfl rfl) (Qe rfl (Qe rfl Ql)) (by rw [QkX (by omega) (by omega), List.length_set]; rfl) (by rw [QkX (by omega) (by omega), List.map_set]; rfl) rfl
     ·exact ⟨by omega, Z0 (by omega) hI.2 (Qc7 (by omega) (by omega))⟩
     ·first | omega | (simp only; omega) | (dsimp only; omega)
  ·try rw [h1]
   try simp only [qa, qb, qc, qd, qe, List.length_map] at h1
   refine Za (QJ (Qx (QB ?_)))
   refine Z2 () ?_ ?_
   ·exact le_trans (QfZ (l := [2]) (lH := [2]) 500000 6 (kp1 rfl) (Qe rfl Ql) rfl rfl rfl (by first | (simp; done) | (simp; omega)) rfl rfl rfl rfl) (QX (l := [2, 6]) (lH := [2]) (kp2 rfl rfl) (Qe rfl Ql) (by rw [List.take_of_length_le (show l.length <= i by omega)]; rfl) rfl rfl)
   ·exact Xl (by omega) hI.2
 intro _ hJ
 try dsimp only
 refine Qf fun K hK => QG (cs := [_]) rfl rfl rfl rfl (Qa rfl (QH (QcX hw (by rw [QfR]; omega)) rfl rfl (.inl rfl) (QV rfl rfl (QV rfl rfl (Qa rfl (Qa rfl ?_))))))
 refine hK _ _ (Qb (kp2 rfl rfl) ?_)
 refine Qu ?_
 rw [QmP hJ]
 exact QT rfl rfl ⟨rfl, rfl⟩
theorem Xa {l : List TermT} (hl : l.length <= 2000000) {u : Int} : Ok Tryz.prog 90 [ZC l, .int .i64 u] (ZC (Qg1 l u)) := by
 refine Ok.ofT ZP Tryz.func90 Qtn (Nat.le_of_ble_eq_true rfl) ?_
 show TW _ _ tf90.body _ _
 refine Qf fun K hK => Qa rfl ?_
 refine hK _ _ (Qb (kp2 rfl rfl) ?_)
 refine Qf fun K hK => Qa rfl ?_
 refine hK _ _ (Qb (kp3 rfl rfl rfl) ?_)
 refine Qz ?_ -- 0
 refine Qf fun K hK => Qa rfl ?_
 refine hK _ _ (Qb (kp4 rfl rfl rfl rfl) ?_)
 refine Qy ?_
 refine Zi (ι := Nat) (fun i => ⟨[(0, ZC l), (1, .int .i64 u), (5, .osl 5 (Qg1 (l.take i) u).length), (6, .int .i64 i)], [(5, ⟨(Qg1 (l.take i) u).map Qdm, 2, 56, true⟩)]⟩) (fun i => i <= l.length) (fun i => l.length - i) 0 ?_ ?_ ?_
 ·exact le_trans (Yc 5 5 2 56 rfl rfl) (QX (l := [0, 1, 5, 6]) (lH := [5]) (kp4 rfl rfl rfl rfl) (Qe rfl Ql) rfl rfl rfl)
 ·exact Nat.zero_le _
 intro i hI
 have hlen := Qn0 l u i
 try dsimp only
 refine Qz ?_ -- 1
 refine Qf fun K hK => Qa rfl (Qa rfl (QO rfl rfl (ZW rfl rfl ?_)))
 refine hK _ _ (Qb (kp5 rfl rfl rfl rfl rfl) ?_)
 refine Qw rfl (fun h1 => ?_) (fun h1 => ?_)
 ·try rw [h1]
  try simp only [qa, qb, qc, qd, qe, List.length_map] at h1
  refine Qv (Qd (kp4 rfl rfl rfl rfl) ?_)
  refine Qz ?_ -- 2
  refine Qy (Qf fun K hK => Qa rfl (Qa rfl (QK rfl rfl rfl (by omega) (QS (by omega)) rfl (Q6 rfl rfl (QC rfl rfl rfl (Qa rfl (X1 rfl rfl ?_)))))))
  refine hK _ _ (Qb (kp5 rfl rfl rfl rfl rfl) ?_)
  refine Qw rfl (fun h2 => ?_) (fun h2 => ?_)
  ·try rw [h2]
   try simp only [qa, qb, qc, qd, qe, List.length_map] at h2
   refine QL fun K hK => Qa rfl (Qa rfl (Qa rfl (QK rfl rfl rfl (by omega) (QS (by omega)) rfl (QG (cs := [_, _]) rfl rfl rfl rfl (QE rfl rfl (Xe rfl rfl (fun _ h => YW rfl rfl rfl h) rfl (by simp) rfl rfl rfl (by simp; omega) (by simp; omega) (Qa rfl (hK _ ?_))))))))
   refine Qg (Qd (kp4 rfl rfl rfl rfl) (QL fun K hK => Qa rfl (QY rfl rfl (by first | exact Qq (by omega) (by omega) | rfl) (Qa rfl (hK _ ?_)))))
   refine Qi (i + 1) ?_ ?_ ?_
   ·exact QX (l := [0, 1, 5, 6]) (lH := [5]) (kp4 rfl rfl rfl rfl) (Qe rfl Ql) (by first | (rw [Qbf (by omega) h2]; done) | (rw [Qbf (by omega) h2]; rfl) | (rw [Qbf (by omega) h2, List.length_append]; rfl) | (simp [Qbf (by omega) h2]; done) | (simp [Qbf (by omega) h2]; omega) | rfl) (by first | (rw [Qbf (by omega) h2]; done) | (rw [Qbf (by omega) h2]; rfl) | (rw [Qbf (by omega) h2, List.map_append]; rfl) | (simp [Qbf (by omega) h2]; done) | rfl) rfl
   ·omega
   ·first | omega | (simp only; omega) | (dsimp only; omega)
  ·try rw [h2]
   try simp only [qa, qb, qc, qd, qe, List.length_map] at h2
   refine Qv (Qg (Qd (kp4 rfl rfl rfl rfl) (QL fun K hK => Qa rfl (QY rfl rfl (by first | exact Qq (by omega) (by omega) | rfl) (Qa rfl (hK _ ?_))))))
   refine Qi (i + 1) ?_ ?_ ?_
   ·exact QX (l := [0, 1, 5, 6]) (lH := [5]) (kp4 rfl rfl rfl rfl) (Qe rfl Ql) (by first | (rw [QdD (by omega) h2]; done) | (rw [QdD (by omega) h2]; rfl) | (rw [QdD (by omega) h2, List.length_append]; rfl) | (simp [QdD (by omega) h2]; done) | (simp [QdD (by omega) h2]; omega) | rfl) (by first | (rw [QdD (by omega) h2]; done) | (rw [QdD (by omega) h2]; rfl) | (rw [QdD (by omega) h2, List.map_append]; rfl) | (simp [QdD (by omega) h2]; done) | rfl) rfl
   ·omega
   ·first | omega | (simp only; omega) | (dsimp only; omega)
 ·try rw [h1]
  try simp only [qa, qb, qc, qd, qe, List.length_map] at h1
  refine Za (QJ (Qx (QB (Qd (kp1 rfl) (Qf fun K hK => Qa rfl (Qa rfl ?_))))))
  refine hK _ _ (Qb (kp1 rfl) ?_)
  refine Qu ?_
  exact Qaa rfl rfl rfl (by simp) (by rw [List.take_of_length_le (show l.length <= i by omega)]; rfl)
theorem QbR {l : List TermT} (hl : l.length <= 3000000) : Ok Tryz.prog 91 [ZC l] (ZC (Qh0 l)) := by
 refine Ok.ofT ZP Tryz.func91 Qto (Nat.le_of_ble_eq_true rfl) ?_
 show TW _ _ tf91.body _ _
 refine Qf fun K hK => Qa rfl ?_
 refine hK _ _ (Qb (kp1 rfl) ?_)
 refine Qf fun K hK => Qa rfl ?_
 refine hK _ _ (Qb (kp2 rfl rfl) ?_)
 refine Qz ?_ -- 0
 refine Qf fun K hK => Qa rfl ?_
 refine hK _ _ (Qb (kp3 rfl rfl rfl) ?_)
 refine Qy ?_
 refine Zi (ι := Nat) (fun u => ⟨[(0, ZC l), (3, .osl 3 (Yo l u).length), (4, .int .i64 u)], [(3, ⟨(Yo l u).map Qdm, 2, 56, true⟩)]⟩) (fun u => u <= 48) (fun u => 48 - u) 0 ?_ ?_ ?_
 ·exact le_trans (Yc 3 3 2 56 rfl rfl) (QX (l := [0, 3, 4]) (lH := [3]) (kp3 rfl rfl rfl) (Qe rfl Ql) rfl rfl rfl)
 ·exact Nat.zero_le _
 intro u hU
 have hlen2 : u * l.length <= 48 * 3000000 := Nat.mul_le_mul (by omega) hl
 try dsimp only
 refine Qz ?_ -- 1
 refine Qf fun K hK => Qa rfl (ZW rfl rfl ?_)
 refine hK _ _ (Qb (kp4 rfl rfl rfl rfl) ?_)
 refine Qw rfl (fun h1 => ?_) (fun h1 => ?_)
 ·try rw [h1]
  try simp only [qa, qb, qc, qd, qe, List.length_map] at h1
  refine Qv (Qd (kp3 rfl rfl rfl) ?_)
  refine Qz ?_ -- 2
  refine Qy (Qf fun K hK => Qa rfl ?_)
  refine hK _ _ (Qb (kp4 rfl rfl rfl rfl) ?_)
  refine Qy ?_
  refine Zi (ι := Nat) (fun i => ⟨[(0, ZC l), (3, .osl 3 (srt l u i).length), (4, .int .i64 u), (5, .int .i64 i)], [(3, ⟨(srt l u i).map Qdm, 2, 56, true⟩)]⟩) (fun i => i <= l.length) (fun i => l.length - i) 0 ?_ ?_ ?_
  ·exact QX (l := [0, 3, 4, 5]) (lH := [3]) (kp4 rfl rfl rfl rfl) (Qe rfl Ql) (by first | (rw [Qab]; done) | (rw [Qab]; rfl) | (rw [Qab, List.length_append]; rfl) | (simp [Qab]; done) | (simp [Qab]; omega) | rfl) (by first | (rw [Qab]; done) | (rw [Qab]; rfl) | (rw [Qab, List.map_append]; rfl) | (simp [Qab]; done) | rfl) rfl
  ·exact Nat.zero_le _
  intro i hI
  have hlen3 := Qqa l u i
  try dsimp only
  refine Qz ?_ -- 3
  refine Qf fun K hK => Qa rfl (Qa rfl (QO rfl rfl (ZW rfl rfl ?_)))
  refine hK _ _ (Qb (kp5 rfl rfl rfl rfl rfl) ?_)
  refine Qw rfl (fun h2 => ?_) (fun h2 => ?_)
  ·try rw [h2]
   try simp only [qa, qb, qc, qd, qe, List.length_map] at h2
   refine Qv (Qd (kp4 rfl rfl rfl rfl) ?_)
   refine Qz ?_ -- 4
   refine Qy (Qf fun K hK => Qa rfl (Qa rfl (QK rfl rfl rfl (by omega) (QS (by omega)) rfl (Q6 rfl rfl (QC rfl rfl rfl (Qa rfl (ZL rfl rfl ?_)))))))
   refine hK _ _ (Qb (kp5 rfl rfl rfl rfl rfl) ?_)
   refine Qw rfl (fun h3 => ?_) (fun h3 => ?_)
   ·try rw [h3]
    try simp only [qa, qb, qc, qd, qe, List.length_map] at h3
    refine QL fun K hK => Qa rfl (Qa rfl (Qa rfl (QK rfl rfl rfl (by omega) (QS (by omega)) rfl (QG (cs := [_, _]) rfl rfl rfl rfl (QE rfl rfl (Xe rfl rfl (fun _ h => YW rfl rfl rfl h) rfl (by simp) rfl rfl rfl (by simp; omega) (by simp; omega) (Qa rfl (hK _ ?_))))))))
    refine Qg (Qd (kp4 rfl rfl rfl rfl) (QL fun K hK => Qa rfl (QY rfl rfl (by first | exact Qq (by omega) (by omega) | rfl) (Qa rfl (hK _ ?_)))))
    refine Qi (i + 1) ?_ ?_ ?_
    ·exact QX (l := [0, 3, 4, 5]) (lH := [3]) (kp4 rfl rfl rfl rfl) (Qe rfl Ql) (by first | (rw [QbG (by omega) h3]; done) | (rw [QbG (by omega) h3]; rfl) | (rw [QbG (by omega) h3, List.length_append]; rfl) | (simp [QbG (by omega) h3]; done) | (simp [QbG (by omega) h3]; omega) | rfl) (by first | (rw [QbG (by omega) h3]; done) | (rw [QbG (by omega) h3]; rfl) | (rw [QbG (by omega) h3, List.map_append]; rfl) | (simp [QbG (by omega) h3]; done) | rfl) rfl
    ·omega
    ·first | omega | (simp only; omega) | (dsimp only; omega)
   ·try rw [h3]
    try simp only [qa, qb, qc, qd, qe, List.length_map] at h3
    refine Qv (Qg (Qd (kp4 rfl rfl rfl rfl) (QL fun K hK => Qa rfl (QY rfl rfl (by first | exact Qq (by omega) (by omega) | rfl) (Qa rfl (hK _ ?_))))))
    refine Qi (i + 1) ?_ ?_ ?_
    ·exact QX (l := [0, 3, 4, 5]) (lH := [3]) (kp4 rfl rfl rfl rfl) (Qe rfl Ql) (by first | (rw [Qej (by omega) h3]; done) | (rw [Qej (by omega) h3]; rfl) | (rw [Qej (by omega) h3, List.length_append]; rfl) | (simp [Qej (by omega) h3]; done) | (simp [Qej (by omega) h3]; omega) | rfl) (by first | (rw [Qej (by omega) h3]; done) | (rw [Qej (by omega) h3]; rfl) | (rw [Qej (by omega) h3, List.map_append]; rfl) | (simp [Qej (by omega) h3]; done) | rfl) rfl
    ·omega
    ·first | omega | (simp only; omega) | (dsimp only; omega)
  ·try rw [h2]
   try simp only [qa, qb, qc, qd, qe, List.length_map] at h2
   refine Za (QJ (Qx (QB (Qg (Qd (kp3 rfl rfl rfl) (QL fun K hK => Qa rfl (QY rfl rfl (by first | exact Qq (by omega) (by omega) | rfl) (Qa rfl (hK _ ?_)))))))))
   refine Qi (u + 1) ?_ ?_ ?_
   ·exact QX (l := [0, 3, 4]) (lH := [3]) (kp3 rfl rfl rfl) (Qe rfl Ql) (by first | (rw [QbF l u (show l.length = i by omega)]; done) | (rw [QbF l u (show l.length = i by omega)]; rfl) | (rw [QbF l u (show l.length = i by omega), List.length_append]; rfl) | (simp [QbF l u (show l.length = i by omega)]; done) | (simp [QbF l u (show l.length = i by omega)]; omega) | rfl) (by first | (rw [QbF l u (show l.length = i by omega)]; done) | (rw [QbF l u (show l.length = i by omega)]; rfl) | (rw [QbF l u (show l.length = i by omega), List.map_append]; rfl) | (simp [QbF l u (show l.length = i by omega)]; done) | rfl) rfl
   ·omega
   ·first | omega | (simp only; omega) | (dsimp only; omega)
 ·try rw [h1]
  try simp only [qa, qb, qc, qd, qe, List.length_map] at h1
  refine Za (QJ (Qx (QB (Qd (kp1 rfl) (Qf fun K hK => Qa rfl (Qa rfl ?_))))))
  refine hK _ _ (Qb (kp1 rfl) ?_)
  refine Qu ?_
  exact Qaa rfl rfl rfl (by simp) (by rw [Qh0, show (48 : Nat) = u by omega]; rfl)
theorem Xw {w : Qn} (hw : WSm w) {u : Int} {p : Nat} (hp : p <= 60) {l : List WantT} (hl : l.length <= 1000000) (hx : ∀ x ∈ l, Sm x.s.1 /\ Sm x.s.2) {bar : Bool} : Ok Tryz.prog 71 [ZI w, .int .i64 u, .int .i64 (p : Nat), Q9 l, .bool bar] (dOT (Ym w u p l bar)) := by
 refine Ok.ofT ZP Tryz.func71 Qs4 (Nat.le_of_ble_eq_true rfl) ?_
 show TW _ _ tf71.body _ _
 refine Qf fun K hK => Zr rfl rfl rfl (Qa rfl (Qa rfl ?_))
 refine hK _ _ (Qb (kp5 rfl rfl rfl rfl rfl) ?_)
 refine Qf fun K hK => Qa rfl (QG (cs := [_]) rfl rfl rfl rfl (Qa rfl (QH (ZA hw) rfl rfl (.inr rfl) (Qa rfl (Qin rfl (Qfw (by omega) (by omega)) (Qpx rfl rfl (by omega) (QnL hp) (Qdy rfl rfl (QZ rfl rfl (QE rfl rfl (Qa rfl ?_))))))))))
 refine hK _ _ (Qb (kp4 rfl rfl rfl rfl) ?_)
 refine Qfy (ι := Unit) (fun _ => ⟨[(5, .ref 5 0 0), (12, ZC (clT w u p bar l))], [(5, ⟨[[.sl ((w).map Z8)]], 1, 26, true⟩)]⟩) (fun _ => True) ?_ ?_
 ·skip
  refine Qf fun K hK => Qa rfl ?_
  refine hK _ _ (Qb (kp5 rfl rfl rfl rfl rfl) ?_)
  refine Qy ?_
  refine Zi (ι := Nat) (fun i => ⟨[(3, Q9 l), (4, .bool bar), (5, .ref 5 0 0), (12, .osl 24 (clT w u p bar (l.take i)).length), (13, .int .i64 i)], [(5, ⟨[[.sl ((w).map Z8)]], 1, 26, true⟩), (24, ⟨(clT w u p bar (l.take i)).map Qdm, 2, 56, true⟩)]⟩) (fun i => i <= l.length) (fun i => l.length - i) 0 ?_ ?_ ?_
  ·exact QX (l := [3, 4, 5, 12, 13]) (lH := [5, 24]) (kp5 rfl rfl rfl rfl rfl) (Qe rfl (Qe rfl Ql)) rfl rfl rfl
  ·exact Nat.zero_le _
  intro i hI
  have hlen := Qmd w u p bar (l.take i)
  have hlen2 : (l.take i).length <= l.length := List.length_take_le' ..
  try dsimp only
  refine Qz ?_ -- 1
  refine Qf fun K hK => Qa rfl (Qa rfl (QO rfl rfl (ZW rfl rfl ?_)))
  refine hK _ _ (Qb (kp6 rfl rfl rfl rfl rfl rfl) ?_)
  refine Qw rfl (fun h1 => ?_) (fun h1 => ?_)
  ·try rw [h1]
   try simp only [qa, qb, qc, qd, qe, List.length_map] at h1
   refine Qv (Qd (kp5 rfl rfl rfl rfl rfl) ?_)
   refine Qz ?_ -- 2
   refine Qy (Qf fun K hK => QN (ds0 := [1, 0]) (cs := [_]) rfl rfl rfl rfl rfl rfl (Qa rfl (Qa rfl (QK rfl rfl rfl (by omega) (QS (by omega)) rfl (QN (ds0 := [1, 0]) (cs := [_, _, _]) rfl rfl rfl rfl rfl rfl (QU (ds0 := [0]) (Qde hw (hx _ (List.getElem_mem (by omega)))) rfl rfl (.inr rfl) rfl rfl (Qa rfl ?_)))))))
   refine hK _ _ (Qb (kp6 rfl rfl rfl rfl rfl rfl) ?_)
   refine Qz ?_ -- 3
   refine Qf fun K hK => Qa rfl (Z9 rfl ?_)
   refine hK _ _ (Qb (kp7 rfl rfl rfl rfl rfl rfl rfl) ?_)
   refine Qw rfl (fun h2 => ?_) (fun h2 => ?_)
   ·try rw [h2]
    try simp only [qa, qb, qc, qd, qe, List.length_map] at h2
    refine QL fun K hK => QN (ds0 := [3, 1, 0]) (cs := [_]) rfl rfl rfl rfl rfl rfl (Qa rfl (Qa rfl (QK rfl rfl rfl (by omega) (QS (by omega)) rfl (Q6 rfl rfl (QR (ds0 := [3, 1, 0]) rfl rfl rfl rfl rfl (QU (ds0 := [1, 0]) (ZA hw) rfl rfl (.inr rfl) rfl rfl (Qa rfl (Qas rfl rfl (Qqg w _ _) (Qa rfl (hK _ ?_))))))))))
    refine Qd (kp6 rfl rfl rfl rfl rfl rfl) (QL fun K hK => Qa rfl (Qa rfl (Qa rfl (QK rfl rfl rfl (by omega) (QS (by omega)) rfl (Q6 rfl rfl (QC rfl rfl rfl (Qa rfl (QZ rfl rfl (QE rfl rfl (Xe rfl rfl (fun _ h => YW rfl rfl rfl h) rfl (by simp) rfl rfl rfl (by simp; omega) (by simp; omega) ?_))))))))))
    refine Qa rfl (hK _ ?_)
    refine Qg (Qd (kp5 rfl rfl rfl rfl rfl) (QL fun K hK => Qa rfl (QY rfl rfl (by first | exact Qq (by omega) (by omega) | rfl) (Qa rfl (hK _ ?_)))))
    refine Qi (i + 1) ?_ ?_ ?_
    ·exact QX (l := [3, 4, 5, 12, 13]) (lH := [5, 24]) (kp5 rfl rfl rfl rfl rfl) (Qe rfl (Qe rfl Ql)) (by first | (rw [Qbj (by omega) h2]; done) | (rw [Qbj (by omega) h2]; rfl) | (rw [Qbj (by omega) h2, List.length_append]; rfl) | (simp [Qbj (by omega) h2]; done) | (simp [Qbj (by omega) h2]; omega) | rfl) (by first | (rw [Qbj (by omega) h2]; done) | (rw [Qbj (by omega) h2]; rfl) | (rw [Qbj (by omega) h2, List.map_append]; rfl) | (simp [Qbj (by omega) h2]; done) | rfl) rfl
    ·omega
    ·first | omega | (simp only; omega) | (dsimp only; omega)
   ·try rw [h2]
    try simp only [qa, qb, qc, qd, qe, List.length_map] at h2
    refine Qv (Qd (kp6 rfl rfl rfl rfl rfl rfl) (QL fun K hK => Qa rfl (Qa rfl (Qa rfl (QK rfl rfl rfl (by omega) (QS (by omega)) rfl (Q6 rfl rfl (QC rfl rfl rfl (Qa rfl (QZ rfl rfl (QE rfl rfl ?_))))))))))
    refine Xe rfl rfl (fun _ h => YW rfl rfl rfl h) rfl (by simp) rfl rfl rfl (by simp; omega) (by simp; omega) (Qa rfl (hK _ ?_))
    refine Qg (Qd (kp5 rfl rfl rfl rfl rfl) (QL fun K hK => Qa rfl (QY rfl rfl (by first | exact Qq (by omega) (by omega) | rfl) (Qa rfl (hK _ ?_)))))
    refine Qi (i + 1) ?_ ?_ ?_
    ·exact QX (l := [3, 4, 5, 12, 13]) (lH := [5, 24]) (kp5 rfl rfl rfl rfl rfl) (Qe rfl (Qe rfl Ql)) (by first | (rw [Qbi (by omega) h2]; done) | (rw [Qbi (by omega) h2]; rfl) | (rw [Qbi (by omega) h2, List.length_append]; rfl) | (simp [Qbi (by omega) h2]; done) | (simp [Qbi (by omega) h2]; omega) | rfl) (by first | (rw [Qbi (by omega) h2]; done) | (rw [Qbi (by omega) h2]; rfl) | (rw [Qbi (by omega) h2, List.map_append]; rfl) | (simp [Qbi (by omega) h2]; done) | rfl) rfl
    ·omega
    ·first | omega | (simp only; omega) | (dsimp only; omega)
  ·try rw [h1]
   try simp only [qa, qb, qc, qd, qe, List.length_map] at h1
   refine Za (QJ (Qx (QB ?_)))
   refine Z2 () ?_ ?_
   ·exact le_trans (QfZ (l := [5]) (lH := [5]) 24 12 (kp1 rfl) (Qe rfl Ql) rfl rfl rfl (by first | (simp; done) | (simp; omega)) rfl rfl rfl rfl) (QX (l := [5, 12]) (lH := [5]) (kp2 rfl rfl) (Qe rfl Ql) (by rw [List.take_of_length_le (show l.length <= i by omega)]; rfl) rfl rfl)
   ·exact trivial
 intro _ hJ
 try dsimp only
 refine Qf fun K hK => QG (cs := [_]) rfl rfl rfl rfl (Qa rfl (QH (XU hw (by rw [Qmd]; omega)) rfl rfl (.inl rfl) (QV rfl rfl (QV rfl rfl (Qa rfl (Qa rfl ?_))))))
 refine hK _ _ (Qb (kp2 rfl rfl) ?_)
 refine Qu ?_
 exact QT rfl rfl ⟨rfl, rfl⟩
end Go.Proofs
namespace M25
open Go Go.Abs M3
def IncOk (w : Qn) (l : List TermT) : Prop := l.Pairwise (fun a b => a.u < b.u) /\ ∀ t ∈ l, 0 <= t.u /\ t.u < w.length
theorem Qhg : ∀ (l : List TermT) (a b : Int), l.Pairwise (fun x y => x.u < y.u) -> (∀ t ∈ l, a <= t.u /\ t.u < b) -> a <= b -> (l.length : Int) <= b - a
 | [], a, b, _, _, h => by simp; omega
 | t :: l, a, b, hp, hb, h => by
  rw [List.pairwise_cons] at hp
  have h1 := hb t (by simp)
  have := Qhg l (t.u + 1) b hp.2 (fun s hs => ⟨by have := hp.1 s hs; omega, (hb s (by simp [hs])).2⟩) (by omega)
  simp only [List.length_cons]; omega
theorem IncOk.len {w : Qn} {l : List TermT} (h : IncOk w l) : l.length <= w.length := by
 have := Qhg l 0 w.length h.1 h.2 (by omega)
 omega
theorem IncOk.nil (w : Qn) : IncOk w [] := ⟨List.Pairwise.nil, by simp⟩
theorem Qi4 (w : Qn) (ms : List Int) : ∀ n, (XB w ms n).Pairwise (fun a b => a.u < b.u) /\ ∀ t ∈ XB w ms n, 0 <= t.u /\ t.u < n
 | 0 => ⟨List.Pairwise.nil, by simp [XB]⟩
 | n + 1 => by
  obtain ⟨h1, h2⟩ := Qi4 w ms n
  rw [XB]
  split
  ·rw [List.append_nil]; exact ⟨h1, fun t ht => by have := h2 t ht; omega⟩
  ·refine ⟨List.pairwise_append.2 ⟨h1, List.pairwise_singleton _ _, fun a ha b hb => ?_⟩, fun t ht => ?_⟩
   ·simp only [List.mem_singleton] at hb; subst hb; exact (h2 a ha).2
   ·rcases List.mem_append.1 ht with ht | ht
    ·have := h2 t ht; omega
    ·simp only [List.mem_singleton] at ht; subst ht; simp only; omega
theorem Qd2 {w : Qn} {l t : List TermT} (h : Qda w l = some t) : IncOk w t := by
 unfold Qda at h
 split at h
 ·unfold QiZ at h
  split at h
  ·cases h
   obtain ⟨h1, h2⟩ := Qi4 w (XA (Qa6 w) l) (XA (Qa6 w) l).length
   refine ⟨h1, fun t ht => ?_⟩
   have := h2 t ht
   rw [QfR] at this
   exact this
  ·cases h
 ·cases h
theorem IncOk.ne {w : Qn} {l : List TermT} (h : IncOk w l) : l.Pairwise (fun a b => a.u ≠ b.u) := h.1.imp fun h => by omega
theorem Qgs {l : List TermT} (hl : l.Pairwise (fun a b => a.u ≠ b.u)) : ∀ n, (Yo l n).Pairwise (fun a b => a.u < b.u) /\ ∀ t ∈ Yo l n, t ∈ l /\ 0 <= t.u /\ t.u < n
 | 0 => ⟨List.Pairwise.nil, by simp [Yo]⟩
 | n + 1 => by
  obtain ⟨h1, h2⟩ := Qgs hl n
  rw [Yo]
  have hf : ∀ t ∈ l.filter (fun t => decide (t.u = ((n : Nat) : Int))), t ∈ l /\ t.u = n := fun t ht => by
   simpa using List.mem_filter.1 ht
  refine ⟨List.pairwise_append.2 ⟨h1, ?_, fun a ha b hb => ?_⟩, fun t ht => ?_⟩
  ·refine List.Pairwise.imp_of_mem (fun {a b} ha hb hab => ?_) (hl.filter _)
   have := (hf a ha).2
   have := (hf b hb).2
   omega
  ·rw [(hf b hb).2]; exact (h2 a ha).2.2
  ·rcases List.mem_append.1 ht with ht | ht
   ·have := h2 t ht; exact ⟨this.1, by omega, by omega⟩
   ·have := hf t ht; exact ⟨this.1, by omega, by omega⟩
theorem QlM {w : Qn} {l : List TermT} (hl : l.Pairwise (fun a b => a.u ≠ b.u)) (hb : ∀ t ∈ l, 0 <= t.u /\ t.u < w.length) : IncOk w (Qh0 l) := by
 obtain ⟨h1, h2⟩ := Qgs hl 48
 exact ⟨h1, fun t ht => hb t (h2 t ht).1⟩
theorem Qoh {w : Qn} {r x : RowT} (hx : IncOk w x.t) (h0 : 0 <= r.u) (h1 : r.u < w.length) : IncOk w (Qog w r x).t := by
 refine QlM (List.pairwise_cons.2 ⟨fun t ht => ?_, hx.ne.filter _⟩) fun t ht => ?_
 ·have := (List.mem_filter.1 ht).2
  simp only [Bool.not_eq_true', decide_eq_false_iff_not] at this
  exact fun e => this e.symm
 ·rcases List.mem_cons.1 ht with rfl | ht
  ·exact ⟨h0, h1⟩
  ·exact hx.2 t (List.mem_filter.1 ht).1
def QaW (w : Qn) (rows : List RowT) : Prop := ∀ x ∈ rows, IncOk w x.t
theorem Qj7 {w : Qn} {r : RowT} (hr : IncOk w r.t) (h0 : 0 <= r.u) (h1 : r.u < w.length) : ∀ {rows : List RowT}, QaW w rows -> QaW w (Xj w r rows)
 | [], _ => fun x hx => by
  simp only [Xj, List.mem_singleton] at hx; subst hx; exact hr
 | y :: rows, h => fun x hx => by
  rw [Xj] at hx
  split at hx
  ·rcases List.mem_cons.1 hx with rfl | hx
   ·exact Qoh (h y (by simp)) h0 h1
   ·exact h x (by simp [hx])
  ·rcases List.mem_cons.1 hx with rfl | hx
   ·exact h x (by simp)
   ·exact Qj7 hr h0 h1 (fun z hz => h z (by simp [hz])) x hx
theorem Qh4 (w : Qn) (r : RowT) : ∀ rows : List RowT, (Xj w r rows).length <= rows.length + 1
 | [] => by simp [Xj]
 | x :: rows => by
  have := Qh4 w r rows
  rw [Xj]; split <;> simp <;> omega
theorem QjY {r x : RowT} (h : ¬ x.k = r.k \/ ¬ x.u = r.u \/ ¬ Qg1 x.t r.u = Qg1 r.t r.u) : QjX r x = false := by
 simp only [QjX, Bool.and_eq_false_iff, decide_eq_false_iff_not]
 rcases h with h | h | h
 ·exact .inl (.inl h)
 ·exact .inl (.inr h)
 ·exact .inr h
theorem QmI {r x : RowT} (h1 : x.k = r.k) (h2 : x.u = r.u) (h3 : Qg1 x.t r.u = Qg1 r.t r.u) : QjX r x = true := by simp [QjX, h1, h2, h3]
theorem Qgk {w : Qn} {r : RowT} {rows : List RowT} {i : Nat} (h : i < rows.length) (hn : QjX r rows[i] = false) (hi : Xj w r rows = rows.take i ++ Xj w r (rows.drop i)) : Xj w r rows = rows.take (i + 1) ++ Xj w r (rows.drop (i + 1)) := by
 rw [hi, List.drop_eq_getElem_cons h, Xj, if_neg (by rw [hn]; simp), List.take_succ_eq_append_getElem h, List.append_assoc]; rfl
theorem Qk5 {w : Qn} {r : RowT} {rows : List RowT} {i : Nat} (h : i < rows.length) (hn : QjX r rows[i] = true) (hi : Xj w r rows = rows.take i ++ Xj w r (rows.drop i)) : Xj w r rows = rows.set i (Qog w r rows[i]) := by
 rw [hi, List.drop_eq_getElem_cons h, Xj, if_pos hn, List.set_eq_take_append_cons_drop, if_pos h]
theorem Qk6 {w : Qn} {r : RowT} {rows : List RowT} {i : Nat} (h : rows.length <= i) (hi : Xj w r rows = rows.take i ++ Xj w r (rows.drop i)) : Xj w r rows = rows ++ [r] := by
 rw [hi, List.drop_eq_nil_of_le h, List.take_of_length_le h, Xj]
theorem Qk2 {w : Qn} {u : Int} {p : Nat} {l : List (List WantT)} {rows : List RowT} {i : Nat} (h : i < l.length) : YP w u p (l.take (i + 1)) rows = match Ym w u p l[i] false with
  | some t => Xj w ⟨2, u, 0, 0, t⟩ (YP w u p (l.take i) rows)
  | none => YP w u p (l.take i) rows := by
 rw [List.take_succ_eq_append_getElem h, YP, List.foldl_append]; rfl
theorem Qi6 {w : Qn} {u : Int} {p : Nat} {l : List (List WantT)} {rows : List RowT} {i : Nat} (h : i < l.length) (ho : (Ym w u p l[i] false).isSome = true) : YP w u p (l.take (i + 1)) rows = Xj w ⟨2, u, 0, 0, (Ym w u p l[i] false).getD []⟩ (YP w u p (l.take i) rows) := by
 rw [Qk2 h]
 cases hc : Ym w u p l[i] false with
 | none => rw [hc] at ho; cases ho
 | some t => rfl
theorem Qk1 {w : Qn} {u : Int} {p : Nat} {l : List (List WantT)} {rows : List RowT} {i : Nat} (h : i < l.length) (ho : (Ym w u p l[i] false).isSome = false) : YP w u p (l.take (i + 1)) rows = YP w u p (l.take i) rows := by
 rw [Qk2 h]
 cases hc : Ym w u p l[i] false with
 | none => rfl
 | some t => rw [hc] at ho; cases ho
theorem Ql9 {w : Qn} {u : Int} {p : Nat} {l : List WantT} {rows : List RowT} {i : Nat} (h : i < l.length) : QbQ w u p (l.take (i + 1)) rows = match Ym w u p [l[i]] true with
  | some t => Xj w ⟨3, u, 0, 0, t⟩ (QbQ w u p (l.take i) rows)
  | none => QbQ w u p (l.take i) rows := by
 rw [List.take_succ_eq_append_getElem h, QbQ, List.foldl_append]; rfl
theorem Qks {w : Qn} {u : Int} {p : Nat} {l : List WantT} {rows : List RowT} {i : Nat} (h : i < l.length) (ho : (Ym w u p [l[i]] true).isSome = true) : QbQ w u p (l.take (i + 1)) rows = Xj w ⟨3, u, 0, 0, (Ym w u p [l[i]] true).getD []⟩ (QbQ w u p (l.take i) rows) := by
 rw [Ql9 h]
 cases hc : Ym w u p [l[i]] true with
 | none => rw [hc] at ho; cases ho
 | some t => rfl
theorem Ql8 {w : Qn} {u : Int} {p : Nat} {l : List WantT} {rows : List RowT} {i : Nat} (h : i < l.length) (ho : (Ym w u p [l[i]] true).isSome = false) : QbQ w u p (l.take (i + 1)) rows = QbQ w u p (l.take i) rows := by
 rw [Ql9 h]
 cases hc : Ym w u p [l[i]] true with
 | none => rfl
 | some t => rw [hc] at ho; cases ho
theorem Qms {w : Qn} {u : Int} {p : Nat} {l : List WantT} {b : Bool} : IncOk w ((Ym w u p l b).getD []) := by
 cases hc : Ym w u p l b with
 | none => exact IncOk.nil w
 | some t => exact Qd2 hc
theorem Qd7 {w : Qn} {u : Int} {p : Nat} (h0 : 0 <= u) (h1 : u < w.length) : ∀ {l : List (List WantT)} {rows : List RowT}, QaW w rows -> QaW w (YP w u p l rows) /\ (YP w u p l rows).length <= rows.length + l.length
 | [], rows, h => ⟨h, Nat.le_refl _⟩
 | x :: l, rows, h => by
  rw [YP, List.foldl_cons]
  cases hc : Ym w u p x false with
  | none =>
   obtain ⟨q1, q2⟩ := Qd7 h0 h1 (l := l) h
   exact ⟨q1, Nat.le_trans q2 (by simp)⟩
  | some t =>
   obtain ⟨q1, q2⟩ := Qd7 (p := p) h0 h1 (l := l) (Qj7 (r := ⟨2, u, 0, 0, t⟩) (Qd2 hc) h0 h1 h)
   have := Qh4 w ⟨2, u, 0, 0, t⟩ rows
   exact ⟨q1, Nat.le_trans q2 (by simp only [List.length_cons]; omega)⟩
theorem Qff {w : Qn} {u : Int} {p : Nat} (h0 : 0 <= u) (h1 : u < w.length) : ∀ {l : List WantT} {rows : List RowT}, QaW w rows -> QaW w (QbQ w u p l rows) /\ (QbQ w u p l rows).length <= rows.length + l.length
 | [], rows, h => ⟨h, Nat.le_refl _⟩
 | x :: l, rows, h => by
  rw [QbQ, List.foldl_cons]
  cases hc : Ym w u p [x] true with
  | none =>
   obtain ⟨q1, q2⟩ := Qff h0 h1 (l := l) h
   exact ⟨q1, Nat.le_trans q2 (by simp)⟩
  | some t =>
   obtain ⟨q1, q2⟩ := Qff (p := p) h0 h1 (l := l) (Qj7 (r := ⟨3, u, 0, 0, t⟩) (Qd2 hc) h0 h1 h)
   have := Qh4 w ⟨3, u, 0, 0, t⟩ rows
   exact ⟨q1, Nat.le_trans q2 (by simp only [List.length_cons]; omega)⟩
theorem Qhx {w : Qn} {u : Int} {cs : List CandT} {n : Nat} {rows : List RowT} (h : n < cs.length) : YI w u cs (n + 1) rows = QbQ w u n cs[n].bs (YP w u n cs[n].ns (YI w u cs n rows)) := by
 rw [YI, List.getElem?_eq_getElem h]
theorem QfI {w : Qn} {u : Int} {cs : List CandT} (h0 : 0 <= u) (h1 : u < w.length) (hc : ∀ c ∈ cs, c.ns.length <= 1000 /\ c.bs.length <= 1000) {rows : List RowT} (h : QaW w rows) : ∀ n, n <= cs.length -> QaW w (YI w u cs n rows) /\ (YI w u cs n rows).length <= rows.length + n * 2000
 | 0, _ => ⟨h, by simp [YI]⟩
 | n + 1, hn => by
  obtain ⟨q1, q2⟩ := QfI h0 h1 hc h n (by omega)
  rw [Qhx (by omega)]
  obtain ⟨q3, q4⟩ := Qd7 (p := n) h0 h1 (l := cs[n].ns) q1
  obtain ⟨q5, q6⟩ := Qff (p := n) h0 h1 (l := cs[n].bs) q3
  have := hc cs[n] (List.getElem_mem _)
  exact ⟨q5, by omega⟩
theorem Qkb {w : Qn} {n : Nat} (h : n < w.length) : Ys w (n + 1) = YI w n w[n].cs w[n].cs.length (Ys w n) := by
 rw [Ys, List.getElem?_eq_getElem h]
theorem Qcs {w : Qn} (hw : WSm w) (h0 : 0 < w.length) : ∀ n, n <= w.length -> QaW w (Ys w n) /\ (Ys w n).length <= 1 + n * 32000
 | 0, _ => ⟨fun x hx => by
   simp only [Ys, List.mem_singleton] at hx; subst hx
   exact ⟨List.pairwise_singleton _ _, fun t ht => by simp only [List.mem_singleton] at ht; subst ht; exact ⟨Int.le_refl _, by simp only; omega⟩⟩, by simp [Ys]⟩
 | n + 1, hn => by
  obtain ⟨q1, q2⟩ := Qcs hw h0 n (by omega)
  rw [Qkb (by omega)]
  obtain ⟨q3, q4⟩ := QfI (u := n) (by omega) (by omega) (fun c hc => hw.ns w[n] (List.getElem_mem _) c hc) q1 w[n].cs.length (Nat.le_refl _)
  have := hw.cs w[n] (List.getElem_mem _)
  refine ⟨q3, ?_⟩
  have h5 : w[n].cs.length * 2000 <= 16 * 2000 := Nat.mul_le_mul_right _ this
  omega
theorem QmM {w : Qn} (hw : WSm w) (h0 : 0 < w.length) : ∀ t ∈ mDB w, IncOk w t := fun t ht => by
 obtain ⟨r, hr, rfl⟩ := List.mem_map.1 ht
 exact (Qcs hw h0 w.length (Nat.le_refl _)).1 r hr
theorem QhT {w : Qn} (hw : WSm w) (h0 : 0 < w.length) : (mDB w).length <= 1600000 := by
 have := (Qcs hw h0 w.length (Nat.le_refl _)).2
 have := hw.len
 rw [mDB, List.length_map, Qch]; omega
theorem Qrx {l : List TermT} : ∀ r ∈ l.map Qdm, r.length = 2 := fun r hr => by obtain ⟨x, _, rfl⟩ := List.mem_map.1 hr; rfl
theorem Qry {l : List WantT} : ∀ r ∈ l.map Qe6, r.length = 3 := fun r hr => by obtain ⟨x, _, rfl⟩ := List.mem_map.1 hr; rfl
theorem Qjg {l : List StepT} : ∀ r ∈ l.map QfK, r.length = 4 := fun r hr => by obtain ⟨x, _, rfl⟩ := List.mem_map.1 hr; rfl
theorem Qnt {α : Type} {f : α -> List D} {l : List α} {i : Nat} (h : i < l.length) : ((l.map f).take ((i : Int) + 1).toNat).drop ((i : Nat) : Int).toNat = [l[i]].map f := by
 rw [QnH, Int.toNat_natCast, List.drop_take, show i + 1 - i = 1 by omega, List.drop_eq_getElem_cons (by simpa using h)]
 simp
theorem WSm.nsLen {w : Qn} (hw : WSm w) {u i : Nat} (hu : u < w.length) (hi : i < w[u].cs.length) : w[u].cs[i].ns.length <= 1000 := (hw.ns _ (List.getElem_mem _) _ (List.getElem_mem _)).1
theorem WSm.bsLen {w : Qn} (hw : WSm w) {u i : Nat} (hu : u < w.length) (hi : i < w[u].cs.length) : w[u].cs[i].bs.length <= 1000 := (hw.ns _ (List.getElem_mem _) _ (List.getElem_mem _)).2
theorem WSm.csLen {w : Qn} (hw : WSm w) {u : Nat} (hu : u < w.length) : w[u].cs.length <= 16 := hw.cs _ (List.getElem_mem _)
theorem QpW {w : Qn} (hw : WSm w) {u i : Nat} (hu : u < w.length) (hi : i <= w[u].cs.length) : QaW w (YI w u w[u].cs i (Ys w u)) /\ (YI w u w[u].cs i (Ys w u)).length <= 10000000 := by
 obtain ⟨q1, q2⟩ := Qcs hw (by omega) u (by omega)
 obtain ⟨q3, q4⟩ := QfI (u := u) (by omega) (by omega) (fun c hc => hw.ns w[u] (List.getElem_mem _) c hc) q1 i hi
 have := hw.csLen hu
 have := hw.len
 have h5 : i * 2000 <= 16 * 2000 := Nat.mul_le_mul_right _ (by omega)
 have h6 : u * 32000 <= 48 * 32000 := Nat.mul_le_mul_right _ (by omega)
 exact ⟨q3, by omega⟩
theorem QhS {w : Qn} (hw : WSm w) {u i : Nat} (hu : u < w.length) (hi : i < w[u].cs.length) (k : Nat) : QaW w (YP w u i (w[u].cs[i].ns.take k) (YI w u w[u].cs i (Ys w u))) /\ (YP w u i (w[u].cs[i].ns.take k) (YI w u w[u].cs i (Ys w u))).length <= 20000000 := by
 obtain ⟨q1, q2⟩ := QpW hw hu (Nat.le_of_lt hi)
 obtain ⟨q3, q4⟩ := Qd7 (u := u) (p := i) (by omega) (by omega) (l := w[u].cs[i].ns.take k) q1
 have := hw.nsLen hu hi
 have h2 : (w[u].cs[i].ns.take k).length <= w[u].cs[i].ns.length := List.length_take_le' ..
 exact ⟨q3, by omega⟩
theorem QkS {w : Qn} (hw : WSm w) {u i : Nat} (hu : u < w.length) (hi : i < w[u].cs.length) (k : Nat) : QaW w (QbQ w u i (w[u].cs[i].bs.take k) (YP w u i w[u].cs[i].ns (YI w u w[u].cs i (Ys w u)))) /\ (QbQ w u i (w[u].cs[i].bs.take k) (YP w u i w[u].cs[i].ns (YI w u w[u].cs i (Ys w u)))).length <= 30000000 := by
 obtain ⟨q1, q2⟩ := QhS hw hu hi w[u].cs[i].ns.length
 rw [List.take_length] at q1 q2
 obtain ⟨q3, q4⟩ := Qff (u := u) (p := i) (by omega) (by omega) (l := w[u].cs[i].bs.take k) q1
 have := hw.bsLen hu hi
 have h2 : (w[u].cs[i].bs.take k).length <= w[u].cs[i].bs.length := List.length_take_le' ..
 exact ⟨q3, by omega⟩
end M25
namespace Go.Proofs
open Go Go.Abs M3 M25
set_option linter.unusedVariables false
set_option linter.unusedSimpArgs false
theorem Qai {w : Qn} (hw : WSm w) {r : RowT} {rows : List RowT} (hr : QaW w rows) (hrr : IncOk w r.t) (hl : rows.length <= 100000000) : OkH Tryz.prog 72 [ZI w, .osl 500000 rows.length, .agg (Qmf r)] [(500000, ⟨(rows).map Qmf, 5, 95, true⟩)] (.osl 500000 (Xj w r rows).length) [(500000, ⟨(Xj w r rows).map Qmf, 5, 95, true⟩)] := by
 refine OkH.mv ZP Tryz.func72 Qs5 (Nat.le_of_ble_eq_true rfl) rfl ?_
 show TW _ _ tf72.body _ _
 have hn := hw.len
 refine Qf fun K hK => Zr rfl rfl rfl (Zr rfl rfl rfl (Qa rfl ?_))
 refine hK _ _ (Qb (kp3 rfl rfl rfl) ?_)
 refine Qz ?_ -- 0
 refine Qf fun K hK => Qa rfl ?_
 refine hK _ _ (Qb (kp4 rfl rfl rfl rfl) ?_)
 refine Qy ?_
 refine Zi (ι := Nat) (fun i => ⟨[(1, .osl 500000 rows.length), (3, .ref 3 0 0), (5, .ref 5 0 0), (7, .int .i64 i)], [(3, ⟨[[.sl ((w).map Z8)]], 1, 26, true⟩), (5, ⟨[[.int .i64 (r).k, .int .i64 (r).u, .int .i64 (r).a, .int .i64 (r).b, ZC (r).t]], 5, 95, true⟩), (500000, ⟨(rows).map Qmf, 5, 95, true⟩)]⟩) (fun i => i <= rows.length /\ Xj w r rows = rows.take i ++ Xj w r (rows.drop i)) (fun i => rows.length - i) 0 ?_ ?_ ?_
 ·exact QX (l := [1, 3, 5, 7]) (lH := [3, 5, 500000]) (kp4 rfl rfl rfl rfl) (Qe rfl (Qe rfl (Qe rfl Ql))) rfl rfl rfl
 ·exact ⟨Nat.zero_le _, by simp⟩
 intro i hI
 try dsimp only
 refine Qz ?_ -- 1
 refine Qf fun K hK => Qa rfl (Qa rfl (QO rfl rfl (ZW rfl rfl ?_)))
 refine hK _ _ (Qb (kp5 rfl rfl rfl rfl rfl) ?_)
 refine Qw rfl (fun h1 => ?_) (fun h1 => ?_)
 ·try rw [h1]
  try simp only [qa, qb, qc, qd, qe, List.length_map] at h1
  refine Qv (Qd (kp4 rfl rfl rfl rfl) ?_)
  refine Qz ?_ -- 2
  refine Qy (Qf fun K hK => Qa rfl (Qa rfl (Xk rfl rfl rfl (by simp) (by omega) (by omega) rfl (QG (cs := [_, _, _, _, _]) rfl (Ya rfl (QS (by omega))) rfl rfl (ZH rfl (Q7 rfl rfl rfl rfl rfl rfl rfl rfl ?_))))))
  refine hK _ _ (Qb (kp5 rfl rfl rfl rfl rfl) ?_)
  refine Qf fun K hK => Qh rfl rfl (QR (ds0 := [20, 19, 18, 17, 16, 15, 14, 13, 12, 11, 10, 9, 8, 7, 6, 5, 4, 3, 2, 1, 0]) rfl rfl rfl rfl rfl (Qh rfl rfl (QR (ds0 := [20, 19, 18, 17, 16, 15, 14, 13, 12, 11, 10, 9, 8, 7, 6, 5, 4, 3, 2, 1, 0]) rfl rfl rfl rfl rfl ?_)))
  first | refine ZL rfl rfl ?_ | refine Qhr rfl rfl ?_
  refine Qa rfl ?_
  refine QF (g := 25) rfl (fun h2 => ?_) (fun h2 => ?_)
  ·try rw [h2]
   try simp only [qa, qb, qc, qd, qe, List.length_map] at h2
   refine Qk rfl (Qh rfl rfl (Qk rfl (QR (ds0 := [14, 13, 12, 11, 10, 9, 8, 7, 6, 5, 4, 3, 2, 1, 0]) rfl rfl rfl rfl rfl (Qk rfl (Qh rfl rfl (Qk rfl (QR (ds0 := [14, 13, 12, 11, 10, 9, 8, 7, 6, 5, 4, 3, 2, 1, 0]) rfl rfl rfl rfl rfl (Qk rfl ?_))))))))
   first | refine ZL rfl rfl ?_ | refine Qhr rfl rfl ?_
   refine Qm rfl rfl (Qa rfl ?_)
   refine QF (g := 32) rfl (fun h3 => ?_) (fun h3 => ?_)
   ·try rw [h3]
    try simp only [qa, qb, qc, qd, qe, List.length_map] at h3
    refine Qk rfl (Qh rfl rfl (Qk rfl (QR (ds0 := [7, 1, 0]) rfl rfl rfl rfl rfl (Qk rfl (Qh rfl rfl (Qk rfl (QR (ds0 := [7, 1, 0]) rfl rfl rfl rfl rfl (Qk rfl (QU (ds0 := [1, 0]) (Xa (Nat.le_trans (hr _ (List.getElem_mem (by omega))).len (by omega))) rfl rfl (.inl rfl) rfl rfl (Qk rfl (Qh rfl rfl ?_)))))))))))
    refine Qk rfl (QR (ds0 := [2, 1, 0]) rfl rfl rfl rfl rfl (Qk rfl (Qh rfl rfl (Qk rfl (QR (ds0 := [2, 1, 0]) rfl rfl rfl rfl rfl (Qk rfl (QU (ds0 := [1, 0]) (Xa (Nat.le_trans hrr.len (by omega))) rfl rfl (.inl rfl) rfl rfl (Qk rfl (QU (ds0 := [0]) (QcW (Nat.le_trans (QfG _ _) (Nat.le_trans (hr _ (List.getElem_mem (by omega))).len (by omega)))) rfl rfl (.inr rfl) rfl rfl (Qm rfl rfl ?_))))))))))
    refine hK _ _ (Qb (kp6 rfl rfl rfl rfl rfl rfl) ?_)
    refine Qw rfl (fun h4 => ?_) (fun h4 => ?_)
    ·try rw [h4]
     try simp only [qa, qb, qc, qd, qe, List.length_map] at h4
     refine Qf fun K hK => Qh rfl rfl (QR (ds0 := [8, 7, 1, 0]) rfl rfl rfl rfl rfl (QN (ds0 := [16, 9, 8, 7, 1, 0]) (cs := [_]) rfl rfl rfl rfl rfl rfl (Qh rfl rfl (QR (ds0 := [16, 9, 8, 7, 1, 0]) rfl rfl rfl rfl rfl (Qh rfl rfl (QR (ds0 := [16, 9, 8, 7, 1, 0]) rfl rfl rfl rfl rfl (QU (ds0 := [9, 8, 7, 1, 0]) (YY hw (Nat.le_trans (hr _ (List.getElem_mem (by omega))).len (by omega))) rfl rfl (.inr rfl) rfl rfl (QN (ds0 := [10, 9, 8, 7, 1, 0]) (cs := [_]) rfl rfl rfl rfl rfl rfl (Qh rfl rfl (QR (ds0 := [10, 9, 8, 7, 1, 0]) rfl rfl rfl rfl rfl ?_))))))))))
     refine Qh rfl rfl (QR (ds0 := [10, 9, 8, 7, 1, 0]) rfl rfl rfl rfl rfl (QU (ds0 := [9, 8, 7, 1, 0]) (YY hw (Nat.le_trans hrr.len (by omega))) rfl rfl (.inr rfl) rfl rfl (Qr3 rfl rfl (QZ rfl rfl (QE rfl rfl (Qh rfl rfl (QR (ds0 := [2, 1, 0]) rfl rfl rfl rfl rfl (Qh rfl rfl (QR (ds0 := [2, 1, 0]) rfl rfl rfl rfl rfl (QU (ds0 := [1, 0]) (Xa (Nat.le_trans (hr _ (List.getElem_mem (by omega))).len (by omega))) rfl rfl (.inl rfl) rfl rfl (Qbd (ds0 := [0]) rfl rfl (by simp [D.ids, D.sid, ZC]) ⟨rfl, Qrx, rfl⟩ rfl rfl (by simp) rfl rfl (by have q1 := QfG (rows[i]'(by omega)).t r.u; have q2 := (hr _ (List.getElem_mem (show i < rows.length by omega))).len; simp; omega) (by have q1 := QfG (rows[i]'(by omega)).t r.u; have q2 := (hr _ (List.getElem_mem (show i < rows.length by omega))).len; simp; omega) rfl rfl ?_)))))))))))
     refine Qa rfl ?_
     refine hK _ _ (Qb (kp3 rfl rfl rfl) ?_)
     refine QoX (QfZ (l := [1, 7]) (lH := [500000]) 67 9 (kp2 rfl rfl) (Qe rfl Ql) rfl rfl rfl (by first | (simp; done) | (simp; omega)) rfl rfl rfl rfl) (Qf fun K hK => Qa rfl (Qa rfl (Qa rfl (QH (QbR (l := ⟨r.u, bor (Qdq w (rows[i]'(by omega)).t r.u) (Qdq w r.t r.u)⟩ :: Qg1 (rows[i]'(by omega)).t r.u) (by have q1 := QfG (rows[i]'(by omega)).t r.u; have q2 := (hr _ (List.getElem_mem (show i < rows.length by omega))).len; simp; omega)) rfl rfl (.inl rfl) (Xk rfl rfl rfl (by simp) (by omega) (by omega) rfl (Qh rfl rfl (Q7 rfl rfl (QS (by omega)) rfl rfl rfl rfl rfl ?_)))))))
     refine hK _ _ (Qb (kp1 rfl) ?_)
     refine Qf fun K hK => Qa rfl (Qa rfl ?_)
     refine hK _ _ (Qb (kp1 rfl) ?_)
     refine Qu (Qr (Qj (QW (Qr (Qj ?_)))))
     refine YA rfl ?_ (Qcu ?_)
     ·rw [Qk5 (i := i) (by omega) (QmI h2 h3 h4) hI.2]; simp [QlU, D.fz, D.fzS, Qgq, D.can, D.canS]
     ·rw [Qk5 (i := i) (by omega) (QmI h2 h3 h4) hI.2]; simp [lk, List.map_set, Qmf, Qog, setRow, D.sid, ZC]
    ·try rw [h4]
     try simp only [qa, qb, qc, qd, qe, List.length_map] at h4
     refine Qv (Qg (Qd (kp4 rfl rfl rfl rfl) (QL fun K hK => Qa rfl (QY rfl rfl (by first | exact Qq (by omega) (by omega) | rfl) (Qa rfl (hK _ ?_))))))
     refine Qi (i + 1) ?_ ?_ ?_
     ·exact QX (l := [1, 3, 5, 7]) (lH := [3, 5, 500000]) (kp4 rfl rfl rfl rfl) (Qe rfl (Qe rfl (Qe rfl Ql))) rfl rfl rfl
     ·exact ⟨by omega, Qgk (by omega) (QjY (by first | exact .inl h2 | exact .inr (.inl h3) | exact .inr (.inr h4))) hI.2⟩
     ·first | omega | (simp only; omega) | (dsimp only; omega)
   ·try rw [h3]
    try simp only [qa, qb, qc, qd, qe, List.length_map] at h3
    refine Qt rfl (Qt rfl (Qt rfl (Qt rfl (Qt rfl (Qt rfl (Qt rfl (Qt rfl (Qt rfl (Qt rfl (Qt rfl (Qm rfl rfl ?_)))))))))))
    refine hK _ _ (Qb (kp6 rfl rfl rfl rfl rfl rfl) ?_)
    refine Zz rfl (Qv (Qg (Qd (kp4 rfl rfl rfl rfl) (QL fun K hK => Qa rfl (QY rfl rfl (by first | exact Qq (by omega) (by omega) | rfl) (Qa rfl (hK _ ?_)))))))
    refine Qi (i + 1) ?_ ?_ ?_
    ·exact QX (l := [1, 3, 5, 7]) (lH := [3, 5, 500000]) (kp4 rfl rfl rfl rfl) (Qe rfl (Qe rfl (Qe rfl Ql))) rfl rfl rfl
    ·exact ⟨by omega, Qgk (by omega) (QjY (by first | exact .inl h2 | exact .inr (.inl h3) | exact .inr (.inr h4))) hI.2⟩
    ·first | omega | (simp only; omega) | (dsimp only; omega)
  ·try rw [h2]
   try simp only [qa, qb, qc, qd, qe, List.length_map] at h2
   refine Qt rfl (Qt rfl (Qt rfl (Qt rfl (Qt rfl (Qm rfl rfl (Qa rfl (Qt rfl (Qt rfl (Qt rfl (Qt rfl (Qt rfl ?_)))))))))))
   refine Qt rfl (Qt rfl (Qt rfl (Qt rfl (Qt rfl (Qt rfl (Qm rfl rfl ?_))))))
   refine hK _ _ (Qb (kp6 rfl rfl rfl rfl rfl rfl) ?_)
   refine Zz rfl (Qv (Qg (Qd (kp4 rfl rfl rfl rfl) (QL fun K hK => Qa rfl (QY rfl rfl (by first | exact Qq (by omega) (by omega) | rfl) (Qa rfl (hK _ ?_)))))))
   refine Qi (i + 1) ?_ ?_ ?_
   ·exact QX (l := [1, 3, 5, 7]) (lH := [3, 5, 500000]) (kp4 rfl rfl rfl rfl) (Qe rfl (Qe rfl (Qe rfl Ql))) rfl rfl rfl
   ·exact ⟨by omega, Qgk (by omega) (QjY (by first | exact .inl h2 | exact .inr (.inl h3) | exact .inr (.inr h4))) hI.2⟩
   ·first | omega | (simp only; omega) | (dsimp only; omega)
 ·try rw [h1]
  try simp only [qa, qb, qc, qd, qe, List.length_map] at h1
  refine Za (QJ (Qx (QB (Qd (kp2 rfl rfl) (Qf fun K hK => Qa rfl (QG (cs := [_, _, _, _, _]) rfl rfl rfl rfl (QE rfl rfl (Xe rfl rfl (fun _ h => YW rfl rfl rfl h) rfl (by simp) rfl rfl rfl (by simp; omega) (by simp; omega) (Qa rfl ?_)))))))))
  refine hK _ _ (Qb (kp1 rfl) ?_)
  refine Qu ?_
  refine YA rfl ?_ (Qcu ?_)
  ·rw [Qk6 (i := i) (by omega) hI.2]; simp [QlU, D.fz, D.fzS, Qgq, D.can, D.canS]
  ·rw [Qk6 (i := i) (by omega) hI.2]; simp [lk, Qmf, D.sid, ZC]
theorem Qah {w : Qn} (hw : WSm w) : Ok Tryz.prog 51 [ZI w] (QpM (Qch w)) := by
 refine Ok.ofT ZP Tryz.func51 QsK (Nat.le_of_ble_eq_true rfl) ?_
 show TW _ _ tf51.body _ _
 have hn := hw.len
 refine Qf fun K hK => Zr rfl rfl rfl (Qa rfl ?_)
 refine hK _ _ (Qb (kp1 rfl) ?_)
 refine Qf fun K hK => QZ rfl rfl (QE rfl rfl (QZ rfl rfl (QE rfl rfl (Qa rfl ?_))))
 refine hK _ _ (Qb (kp2 rfl rfl) ?_)
 refine Qz ?_ -- 0
 refine Qf fun K hK => Qa rfl ?_
 refine hK _ _ (Qb (kp3 rfl rfl rfl) ?_)
 refine Qy ?_
 refine Zi (ι := Nat) (fun j => ⟨[(1, .ref 1 0 0), (3, .osl 3 (Ys w j).length), (4, .int .i64 j)], [(1, ⟨[[.sl ((w).map Z8)]], 1, 26, true⟩), (3, ⟨(Ys w j).map Qmf, 5, 95, true⟩)]⟩) (fun j => j <= w.length) (fun j => w.length - j) 0 ?_ ?_ ?_
 ·exact le_trans (QiS 14 _ (by decide)) (le_trans (Qf1 (k := 16) (b := ⟨[[.int .i64 1, .int .i64 0, .int .i64 0, .int .i64 0, .sl [[.int .i64 0, .int .i64 1]]]], 5, 95, false⟩) rfl (by simp) (by simp [D.sid])) (le_trans (Qf0 (l := [1, 4]) (lH := [1]) 16 3 3 (kp2 rfl rfl) (Qe rfl Ql) rfl rfl rfl rfl rfl rfl rfl) (QX (l := [1, 3, 4]) (lH := [1, 3]) (kp3 rfl rfl rfl) (Qe rfl (Qe rfl Ql)) rfl rfl rfl)))
 ·exact Nat.zero_le _
 intro j hU
 try dsimp only
 refine Qz ?_ -- 1
 refine Qf fun K hK => Qa rfl (Qh rfl rfl (QC rfl rfl rfl (QO rfl rfl (ZW rfl rfl ?_))))
 refine hK _ _ (Qb (kp4 rfl rfl rfl rfl) ?_)
 refine Qw rfl (fun h1 => ?_) (fun h1 => ?_)
 ·try rw [h1]
  try simp only [qa, qb, qc, qd, qe, List.length_map] at h1
  refine Qv (Qd (kp3 rfl rfl rfl) ?_)
  refine Qz ?_ -- 2
  refine Qy (Qf fun K hK => Qa rfl ?_)
  refine hK _ _ (Qb (kp4 rfl rfl rfl rfl) ?_)
  refine Qy ?_
  refine Zi (ι := Nat) (fun i => ⟨[(1, .ref 1 0 0), (3, .osl 3 (YI w j (w[j]'(by omega)).cs i (Ys w j)).length), (4, .int .i64 j), (5, .int .i64 i)], [(1, ⟨[[.sl ((w).map Z8)]], 1, 26, true⟩), (3, ⟨(YI w j (w[j]'(by omega)).cs i (Ys w j)).map Qmf, 5, 95, true⟩)]⟩) (fun i => i <= (w[j]'(by omega)).cs.length) (fun i => (w[j]'(by omega)).cs.length - i) 0 ?_ ?_ ?_
  ·exact QX (l := [1, 3, 4, 5]) (lH := [1, 3]) (kp4 rfl rfl rfl rfl) (Qe rfl (Qe rfl Ql)) rfl rfl rfl
  ·exact Nat.zero_le _
  intro i hI
  have hcs := hw.csLen (u := j) (by omega)
  try dsimp only
  refine Qz ?_ -- 3
  refine Qf fun K hK => Qa rfl (Qh rfl rfl (QC rfl rfl rfl (Qa rfl (QK rfl rfl rfl (by omega) (QS (by omega)) rfl (Q6 rfl rfl (QC rfl rfl rfl (QO rfl rfl (ZW rfl rfl ?_))))))))
  refine hK _ _ (Qb (kp5 rfl rfl rfl rfl rfl) ?_)
  refine Qw rfl (fun h2 => ?_) (fun h2 => ?_)
  ·try rw [h2]
   try simp only [qa, qb, qc, qd, qe, List.length_map] at h2
   refine Qv (Qd (kp4 rfl rfl rfl rfl) ?_)
   refine Qz ?_ -- 4
   refine Qy (Qf fun K hK => Qh rfl rfl (QC rfl rfl rfl (Qa rfl (QK rfl rfl rfl (by omega) (QS (by omega)) rfl (Q6 rfl rfl (QC rfl rfl rfl (Qa rfl (QK rfl rfl rfl (by omega) (QS (by omega)) rfl (QG (cs := [_, _, _, _, _, _, _, _]) rfl rfl rfl rfl (ZH rfl ?_))))))))))
   refine Q7 rfl rfl rfl rfl rfl rfl rfl rfl ?_
   refine hK _ _ (Qb (kp5 rfl rfl rfl rfl rfl) ?_)
   refine Qz ?_ -- 5
   refine Qf fun K hK => Qa rfl ?_
   refine hK _ _ (Qb (kp6 rfl rfl rfl rfl rfl rfl) ?_)
   refine Qy ?_
   refine Zi (ι := Nat) (fun k => ⟨[(1, .ref 1 0 0), (3, .osl 3 (YP w j i (((w[j]'(by omega)).cs[i]'(by omega)).ns.take k) (YI w j (w[j]'(by omega)).cs i (Ys w j))).length), (4, .int .i64 j), (5, .int .i64 i), (6, .ref 6 0 0), (7, .int .i64 k)], [(1, ⟨[[.sl ((w).map Z8)]], 1, 26, true⟩), (3, ⟨(YP w j i (((w[j]'(by omega)).cs[i]'(by omega)).ns.take k) (YI w j (w[j]'(by omega)).cs i (Ys w j))).map Qmf, 5, 95, true⟩), (6, ⟨[QpL ((w[j]'(by omega)).cs[i]'(by omega))], 8, 70, true⟩)]⟩) (fun k => k <= ((w[j]'(by omega)).cs[i]'(by omega)).ns.length) (fun k => ((w[j]'(by omega)).cs[i]'(by omega)).ns.length - k) 0 ?_ ?_ ?_
   ·exact QX (l := [1, 3, 4, 5, 6, 7]) (lH := [1, 3, 6]) (kp6 rfl rfl rfl rfl rfl rfl) (Qe rfl (Qe rfl (Qe rfl Ql))) rfl rfl rfl
   ·exact Nat.zero_le _
   intro k hK1
   have hnl := hw.nsLen (u := j) (i := i) (by omega) (by omega)
   try dsimp only
   refine Qz ?_ -- 6
   refine Qf fun K hK => Qa rfl (Qh rfl rfl (QC rfl rfl rfl (QO rfl rfl (ZW rfl rfl ?_))))
   refine hK _ _ (Qb (kp7 rfl rfl rfl rfl rfl rfl rfl) ?_)
   refine Qw rfl (fun h3 => ?_) (fun h3 => ?_)
   ·try rw [h3]
    try simp only [qa, qb, qc, qd, qe, List.length_map] at h3
    refine Qv (Qd (kp6 rfl rfl rfl rfl rfl rfl) ?_)
    refine Qz ?_ -- 7
    refine Qy (Qf fun K hK => QN (ds0 := [5, 4, 3, 2, 1, 0]) (cs := [_]) rfl rfl rfl rfl rfl rfl (Qa rfl (Qa rfl (Qh rfl rfl (QR (ds0 := [7, 6, 5, 4, 3, 2, 1, 0]) rfl rfl rfl rfl rfl (Qa rfl (QK rfl rfl rfl (by omega) (QS (by omega)) rfl (QR (ds0 := [5, 4, 3, 2, 1, 0]) rfl rfl rfl rfl rfl (QU (ds0 := [4, 3, 2, 1, 0]) (Xw hw (p := i) (by omega) (Nat.le_trans (hw.nl _ (List.getElem_mem (by omega)) _ (List.getElem_mem (by omega)) _ (List.getElem_mem (by omega))) (by omega)) (hw.nw _ (List.getElem_mem (by omega)) _ (List.getElem_mem (by omega)) _ (List.getElem_mem (by omega)))) rfl rfl (.inl rfl) rfl rfl (Qa rfl ?_))))))))))
    refine QV rfl rfl (QV rfl rfl (Qa rfl (Qa rfl ?_)))
    refine hK _ _ (Qb (kp8 rfl rfl rfl rfl rfl rfl rfl rfl) ?_)
    refine Qf fun K hK => Qa rfl ?_
    refine hK _ _ (Qb (kp8 rfl rfl rfl rfl rfl rfl rfl rfl) ?_)
    refine Qw rfl (fun h4 => ?_) (fun h4 => ?_)
    ·try rw [h4]
     try simp only [qa, qb, qc, qd, qe, List.length_map] at h4
     refine QL fun K hK => QG (cs := [_]) rfl rfl rfl rfl (Qa rfl (Qa rfl (Qa rfl (QZ rfl rfl (Ql1 (Qkw (k := 3) rfl rfl rfl (by decide) rfl (by decide) (by simp [D.ids, D.sid, ZC]) ⟨.osl 3 (YP w j i (((w[j]'(by omega)).cs[i]'(by omega)).ns.take k) (YI w j (w[j]'(by omega)).cs i (Ys w j))).length, by simp, by simp [D.ids, D.sid]⟩ rfl rfl (Qai hw (r := ⟨2, j, 0, 0, (Ym w j i (((w[j]'(by omega)).cs[i]'(by omega)).ns[k]'(by omega)) false).getD []⟩) (QhS hw (by omega) (by omega) _).1 Qms (Nat.le_trans (QhS hw (by omega) (by omega) _).2 (by omega)))) (Qa rfl (hK _ ?_)))))))
     refine Qg (Qd (kp6 rfl rfl rfl rfl rfl rfl) (QL fun K hK => Qa rfl (QY rfl rfl (by first | exact Qq (by omega) (by omega) | rfl) (Qa rfl (hK _ ?_)))))
     refine Qi (k + 1) ?_ ?_ ?_
     ·exact le_trans (Qf0 (l := [1, 4, 5, 6, 7]) (lH := [1, 6]) 69 3 3 (kp5 rfl rfl rfl rfl rfl) (Qe rfl (Qe rfl Ql)) rfl rfl rfl rfl rfl rfl rfl) (QX (l := [1, 3, 4, 5, 6, 7]) (lH := [1, 3, 6]) (kp6 rfl rfl rfl rfl rfl rfl) (Qe rfl (Qe rfl (Qe rfl Ql))) (by rw [Qi6 (by omega) h4] <;> rfl) (by rw [Qi6 (by omega) h4] <;> rfl) rfl)
     ·omega
     ·first | omega | (simp only; omega) | (dsimp only; omega)
    ·try rw [h4]
     try simp only [qa, qb, qc, qd, qe, List.length_map] at h4
     refine Qv (Qg (Qd (kp6 rfl rfl rfl rfl rfl rfl) (QL fun K hK => Qa rfl (QY rfl rfl (by first | exact Qq (by omega) (by omega) | rfl) (Qa rfl (hK _ ?_))))))
     refine Qi (k + 1) ?_ ?_ ?_
     ·exact QX (l := [1, 3, 4, 5, 6, 7]) (lH := [1, 3, 6]) (kp6 rfl rfl rfl rfl rfl rfl) (Qe rfl (Qe rfl (Qe rfl Ql))) (by rw [Qk1 (by omega) h4] <;> rfl) (by rw [Qk1 (by omega) h4] <;> rfl) rfl
     ·omega
     ·first | omega | (simp only; omega) | (dsimp only; omega)
   ·try rw [h3]
    try simp only [qa, qb, qc, qd, qe, List.length_map] at h3
    refine Za (QJ (Qx (QB (Qd (kp5 rfl rfl rfl rfl rfl) (Qf fun K hK => Qa rfl ?_)))))
    refine hK _ _ (Qb (kp6 rfl rfl rfl rfl rfl rfl) ?_)
    refine Qy ?_
    refine Zi (ι := Nat) (fun m => ⟨[(1, .ref 1 0 0), (3, .osl 3 (QbQ w j i (((w[j]'(by omega)).cs[i]'(by omega)).bs.take m) (YP w j i ((w[j]'(by omega)).cs[i]'(by omega)).ns (YI w j (w[j]'(by omega)).cs i (Ys w j)))).length), (4, .int .i64 j), (5, .int .i64 i), (6, .ref 6 0 0), (10, .int .i64 m)], [(1, ⟨[[.sl ((w).map Z8)]], 1, 26, true⟩), (3, ⟨(QbQ w j i (((w[j]'(by omega)).cs[i]'(by omega)).bs.take m) (YP w j i ((w[j]'(by omega)).cs[i]'(by omega)).ns (YI w j (w[j]'(by omega)).cs i (Ys w j)))).map Qmf, 5, 95, true⟩), (6, ⟨[QpL ((w[j]'(by omega)).cs[i]'(by omega))], 8, 70, true⟩)]⟩) (fun m => m <= ((w[j]'(by omega)).cs[i]'(by omega)).bs.length) (fun m => ((w[j]'(by omega)).cs[i]'(by omega)).bs.length - m) 0 ?_ ?_ ?_
    ·exact QX (l := [1, 3, 4, 5, 6, 10]) (lH := [1, 3, 6]) (kp6 rfl rfl rfl rfl rfl rfl) (Qe rfl (Qe rfl (Qe rfl Ql))) (by rw [List.take_of_length_le (show ((w[j]'(by omega)).cs[i]'(by omega)).ns.length <= k by omega)] <;> rfl) (by rw [List.take_of_length_le (show ((w[j]'(by omega)).cs[i]'(by omega)).ns.length <= k by omega)] <;> rfl) rfl
    ·exact Nat.zero_le _
    intro m hM
    have hbl := hw.bsLen (u := j) (i := i) (by omega) (by omega)
    try dsimp only
    refine Qz ?_ -- 8
    refine Qf fun K hK => Qa rfl (Qh rfl rfl (QC rfl rfl rfl (QO rfl rfl (ZW rfl rfl ?_))))
    refine hK _ _ (Qb (kp7 rfl rfl rfl rfl rfl rfl rfl) ?_)
    refine Qw rfl (fun h5 => ?_) (fun h5 => ?_)
    ·try rw [h5]
     try simp only [qa, qb, qc, qd, qe, List.length_map] at h5
     refine Qv (Qd (kp6 rfl rfl rfl rfl rfl rfl) ?_)
     refine Qz ?_ -- 9
     refine Qy (Qf fun K hK => QN (ds0 := [5, 4, 3, 2, 1, 0]) (cs := [_]) rfl rfl rfl rfl rfl rfl (Qa rfl (Qa rfl (Qh rfl rfl (QR (ds0 := [6, 5, 4, 3, 2, 1, 0]) rfl rfl rfl rfl rfl (Qa rfl (Qa rfl (QY rfl rfl (by first | exact Qq (by omega) (by omega) | rfl) (QbW rfl rfl rfl rfl (by omega) (by omega) (by simp; omega) Qry (Qnt (by omega)) (QU (ds0 := [4, 3, 2, 1, 0]) (Xw hw (p := i) (l := [((w[j]'(by omega)).cs[i]'(by omega)).bs[m]'(by omega)]) (by omega) (by simp) (by intro x hx; simp only [List.mem_singleton] at hx; subst hx; exact hw.bw _ (List.getElem_mem (by omega)) _ (List.getElem_mem (by omega)) _ (List.getElem_mem (by omega)))) rfl rfl (.inl rfl) rfl rfl ?_))))))))))
     refine Qa rfl (QV rfl rfl (QV rfl rfl (Qa rfl (Qa rfl ?_))))
     refine hK _ _ (Qb (kp8 rfl rfl rfl rfl rfl rfl rfl rfl) ?_)
     refine Qf fun K hK => Qa rfl ?_
     refine hK _ _ (Qb (kp8 rfl rfl rfl rfl rfl rfl rfl rfl) ?_)
     refine Qw rfl (fun h6 => ?_) (fun h6 => ?_)
     ·try rw [h6]
      try simp only [qa, qb, qc, qd, qe, List.length_map] at h6
      refine QL fun K hK => QG (cs := [_]) rfl rfl rfl rfl (Qa rfl (Qa rfl (Qa rfl (QZ rfl rfl (Ql1 (Qkw (k := 3) rfl rfl rfl (by decide) rfl (by decide) (by simp [D.ids, D.sid, ZC]) ⟨.osl 3 (QbQ w j i (((w[j]'(by omega)).cs[i]'(by omega)).bs.take m) (YP w j i ((w[j]'(by omega)).cs[i]'(by omega)).ns (YI w j (w[j]'(by omega)).cs i (Ys w j)))).length, by simp, by simp [D.ids, D.sid]⟩ rfl rfl (Qai hw (r := ⟨3, j, 0, 0, (Ym w j i [((w[j]'(by omega)).cs[i]'(by omega)).bs[m]'(by omega)] true).getD []⟩) (QkS hw (by omega) (by omega) _).1 Qms (Nat.le_trans (QkS hw (by omega) (by omega) _).2 (by omega)))) (Qa rfl (hK _ ?_)))))))
      refine Qg (Qd (kp6 rfl rfl rfl rfl rfl rfl) (QL fun K hK => Qa rfl (QY rfl rfl (by first | exact Qq (by omega) (by omega) | rfl) (Qa rfl (hK _ ?_)))))
      refine Qi (m + 1) ?_ ?_ ?_
      ·exact le_trans (Qf0 (l := [1, 4, 5, 6, 10]) (lH := [1, 6]) 96 3 3 (kp5 rfl rfl rfl rfl rfl) (Qe rfl (Qe rfl Ql)) rfl rfl rfl rfl rfl rfl rfl) (QX (l := [1, 3, 4, 5, 6, 10]) (lH := [1, 3, 6]) (kp6 rfl rfl rfl rfl rfl rfl) (Qe rfl (Qe rfl (Qe rfl Ql))) (by rw [Qks (by omega) h6] <;> rfl) (by rw [Qks (by omega) h6] <;> rfl) rfl)
      ·omega
      ·first | omega | (simp only; omega) | (dsimp only; omega)
     ·try rw [h6]
      try simp only [qa, qb, qc, qd, qe, List.length_map] at h6
      refine Qv (Qg (Qd (kp6 rfl rfl rfl rfl rfl rfl) (QL fun K hK => Qa rfl (QY rfl rfl (by first | exact Qq (by omega) (by omega) | rfl) (Qa rfl (hK _ ?_))))))
      refine Qi (m + 1) ?_ ?_ ?_
      ·exact QX (l := [1, 3, 4, 5, 6, 10]) (lH := [1, 3, 6]) (kp6 rfl rfl rfl rfl rfl rfl) (Qe rfl (Qe rfl (Qe rfl Ql))) (by rw [Ql8 (by omega) h6] <;> rfl) (by rw [Ql8 (by omega) h6] <;> rfl) rfl
      ·omega
      ·first | omega | (simp only; omega) | (dsimp only; omega)
    ·try rw [h5]
     try simp only [qa, qb, qc, qd, qe, List.length_map] at h5
     refine Za (QJ (Qx (QB (Qg (Qd (kp4 rfl rfl rfl rfl) (QL fun K hK => Qa rfl (QY rfl rfl (by first | exact Qq (by omega) (by omega) | rfl) (Qa rfl (hK _ ?_)))))))))
     refine Qi (i + 1) ?_ ?_ ?_
     ·exact QX (l := [1, 3, 4, 5]) (lH := [1, 3]) (kp4 rfl rfl rfl rfl) (Qe rfl (Qe rfl Ql)) (by rw [Qhx (by omega), List.take_of_length_le (show ((w[j]'(by omega)).cs[i]'(by omega)).bs.length <= m by omega)] <;> rfl) (by rw [Qhx (by omega), List.take_of_length_le (show ((w[j]'(by omega)).cs[i]'(by omega)).bs.length <= m by omega)] <;> rfl) rfl
     ·omega
     ·first | omega | (simp only; omega) | (dsimp only; omega)
  ·try rw [h2]
   try simp only [qa, qb, qc, qd, qe, List.length_map] at h2
   refine Za (QJ (Qx (QB (Qg (Qd (kp3 rfl rfl rfl) (QL fun K hK => Qa rfl (QY rfl rfl (by first | exact Qq (by omega) (by omega) | rfl) (Qa rfl (hK _ ?_)))))))))
   refine Qi (j + 1) ?_ ?_ ?_
   ·exact QX (l := [1, 3, 4]) (lH := [1, 3]) (kp3 rfl rfl rfl) (Qe rfl (Qe rfl Ql)) (by rw [Qkb (by omega), show (w[j]'(by omega)).cs.length = i by omega] <;> rfl) (by rw [Qkb (by omega), show (w[j]'(by omega)).cs.length = i by omega] <;> rfl) rfl
   ·omega
   ·first | omega | (simp only; omega) | (dsimp only; omega)
 ·try rw [h1]
  try simp only [qa, qb, qc, qd, qe, List.length_map] at h1
  refine Za (QJ (Qx (QB (Qd (kp1 rfl) (Qf fun K hK => Qa rfl (Qa rfl ?_))))))
  refine hK _ _ (Qb (kp1 rfl) ?_)
  refine Qu ?_
  exact Qaa rfl rfl rfl (by simp) (by rw [Qch, show w.length = j by omega] <;> rfl)
end Go.Proofs
namespace M25
open Go Go.Abs M3
/-! ### Bits of numbers -/
theorem Qig (e : Int) : IntKind.i64.wrap e = (BitVec.ofInt 64 e).toInt := by
 have hb : (BitVec.ofInt 64 e).toInt = if e % 18446744073709551616 < 9223372036854775808 then e % 18446744073709551616 else e % 18446744073709551616 - 18446744073709551616 := by
  rw [BitVec.toInt_ofInt]; rfl
 rw [hb]
 unfold IntKind.wrap
 simp only [IntKind.bits, IntKind.signed, Bool.true_and]
 split
 ·rename_i h
  have := of_decide_eq_true h
  split <;> omega
 ·rename_i h
  have : ¬ (e % 2 ^ 64 >= 2 ^ (64 - 1)) := fun hh => h (decide_eq_true hh)
  split <;> omega
theorem Qgi (b : BitVec 64) : BitVec.ofInt 64 (b.toNat : Int) = b := by
 rw [BitVec.ofInt_natCast, BitVec.ofNat_toNat, BitVec.setWidth_eq]
theorem Qo3 (x y : Int) : BitVec.ofInt 64 (XQ x y) = BitVec.ofInt 64 x &&& BitVec.ofInt 64 y := by
 show BitVec.ofInt 64 (IntKind.i64.wrap ((BitVec.ofInt 64 x &&& BitVec.ofInt 64 y).toNat : Int)) = _
 rw [Qig, BitVec.ofInt_toInt, Qgi]
theorem Qo4 (x y : Int) : BitVec.ofInt 64 (Qe4 x y) = BitVec.ofInt 64 x &&& ~~~ BitVec.ofInt 64 y := by
 show BitVec.ofInt 64 (IntKind.i64.wrap ((BitVec.ofInt 64 x &&& ~~~ BitVec.ofInt 64 y).toNat : Int)) = _
 rw [Qig, BitVec.ofInt_toInt, Qgi]
theorem Qoc {x : Int} (h : I64 x) : IntKind.i64.wrap x = x := Qq h.1 h.2
theorem Qkt {x : Int} (h : I64 x) : (BitVec.ofInt 64 x).toInt = x := by rw [<- Qig, Qoc h]
theorem QjU (x y : Int) : I64 (XQ x y) := Qgw _
theorem QfX (x y : Int) : I64 (Qe4 x y) := Qgw _
def tb (x : Int) (i : Nat) : Bool := (BitVec.ofInt 64 x).getLsbD i
theorem QnC (x y : Int) (i : Nat) : tb (XQ x y) i = (tb x i && tb y i) := by rw [tb, Qo3, BitVec.getLsbD_and]; rfl
theorem Qe1 (x y : Int) {i : Nat} : tb (Qe4 x y) i = (tb x i && !tb y i) := by
 rw [tb, Qo4, BitVec.getLsbD_and, BitVec.getLsbD_not]
 by_cases h : i < 64
 ·simp [h, tb]
 ·simp [tb, BitVec.getLsbD_of_ge _ i (by omega : 64 <= i)]
theorem Qq2 (x : Int) {i : Nat} (h : 64 <= i) : tb x i = false := BitVec.getLsbD_of_ge _ i h
theorem QnD {x y : Int} (hx : I64 x) (hy : I64 y) (h : ∀ i, tb x i = tb y i) : x = y := by
 rw [<- Qkt hx, <- Qkt hy]
 congr 1
 exact BitVec.eq_of_getLsbD_eq fun i _ => h i
theorem Qgu (i : Nat) : tb 0 i = false := by
 show (BitVec.ofInt 64 0).getLsbD i = false
 rw [show BitVec.ofInt 64 0 = 0#64 from rfl, BitVec.getLsbD_zero]
theorem QfM {x : Int} (hx : I64 x) : x = 0 ↔ ∀ i, tb x i = false := by
 constructor
 ·rintro rfl i; exact Qgu i
 ·intro h; exact QnD hx ⟨by omega, by omega⟩ fun i => by rw [h i, Qgu]
theorem Qpo (n : Nat) {i : Nat} (h : i < 64) : tb (n : Int) i = n.testBit i := by
 rw [tb, BitVec.ofInt_natCast, BitVec.getLsbD_ofNat]; simp [h]
theorem Qpp {k : Nat} (hk : k < 64) (i : Nat) : tb ((2 : Int) ^ k) i = decide (i = k) := by
 have e : ((2 ^ k : Nat) : Int) = (2 : Int) ^ k := by simp
 by_cases h : i < 64
 ·rw [<- e, Qpo _ h, Nat.testBit_two_pow]
  exact decide_eq_decide.2 eq_comm
 ·rw [Qq2 _ (by omega)]; exact (decide_eq_false (by omega)).symm
theorem Qdw (x m : Int) : IntKind.i64.wrap (x - XQ x m) = Qe4 x m := by
 have h : BitVec.ofInt 64 (x - XQ x m) = BitVec.ofInt 64 x &&& ~~~ BitVec.ofInt 64 m := by
  rw [Int.sub_eq_add_neg, BitVec.ofInt_add, BitVec.ofInt_neg, <- BitVec.sub_eq_add_neg, Qo3]
  generalize BitVec.ofInt 64 x = a
  generalize BitVec.ofInt 64 m = b
  have h1 : (a &&& ~~~b) + (a &&& b) = a := by
   rw [BitVec.add_eq_or_of_and_eq_zero]
   ·ext i hi; simp; cases a[i] <;> cases b[i] <;> rfl
   ·ext i hi; simp
    cases a[i] <;> cases b[i] <;> simp
  exact (BitVec.sub_eq_iff_eq_add).2 h1.symm
 have e : Qe4 x m = (BitVec.ofInt 64 (Qe4 x m)).toInt := (Qkt (QfX x m)).symm
 rw [e, Qig, h, Qo4]
theorem Y5 {x m : Int} : XQ x m = 0 ↔ ∀ i, tb x i = true -> tb m i = false := by
 rw [QfM (QjU x m)]
 refine forall_congr' fun i => ?_
 rw [QnC]; cases tb x i <;> cases tb m i <;> simp
theorem Qk3 {x m : Int} : Qe4 x m = 0 ↔ ∀ i, tb x i = true -> tb m i = true := by
 rw [QfM (QfX x m)]
 refine forall_congr' fun i => ?_
 rw [Qe1]; cases tb x i <;> cases tb m i <;> simp
theorem Xf {x m : Int} (hx : I64 x) : XQ x m = x ↔ ∀ i, tb x i = true -> tb m i = true := by
 constructor
 ·intro h i hi
  have := congrArg (fun z => tb z i) h
  simp only [QnC, hi, Bool.true_and] at this
  exact this
 ·intro h
  refine QnD (QjU x m) hx fun i => ?_
  rw [QnC]
  cases hx2 : tb x i
  ·rfl
  ·rw [h i hx2]; rfl
theorem QeY {x m : Int} (hx : I64 x) : Qe4 x m = x ↔ ∀ i, tb x i = true -> tb m i = false := by
 constructor
 ·intro h i hi
  have := congrArg (fun z => tb z i) h
  simp only [Qe1, hi, Bool.true_and] at this
  simpa using this
 ·intro h
  refine QnD (QfX x m) hx fun i => ?_
  rw [Qe1]
  cases hx2 : tb x i
  ·rfl
  ·rw [h i hx2]; rfl
def Lo (x : Int) : Prop := 0 <= x /\ x < 131072
theorem Lo.i64 {x : Int} (h : Lo x) : I64 x := ⟨by have := h.1; omega, by have := h.2; omega⟩
theorem Lo.hi {x : Int} (h : Lo x) {i : Nat} (hi : 17 <= i) : tb x i = false := by
 obtain ⟨n, rfl⟩ := Int.eq_ofNat_of_zero_le h.1
 by_cases h6 : i < 64
 ·rw [Qpo _ h6, Nat.testBit_lt_two_pow]
  have h1 : (2 : Nat) ^ 17 <= 2 ^ i := Nat.pow_le_pow_right (by omega) hi
  have h2 : (2 : Nat) ^ 17 = 131072 := by decide
  have := h.2
  omega
 ·exact Qq2 _ (by omega)
theorem Lo.of {x : Int} (hx : I64 x) (h : ∀ i, 17 <= i -> tb x i = false) : Lo x := by
 have hb : (BitVec.ofInt 64 x).toNat < 2 ^ 17 := by
  refine Nat.lt_pow_two_of_testBit _ fun i hi => ?_
  exact h i hi
 have h2 : (2 : Nat) ^ 17 = 131072 := by decide
 have e := Qkt hx
 rw [BitVec.toInt_eq_toNat_of_lt (by omega)] at e
 exact ⟨by omega, by omega⟩
theorem QqO {x : Int} (h : Lo x) (m : Int) : Lo (Qe4 x m) := Lo.of (QfX x m) fun i hi => by rw [Qe1, h.hi hi]; rfl
theorem QpV (w : Qn) (u : Int) : Lo (Y0 w u) := ⟨(QdZ w u).1, by have := (QdZ w u).2; omega⟩
theorem QoP {x : Int} (hx : I64 x) (m : Int) : QaO x m = ZO x m := by
 unfold ZO QaO
 have : (Qat .andNot .i64 x m = 0) ↔ (Qat .and .i64 x m = x) := (Qk3 (x := x) (m := m)).trans (Xf hx).symm
 by_cases h : Qat .andNot .i64 x m = 0
 ·rw [if_pos h, if_pos (this.1 h)]
 ·rw [if_neg h, if_neg (fun e => h (this.2 e))]
theorem Qax {x : Int} {k : Nat} (hk : k < 64) : XQ x (2 ^ k) = 0 ↔ tb x k = false := by
 rw [Y5]
 constructor
 ·intro h
  cases hx : tb x k
  ·rfl
  ·have := h k hx; rw [Qpp hk] at this; simp at this
 ·intro h i hi
  rw [Qpp hk]
  by_cases e : i = k
  ·subst e; rw [h] at hi; cases hi
  ·exact decide_eq_false e
theorem QiE {x y : Int} (h : ∀ i, tb x i = true -> tb y i = true) : ∀ n, n <= 64 -> (Xg x n).length <= (Xg y n).length
 | 0, _ => Nat.le_refl _
 | n + 1, hn => by
  have := QiE h n (by omega)
  rw [Xg, Xg, List.length_append, List.length_append]
  by_cases hx : tb x n = true
  ·rw [if_neg (by rw [Qax (by omega), hx]; simp), if_neg (by rw [Qax (by omega), h n hx]; simp)]
   simp only [List.length_singleton]; omega
  ·rw [if_pos (by rw [Qax (by omega)]; simpa using hx)]
   simp only [List.length_nil]; omega
theorem QiF {x y : Int} (h : ∀ i, tb x i = true -> tb y i = true) {k : Nat} (h1 : tb x k = false) (h2 : tb y k = true) : ∀ n, n <= 64 -> k < n -> (Xg x n).length < (Xg y n).length
 | 0, _, hk => by omega
 | n + 1, hn, hk => by
  rw [Xg, Xg, List.length_append, List.length_append]
  by_cases e : k = n
  ·subst e
   have := QiE h k (by omega)
   rw [if_pos ((Qax (by omega)).2 h1), if_neg (by rw [Qax (by omega), h2]; simp)]
   simp only [List.length_nil, List.length_singleton]; omega
  ·have := QiF h h1 h2 n (by omega) (by omega)
   by_cases hx : tb x n = true
   ·rw [if_neg (by rw [Qax (by omega), hx]; simp), if_neg (by rw [Qax (by omega), h n hx]; simp)]
    simp only [List.length_singleton]; omega
   ·rw [if_pos (by rw [Qax (by omega)]; simpa using hx)]
    simp only [List.length_nil]; omega
theorem QpP {x m : Int} (hx : Lo x) (h : XQ x m ≠ 0) : (Qbx (Qe4 x m)).length < (Qbx x).length := by
 have : ∃ k, tb x k = true /\ tb m k = true := by
  refine Classical.byContradiction fun hn => h (Y5.2 fun i hi => ?_)
  cases hm : tb m i
  ·rfl
  ·exact absurd ⟨i, hi, hm⟩ hn
 obtain ⟨k, h1, h2⟩ := this
 have hk : k < 17 := Classical.byContradiction fun hk => by rw [hx.hi (by omega)] at h1; cases h1
 exact QiF (fun i hi => by rw [Qe1] at hi; simp at hi; exact hi.1) (k := k) (by rw [Qe1, h1, h2]; rfl) h1 17 (by omega) hk
end M25
namespace M25
open Go Go.Abs M3
/-! ### Trails: the loops' laws -/
theorem Qa4 (w : Qn) (l : List StepT) (s : StepT) (u : Int) : Zg w (l ++ [s]) u = if s.u = u /\ inW w u = true then s.m else Zg w l u := by
 rw [Zg, List.foldl_append]; rfl
theorem Qek {α : Type} {l : List α} {i k : Nat} (hk : k + 1 = i) (h : k < l.length) : l.take i = l.take k ++ [l[k]] := by
 subst hk; rw [List.take_succ_eq_append_getElem h]
theorem Qon {w : Qn} {l : List StepT} {u : Int} {i k : Nat} (hk : k + 1 = i) (h : k < l.length) (hu : l[k].u = u) (hw : inW w u = true) : Zg w (l.take i) u = l[k].m := by
 rw [Qek hk h, Qa4, if_pos ⟨hu, hw⟩]
theorem Qf4 {w : Qn} {l : List StepT} {u : Int} {i k : Nat} (hk : k + 1 = i) (h : k < l.length) (hu : ¬ l[k].u = u \/ ¬ 0 <= u \/ ¬ u < w.length) : Zg w (l.take i) u = Zg w (l.take (i - 1)) u := by
 rw [Qek hk h, Qa4, if_neg, show i - 1 = k by omega]
 rintro ⟨h1, h2⟩
 rw [Qbq] at h2
 rcases hu with hu | hu | hu
 ·exact hu h1
 ·exact hu h2.1
 ·exact hu h2.2
theorem QdW {w : Qn} {l : List StepT} {u : Int} (h : inW w u = false) : Zg w l u = 0 := by
 have hf : Y0 w u = 0 := Qd0 (by
  refine Classical.byContradiction fun hn => ?_
  rw [Qc7 (by omega) (by omega)] at h; cases h)
 suffices hs : ∀ a, l.foldl (fun a s => if s.u = u /\ inW w u = true then s.m else a) a = a by rw [Zg, hs, hf]
 induction l with
 | nil => intro a; rfl
 | cons s l ih => intro a; rw [List.foldl_cons, if_neg (by rw [h]; simp), ih]
def Qcl (w : Qn) (l : List StepT) (u : Int) : Int := l.foldl (fun a s => if s.u = u then s.m else a) (Y0 w u)
theorem Qol {w : Qn} {l : List StepT} {u : Int} (h : inW w u = true) : Qcl w l u = Zg w l u := by
 unfold Qcl Zg
 simp only [h, and_true]
theorem QgY (w : Qn) (l : List StepT) (s : StepT) (u : Int) : Qcl w (l ++ [s]) u = if s.u = u then s.m else Qcl w l u := by
 rw [Qcl, List.foldl_append]; rfl
theorem QmH {w : Qn} {l : List StepT} {u : Int} {i k : Nat} (hk : k + 1 = i) (h : k < l.length) (hu : l[k].u = u) : Qcl w (l.take i) u = l[k].m := by
 rw [Qek hk h, QgY, if_pos hu]
theorem QlF {w : Qn} {l : List StepT} {u : Int} {i k : Nat} (hk : k + 1 = i) (h : k < l.length) (hu : ¬ l[k].u = u) : Qcl w (l.take i) u = Qcl w (l.take (i - 1)) u := by
 rw [Qek hk h, QgY, if_neg hu, show i - 1 = k by omega]
theorem QfQ {w : Qn} {u : Int} : Y0 w u = 0 ↔ inW w u = false := by
 constructor
 ·intro h
  cases hw : inW w u
  ·rfl
  ·rw [Qbq] at hw
   rw [QhU hw.1 hw.2] at h
   have h2 : 2 <= (2 : Int) ^ (min (w[u.toNat]'(by omega)).cs.length 16 + 1) := by
    rw [Int.pow_succ]
    have := Qp2 (n := min (w[u.toNat]'(by omega)).cs.length 16) (by omega)
    omega
   omega
 ·intro h
  refine Qd0 (Classical.byContradiction fun hn => ?_)
  rw [Qc7 (by omega) (by omega)] at h; cases h
theorem QiU {l : List StepT} (h : (l.length : Int) = 0) : Xz l = 0 := by
 have e : l = [] := List.eq_nil_of_length_eq_zero (by omega)
 subst e; rfl
theorem QkP {l : List StepT} {k : Nat} (hk : k + 1 = l.length) : Xz l = (l[k]'(by omega)).l := by
 rw [Xz, List.getLast?_eq_getElem?, show l.length - 1 = k by omega, List.getElem?_eq_getElem (by omega)]
theorem Qoy : ∀ {l : List Int}, ¬ (l.length : Int) = 1 -> Qp0 l = -1
 | [], _ => rfl
 | [x], h => by simp at h
 | x :: y :: l, _ => rfl
theorem Qm3 : ∀ {l : List Int} (h : (l.length : Int) = 1), Qp0 l = l[(0 : Int).toNat]'(by simp; omega)
 | [], h => by simp at h
 | [x], _ => rfl
 | x :: y :: l, h => by simp at h; omega
theorem QoD {m : Int} (h : ¬ ((Qbx m).length : Int) = 1) : Qgd m = -1 := Qoy h
theorem Qm8 {m : Int} (h : ((Qbx m).length : Int) = 1) : Qgd m = (Qbx m)[(0 : Int).toNat]'(by simp; omega) := Qm3 h
theorem Qhj {α : Type} {f : α -> List D} {l : List α} {i : Nat} : ((l.map f).take ((i : Nat) : Int).toNat).drop (((0 : Nat) : Int)).toNat = (l.take i).map f := by simp [List.map_take]
def Qov (w : Qn) (l : List StepT) (i : Nat) : Bool := match l[i]? with
 | some s => Qd4 w (l.take i) s
 | none => true
theorem Qbz {w : Qn} {l : List StepT} {i : Nat} (h : i < l.length) : Qov w l i = Qd4 w (l.take i) l[i] := by
 rw [Qov, List.getElem?_eq_getElem h]
theorem Qfn (w : Qn) (l : List StepT) : Qdr w l = (List.range l.length).all (Qov w l) := rfl
theorem Xt {w : Qn} {l : List StepT} {s : StepT} (h : s.u < 0 \/ (w.length : Int) <= s.u \/ s.c < -1) : Qd4 w l s = false := by
 unfold Qd4
 rcases h with h | h | h
 ·rw [Qbr (.inl h)]; rfl
 ·rw [Qbr (.inr h)]; rfl
 ·rw [decide_eq_false (show ¬ -1 <= s.c by omega)]; simp
theorem Yd {w : Qn} {l : List StepT} {s : StepT} (h0 : 0 <= s.u) (h1 : s.u < w.length) (h2 : -1 <= s.c) : Qd4 w l s = (decide (XQ s.m (Zg w l s.u) = s.m) &&
  if s.c = -1 then decide (0 <= Qgd s.m) && !QdY l s.u && decide (s.l = IntKind.i64.wrap (Xz l + 1))
  else !decide (s.m = 0) && !decide (s.m = Zg w l s.u) && decide (s.l = Xz l)) := by
 rw [Qd4, Qc7 h0 h1, decide_eq_true h2]; rfl
theorem Qcx {w : Qn} {l : List StepT} {t : TermT} {c : Int} (h : c < 0 \/ t.u < 0 \/ (w.length : Int) <= t.u) : Yn w l t c = none := by
 rw [Yn, if_pos]
 rcases h with h | h
 ·exact .inl h
 ·exact .inr (Qbr h)
theorem Qbk {w : Qn} {l : List StepT} {t : TermT} {c : Int} (h : IntKind.i64.wrap (Zg w l t.u - XQ (Zg w l t.u) t.m) = 0 \/ IntKind.i64.wrap (Zg w l t.u - XQ (Zg w l t.u) t.m) = Zg w l t.u) : Yn w l t c = none := by
 rw [Yn]
 split
 ·rfl
 ·first | rfl | rw [if_pos h]
theorem QgQ {w : Qn} {l : List StepT} {t : TermT} {c : Int} (h0 : ¬ c < 0) (h1 : inW w t.u = true) (h2 : ¬ IntKind.i64.wrap (Zg w l t.u - XQ (Zg w l t.u) t.m) = 0) (h3 : ¬ IntKind.i64.wrap (Zg w l t.u - XQ (Zg w l t.u) t.m) = Zg w l t.u) :
  Yn w l t c = some (l ++ [⟨t.u, IntKind.i64.wrap (Zg w l t.u - XQ (Zg w l t.u) t.m), Xz l, c⟩]) := by
 rw [Yn, if_neg (by rw [h1]; simp [h0]), if_neg (by simp [h2, h3])]
theorem QgP (w : Qn) (l : List StepT) (t : TermT) (c : Int) : ((Yn w l t c).getD []).length <= l.length + 1 := by
 unfold Yn
 split
 ·simp
 ·split <;> simp
def Y8 (w : Qn) (l : List StepT) : Prop := ∀ s ∈ l, Lo s.m
theorem QaN {w : Qn} {l : List StepT} (h : Y8 w l) (u : Int) : Lo (Zg w l u) := by
 suffices hs : ∀ (l : List StepT) a, (∀ s ∈ l, Lo s.m) -> Lo a -> Lo (l.foldl (fun a s => if s.u = u /\ inW w u = true then s.m else a) a) from hs l _ h (QpV w u)
 intro l
 induction l with
 | nil => intro a _ h; exact h
 | cons s l ih =>
  intro a hl ha
  rw [List.foldl_cons]
  refine ih _ (fun t ht => hl t (by simp [ht])) ?_
  split
  ·exact hl s (by simp)
  ·exact ha
theorem Qmi {w : Qn} {l : List StepT} {t : TermT} {c : Int} (hl : Y8 w l) (h : XQ (Zg w l t.u) t.m = 0) : Yn w l t c = none :=
 Qbk (.inr (by rw [Qdw, QeY (QaN hl _).i64, <- Y5]; exact h))
theorem Qmj {w : Qn} {l : List StepT} {t : TermT} {c : Int} (h : Qe4 (Zg w l t.u) t.m = 0) : Yn w l t c = none :=
 Qbk (.inl (by rw [Qdw]; exact h))
theorem QiD {w : Qn} {l : List StepT} {t : TermT} {c : Int} (hl : Y8 w l) (h0 : ¬ c < 0) (h1 : ¬ XQ (Zg w l t.u) t.m = 0) (h2 : ¬ Qe4 (Zg w l t.u) t.m = 0) : Yn w l t c = some (l ++ [⟨t.u, Qe4 (Zg w l t.u) t.m, Xz l, c⟩]) := by
 have hin : inW w t.u = true := by
  cases hw : inW w t.u
  ·rw [QdW hw] at h1
   exact absurd (Y5.2 fun i hi => by rw [Qgu] at hi; cases hi) h1
  ·rfl
 rw [QgQ h0 hin (by rw [Qdw]; exact h2) (by rw [Qdw, QeY (QaN hl _).i64, <- Y5]; exact h1), Qdw]
theorem Qew {w : Qn} {l : List StepT} {u p : Int} (h : (u < 0 \/ (w.length : Int) <= u) \/ p < 0) : Xp w l u p = none := by
 unfold Xp
 split
 ·rfl
 ·rename_i x hx
  rcases h with h | h
  ·rw [Qif h] at hx; cases hx
  ·rw [if_pos (.inl h)]
theorem Qlr {w : Qn} {l : List StepT} {u p : Int} (h0 : 0 <= u) (h1 : u < w.length) (h : ((w[u.toNat]'(by omega)).cs.length : Int) <= p) : Xp w l u p = none := by
 rw [Xp, Qhl h0 h1]
 simp only []
 rw [if_pos (.inr h)]
def QpO (l : List StepT) (u p : Int) : StepT := ⟨u, IntKind.i64.wrap (2 * 2 ^ min p.toNat 64), IntKind.i64.wrap (Xz l + 1), -1⟩
theorem Qmh {w : Qn} {l : List StepT} {u p : Int} (h : Qd4 w l (QpO l u p) = false) : Xp w l u p = none := by
 unfold Xp
 split
 ·rfl
 ·split
  ·rfl
  ·simp only [QpO] at h
   rw [if_neg (by rw [h]; simp)]
theorem Qlu {w : Qn} {l : List StepT} {u p : Int} (h0 : 0 <= u) (h1 : u < w.length) (h2 : ¬ p < 0) (h3 : ¬ ((w[u.toNat]'(by omega)).cs.length : Int) <= p) (h : Qd4 w l (QpO l u p) = true) : Xp w l u p = some (l ++ [QpO l u p]) := by
 rw [Xp, Qhl h0 h1]
 simp only []
 rw [if_neg (by omega)]
 simp only [QpO] at h ⊢
 rw [if_pos h]
theorem QbA {h : Int -> Int} {inc : List TermT} {a : Int} {i : Nat} (hi : i < inc.length) : ZS h (inc.drop i) a = if ZO (h inc[i].u) inc[i].m = 0 then -1 else if ZO (h inc[i].u) inc[i].m = 1 then (if 0 <= a then -1 else ZS h (inc.drop (i + 1)) inc[i].u) else ZS h (inc.drop (i + 1)) a := by
 rw [List.drop_eq_getElem_cons hi, ZS]
theorem Qi7 {h : Int -> Int} {inc : List TermT} {a : Int} {i : Nat} (hi : inc.length <= i) : ZS h (inc.drop i) a = a := by
 rw [List.drop_eq_nil_of_le hi, ZS]
theorem Qkd {w : Qn} {l : List StepT} {db : List (List TermT)} {i : Nat} (hi : i < db.length) : YJ w l i (db.drop i) = if Qe9 w l db[i] = true then ((i : Int), -1) else if 0 <= Qe8 w l db[i] then ((i : Int), Qe8 w l db[i]) else YJ w l (i + 1) (db.drop (i + 1)) := by
 rw [List.drop_eq_getElem_cons hi, YJ]
theorem QoI {w : Qn} {l : List StepT} {db : List (List TermT)} {i : Nat} (hi : db.length <= i) : YJ w l i (db.drop i) = (-1, -1) := by
 rw [List.drop_eq_nil_of_le hi, YJ]
theorem Qeg (w : Qn) (l : List StepT) : ∀ (db : List (List TermT)) (i : Nat), (YJ w l i db = (-1, -1)) \/ ∃ k, i <= k /\ ∃ hk : k - i < db.length, (YJ w l i db = ((k : Int), -1) /\ Qe9 w l db[k - i] = true) \/ (Qe9 w l db[k - i] = false /\ 0 <= Qe8 w l db[k - i] /\ YJ w l i db = ((k : Int), Qe8 w l db[k - i]))
 | [], i => .inl rfl
 | x :: db, i => by
  rw [YJ]
  by_cases h1 : Qe9 w l x = true
  ·rw [if_pos h1]; exact .inr ⟨i, Nat.le_refl _, by simp, .inl ⟨rfl, by simpa using h1⟩⟩
  ·rw [if_neg h1]
   by_cases h2 : 0 <= Qe8 w l x
   ·rw [if_pos h2]; exact .inr ⟨i, Nat.le_refl _, by simp, .inr ⟨by simpa using h1, by simpa using h2, by simp⟩⟩
   ·rw [if_neg h2]
    rcases Qeg w l db (i + 1) with h | ⟨k, hk, hlt, h⟩
    ·exact .inl h
    ·refine .inr ⟨k, by omega, by simp only [List.length_cons]; omega, ?_⟩
     have e : (x :: db)[k - i]'(by simp only [List.length_cons]; omega) = db[k - (i + 1)] := by
      obtain ⟨j, hj⟩ : ∃ j, k - i = j + 1 := ⟨k - i - 1, by omega⟩
      simp only [hj, List.getElem_cons_succ]
      congr 1; omega
     rw [e]; exact h
theorem Qjj {w : Qn} {l : List StepT} {db : List (List TermT)} (h : ¬ (ZD w db l).2 < 0) : 0 <= (ZD w db l).1 /\ (ZD w db l).1 < db.length := by
 unfold ZD at h ⊢
 rcases Qeg w l db 0 with e | ⟨k, _, hk, ⟨e, _⟩ | ⟨_, _, e⟩⟩
 ·rw [e] at h; simp at h
 ·rw [e] at h; simp at h
 ·rw [e]; simp only; omega
theorem QcI {w : Qn} {db : List (List TermT)} {n : Nat} {out : List StepT} (h : (ZD w db out).2 < 0) (hn : 0 < n) : QbD w db n out = (out, (ZD w db out).1) := by
 obtain ⟨m, rfl⟩ : ∃ m, n = m + 1 := ⟨n - 1, by omega⟩
 rw [QbD, if_pos h]
theorem Qla {w : Qn} {db : List (List TermT)} {n : Nat} {out : List StepT} (h : ¬ (ZD w db out).2 < 0) (hn : 0 < n) (hd : (ZD w db out).1.toNat < db.length) : QbD w db n out = QbD w db (n - 1) ((Yn w out ⟨(ZD w db out).2, Qdq w db[(ZD w db out).1.toNat] (ZD w db out).2⟩ (ZD w db out).1).getD []) := by
 obtain ⟨m, rfl⟩ : ∃ m, n = m + 1 := ⟨n - 1, by omega⟩
 rw [QbD, if_neg h, List.getD_eq_getElem?_getD, List.getElem?_eq_getElem hd]; rfl
end M25
namespace Go.Proofs
open Go Go.Abs M3 M25
set_option linter.unusedVariables false
set_option linter.unusedSimpArgs false
theorem ZM {w : Qn} (hw : WSm w) {l : List StepT} (hl : l.length <= 10000000) {u : Int} : Ok Tryz.prog 26 [ZI w, Zp l, .int .i64 u] (.int .i64 (Zg w l u)) := by
 refine Ok.ofT ZP Tryz.func26 Qsm (Nat.le_of_ble_eq_true rfl) ?_
 show TW _ _ tf26.body _ _
 refine Qf fun K hK => Zr rfl rfl rfl (Qa rfl ?_)
 refine hK _ _ (Qb (kp3 rfl rfl rfl) ?_)
 refine Qz ?_ -- 0
 refine Qf fun K hK => Qa rfl ?_
 first | refine QO rfl QP ?_ | refine QO rfl rfl ?_
 refine Qas rfl rfl (by first | exact Qq (by omega) (by omega) | rfl) (Qa rfl ?_)
 refine hK _ _ (Qb (kp4 rfl rfl rfl rfl) ?_)
 refine Qy ?_
 refine Zi (ι := Nat) (fun i => ⟨[(1, Zp l), (2, .int .i64 u), (3, .ref 3 0 0), (7, .int .i64 ((i : Int) - 1))], [(3, ⟨[[.sl ((w).map Z8)]], 1, 26, true⟩)]⟩) (fun i => i <= l.length /\ Zg w l u = Zg w (l.take i) u) (fun i => i) l.length ?_ ?_ ?_
 ·exact QX (l := [1, 2, 3, 7]) (lH := [3]) (kp4 rfl rfl rfl rfl) (Qe rfl Ql) rfl rfl rfl
 ·exact ⟨Nat.le_refl _, by rw [List.take_length]⟩
 intro i hI
 try dsimp only
 refine Qz ?_ -- 1
 refine Qf fun K hK => Qa rfl (Qen rfl rfl ?_)
 refine hK _ _ (Qb (kp5 rfl rfl rfl rfl rfl) ?_)
 refine Qw rfl (fun h1 => ?_) (fun h1 => ?_)
 ·try rw [h1]
  try simp only [qa, qb, qc, qd, qe, List.length_map] at h1
  refine Qv (Qd (kp4 rfl rfl rfl rfl) ?_)
  refine Qz ?_ -- 2
  refine Qy (Qf fun K hK => Qa rfl (Qa rfl (QK rfl rfl rfl (by omega) (Zu (by omega) (by omega)) rfl (Q6 rfl rfl (QC rfl rfl rfl (Qa rfl (ZL rfl rfl (Qa rfl ?_))))))))
  refine QF (g := 22) rfl (fun h2 => ?_) (fun h2 => ?_)
  ·try rw [h2]
   try simp only [qa, qb, qc, qd, qe, List.length_map] at h2
   refine Qk rfl (Qa rfl (Qk rfl (Qen rfl rfl (Qm rfl rfl (Qa rfl ?_)))))
   refine QF (g := 26) rfl (fun h3 => ?_) (fun h3 => ?_)
   ·try rw [h3]
    try simp only [qa, qb, qc, qd, qe, List.length_map] at h3
    refine Qk rfl (Qa rfl (Qk rfl (Qh rfl rfl (Qk rfl (QC rfl rfl rfl (Qk rfl ?_))))))
    first | refine QO rfl QP ?_ | refine QO rfl rfl ?_
    refine Qk rfl (ZW rfl rfl (Qm rfl rfl ?_))
    refine hK _ _ (Qb (kp5 rfl rfl rfl rfl rfl) ?_)
    refine Qw rfl (fun h4 => ?_) (fun h4 => ?_)
    ·try rw [h4]
     try simp only [qa, qb, qc, qd, qe, List.length_map] at h4
     refine Qf fun K hK => Qa rfl (Qa rfl (QK rfl rfl rfl (by omega) (Zu (by omega) (by omega)) rfl (Q6 rfl rfl (QC rfl rfl rfl (Qa rfl ?_)))))
     refine hK _ _ (Qb (kp1 rfl) ?_)
     refine Qu (Qr (Qj (QW (Qr (Qj (QD rfl ?_))))))
     rw [hI.2, Qon (k := ((i : Int) - 1).toNat) (by omega) (by omega) h2 (Qc7 (by omega) (by omega))]
    ·try rw [h4]
     try simp only [qa, qb, qc, qd, qe, List.length_map] at h4
     refine Qv (Qg (Qd (kp4 rfl rfl rfl rfl) (QL fun K hK => Qa rfl (Qas rfl rfl (by first | exact Qq (by omega) (by omega) | rfl) (Qa rfl (hK _ ?_))))))
     refine Qi (i - 1) ?_ ?_ ?_
     ·exact QX (l := [1, 2, 3, 7]) (lH := [3]) (kp4 rfl rfl rfl rfl) (Qe rfl Ql) (by simp only [List.cons.injEq, Prod.mk.injEq, D.int.injEq, and_true, true_and]; omega) rfl rfl
     ·exact ⟨by omega, by rw [hI.2, Qf4 (k := ((i : Int) - 1).toNat) (by omega) (by omega) (by first | exact .inl h2 | exact .inr (.inl h3) | exact .inr (.inr h4))]⟩
     ·first | omega | (simp only; omega) | (dsimp only; omega)
   ·try rw [h3]
    try simp only [qa, qb, qc, qd, qe, List.length_map] at h3
    refine Qt rfl (Qt rfl (Qt rfl (Qt rfl (Qt rfl (Qm rfl rfl ?_)))))
    refine hK _ _ (Qb (kp5 rfl rfl rfl rfl rfl) ?_)
    refine Zz rfl (Qv (Qg (Qd (kp4 rfl rfl rfl rfl) (QL fun K hK => Qa rfl (Qas rfl rfl (by first | exact Qq (by omega) (by omega) | rfl) (Qa rfl (hK _ ?_)))))))
    refine Qi (i - 1) ?_ ?_ ?_
    ·exact QX (l := [1, 2, 3, 7]) (lH := [3]) (kp4 rfl rfl rfl rfl) (Qe rfl Ql) (by simp only [List.cons.injEq, Prod.mk.injEq, D.int.injEq, and_true, true_and]; omega) rfl rfl
    ·exact ⟨by omega, by rw [hI.2, Qf4 (k := ((i : Int) - 1).toNat) (by omega) (by omega) (by first | exact .inl h2 | exact .inr (.inl h3) | exact .inr (.inr h4))]⟩
    ·first | omega | (simp only; omega) | (dsimp only; omega)
  ·try rw [h2]
   try simp only [qa, qb, qc, qd, qe, List.length_map] at h2
   refine Qt rfl (Qt rfl (Qm rfl rfl (Qa rfl (Qt rfl (Qt rfl (Qt rfl (Qt rfl (Qt rfl (Qm rfl rfl ?_)))))))))
   refine hK _ _ (Qb (kp5 rfl rfl rfl rfl rfl) ?_)
   refine Zz rfl (Qv (Qg (Qd (kp4 rfl rfl rfl rfl) (QL fun K hK => Qa rfl (Qas rfl rfl (by first | exact Qq (by omega) (by omega) | rfl) (Qa rfl (hK _ ?_)))))))
   refine Qi (i - 1) ?_ ?_ ?_
   ·exact QX (l := [1, 2, 3, 7]) (lH := [3]) (kp4 rfl rfl rfl rfl) (Qe rfl Ql) (by simp only [List.cons.injEq, Prod.mk.injEq, D.int.injEq, and_true, true_and]; omega) rfl rfl
   ·exact ⟨by omega, by rw [hI.2, Qf4 (k := ((i : Int) - 1).toNat) (by omega) (by omega) (by first | exact .inl h2 | exact .inr (.inl h3) | exact .inr (.inr h4))]⟩
   ·first | omega | (simp only; omega) | (dsimp only; omega)
 ·try rw [h1]
  try simp only [qa, qb, qc, qd, qe, List.length_map] at h1
  refine Za (QJ (Qx (QB (Qd (kp2 rfl rfl) (Qf fun K hK => QG (cs := [_]) rfl rfl rfl rfl (Qa rfl (QH (ZA hw) rfl rfl (.inr rfl) (Qa rfl ?_))))))))
  refine hK _ _ (Qb (kp1 rfl) ?_)
  refine Qu (QD rfl ?_)
  rw [hI.2, show i = 0 by omega]; rfl
theorem Yh {l : List StepT} (hl : l.length <= 10000000) : Ok Tryz.prog 25 [Zp l] (.int .i64 (Xz l)) := by
 refine Ok.ofT ZP Tryz.func25 Qsl (Nat.le_of_ble_eq_true rfl) ?_
 show TW _ _ tf25.body _ _
 refine Qf fun K hK => Qa rfl ?_
 refine hK _ _ (Qb (kp1 rfl) ?_)
 refine Qz ?_ -- 0
 refine Qf fun K hK => Qa rfl ?_
 first | refine QO rfl QP ?_ | refine QO rfl rfl ?_
 refine ZL rfl rfl ?_
 refine hK _ _ (Qb (kp2 rfl rfl) ?_)
 refine Qw rfl (fun h1 => ?_) (fun h1 => ?_)
 ·try rw [h1]
  try simp only [qa, qb, qc, qd, qe, List.length_map] at h1
  refine Qf fun K hK => Qa rfl ?_
  refine hK _ _ (Qb (kp1 rfl) ?_)
  refine Qu (Qj (QD rfl ?_))
  rw [QiU h1]
 ·try rw [h1]
  try simp only [qa, qb, qc, qd, qe, List.length_map] at h1
  refine Qv (Qd (kp1 rfl) (Qf fun K hK => Qa rfl (Qa rfl ?_)))
  first | refine QO rfl QP ?_ | refine QO rfl rfl ?_
  refine Qas rfl rfl (by first | exact Qq (by omega) (by omega) | rfl) (QK rfl rfl rfl (by omega) (Zu (by omega) (by omega)) rfl (Q6 rfl rfl (QC rfl rfl rfl (Qa rfl ?_))))
  refine hK _ _ (Qb (kp1 rfl) ?_)
  refine Qu (QD rfl ?_)
  rw [QkP (k := ((l.length : Int) - 1).toNat) (by omega)]
theorem Qbg {l : List StepT} (hl : l.length <= 10000000) {u : Int} : Ok Tryz.prog 69 [Zp l, .int .i64 u] (.bool (QdY l u)) := by
 refine Ok.ofT ZP Tryz.func69 Qs2 (Nat.le_of_ble_eq_true rfl) ?_
 show TW _ _ tf69.body _ _
 refine Qf fun K hK => Qa rfl ?_
 refine hK _ _ (Qb (kp2 rfl rfl) ?_)
 refine Qz ?_ -- 0
 refine Qf fun K hK => Qa rfl ?_
 refine hK _ _ (Qb (kp3 rfl rfl rfl) ?_)
 refine Qy ?_
 refine Zi (ι := Nat) (fun i => ⟨[(0, Zp l), (1, .int .i64 u), (5, .int .i64 i)], []⟩) (fun i => i <= l.length /\ (l.take i).any (fun s => decide (s.u = u) && decide (s.c = -1)) = false) (fun i => l.length - i) 0 ?_ ?_ ?_
 ·exact Zd (kp3 rfl rfl rfl)
 ·exact ⟨Nat.zero_le _, by simp⟩
 intro i hI
 try dsimp only
 refine Qz ?_ -- 1
 refine Qf fun K hK => Qa rfl (Qa rfl ?_)
 first | refine QO rfl QP ?_ | refine QO rfl rfl ?_
 refine ZW rfl rfl ?_
 refine hK _ _ (Qb (kp4 rfl rfl rfl rfl) ?_)
 refine Qw rfl (fun h1 => ?_) (fun h1 => ?_)
 ·try rw [h1]
  try simp only [qa, qb, qc, qd, qe, List.length_map] at h1
  refine Qv (Qd (kp3 rfl rfl rfl) ?_)
  refine Qz ?_ -- 2
  refine Qy (Qf fun K hK => Qa rfl (Qa rfl (QK rfl rfl rfl (by omega) (QS (by omega)) rfl (Q6 rfl rfl (QC rfl rfl rfl (Qa rfl (ZL rfl rfl (Qa rfl ?_))))))))
  refine QF (g := 19) rfl (fun h2 => ?_) (fun h2 => ?_)
  ·try rw [h2]
   try simp only [qa, qb, qc, qd, qe, List.length_map] at h2
   refine Qk rfl (Qa rfl (Qk rfl (Qa rfl (Qk rfl (QK rfl rfl rfl (by omega) (QS (by omega)) rfl (Qk rfl (Q6 rfl rfl (Qk rfl (QC rfl rfl rfl (Qk rfl (ZL rfl rfl ?_)))))))))))
   refine Qm rfl rfl ?_
   refine hK _ _ (Qb (kp4 rfl rfl rfl rfl) ?_)
   refine Qw rfl (fun h3 => ?_) (fun h3 => ?_)
   ·try rw [h3]
    try simp only [qa, qb, qc, qd, qe, List.length_map] at h3
    refine Qf fun K hK => Qa rfl ?_
    refine hK _ _ (Qb (kp1 rfl) ?_)
    refine Qu (Qr (Qj (QW (Qr (Qj (Qs rfl ?_))))))
    rw [QdY, QjF (i := i) (by omega) (by simp [h2, h3])]
   ·try rw [h3]
    try simp only [qa, qb, qc, qd, qe, List.length_map] at h3
    refine Qv (Qg (Qd (kp3 rfl rfl rfl) (QL fun K hK => Qa rfl (QY rfl rfl (by first | exact Qq (by omega) (by omega) | rfl) (Qa rfl (hK _ ?_))))))
    refine Qi (i + 1) ?_ ?_ ?_
    ·exact Zd (kp3 rfl rfl rfl)
    ·exact ⟨by omega, Qiq (by omega) hI.2 (by first | (simp [h2, h3]; done) | (simp [h2]; done))⟩
    ·first | omega | (simp only; omega) | (dsimp only; omega)
  ·try rw [h2]
   try simp only [qa, qb, qc, qd, qe, List.length_map] at h2
   refine Qt rfl (Qt rfl (Qt rfl (Qt rfl (Qt rfl (Qt rfl (Qm rfl rfl ?_))))))
   refine hK _ _ (Qb (kp4 rfl rfl rfl rfl) ?_)
   refine Zz rfl (Qv (Qg (Qd (kp3 rfl rfl rfl) (QL fun K hK => Qa rfl (QY rfl rfl (by first | exact Qq (by omega) (by omega) | rfl) (Qa rfl (hK _ ?_)))))))
   refine Qi (i + 1) ?_ ?_ ?_
   ·exact Zd (kp3 rfl rfl rfl)
   ·exact ⟨by omega, Qiq (by omega) hI.2 (by first | (simp [h2, h3]; done) | (simp [h2]; done))⟩
   ·first | omega | (simp only; omega) | (dsimp only; omega)
 ·try rw [h1]
  try simp only [qa, qb, qc, qd, qe, List.length_map] at h1
  refine Za (QJ (Qx (QB (Qd (Q2) (Qf fun K hK => Qa rfl ?_)))))
  refine hK _ _ (Qb (kp1 rfl) ?_)
  refine Qu (Qs rfl ?_)
  rw [QdY, Ql7 (i := i) (by omega) hI.2]
theorem Qb4 {m : Int} : Ok Tryz.prog 68 [.int .i64 m] (.int .i64 (Qgd m)) := by
 refine Ok.ofT ZP Tryz.func68 Qs1 (Nat.le_of_ble_eq_true rfl) ?_
 show TW _ _ tf68.body _ _
 refine Qf fun K hK => Qa rfl ?_
 refine hK _ _ (Qb (kp1 rfl) ?_)
 refine Qf fun K hK => Qa rfl (QH (XT) rfl rfl (.inl rfl) (Qa rfl ?_))
 refine hK _ _ (Qb (kp1 rfl) ?_)
 refine Qz ?_ -- 0
 refine Qf fun K hK => Qa rfl ?_
 first | refine QO rfl QP ?_ | refine QO rfl rfl ?_
 refine X1 rfl rfl ?_
 refine hK _ _ (Qb (kp2 rfl rfl) ?_)
 refine Qw rfl (fun h1 => ?_) (fun h1 => ?_)
 ·try rw [h1]
  try simp only [qa, qb, qc, qd, qe, List.length_map] at h1
  refine Qf fun K hK => Qa rfl ?_
  refine hK _ _ (Qb (kp1 rfl) ?_)
  refine Qu (Qj (QD rfl ?_))
  rw [QoD h1]
 ·try rw [h1]
  try simp only [qa, qb, qc, qd, qe, List.length_map] at h1
  refine Qv (Qd (kp1 rfl) (Qf fun K hK => Qa rfl (QK rfl rfl rfl (by omega) (Zu (by omega) (by omega)) rfl (QC rfl rfl rfl (Qa rfl ?_)))))
  refine hK _ _ (Qb (kp1 rfl) ?_)
  refine Qu (QD rfl ?_)
  rw [Qm8 h1]
theorem XV {w : Qn} (hw : WSm w) {l : List StepT} (hl : l.length <= 10000000) {s : StepT} : Ok Tryz.prog 47 [ZI w, Zp l, .agg (QfK s)] (.bool (Qd4 w l s)) := by
 refine Ok.ofT ZP Tryz.func47 QsG (Nat.le_of_ble_eq_true rfl) ?_
 show TW _ _ tf47.body _ _
 refine Qf fun K hK => Zr rfl rfl rfl (Zr rfl rfl rfl (Qa rfl ?_))
 refine hK _ _ (Qb (kp3 rfl rfl rfl) ?_)
 refine Qz ?_ -- 0
 refine Qf fun K hK => Qh rfl rfl (QC rfl rfl rfl (ZW rfl rfl (Qa rfl ?_)))
 refine QF (g := 11) rfl (fun h1 => ?_) (fun h1 => ?_)
 ·try rw [h1]
  try simp only [qa, qb, qc, qd, qe, List.length_map] at h1
  refine Qt rfl (Qt rfl (Qt rfl (Qt rfl (Qt rfl (Qt rfl (Qm rfl rfl (Qa rfl (Qt rfl (Qt rfl (Qt rfl (Qm rfl rfl ?_)))))))))))
  refine hK _ _ (Qb (kp4 rfl rfl rfl rfl) ?_)
  refine Zs rfl (Qf fun K hK => Qa rfl ?_)
  refine hK _ _ (Qb (kp1 rfl) ?_)
  refine Qu (Qj (Qs rfl ?_))
  first | (rw [Xt (by omega)]; done) | (rw [Yd (by omega) (by omega) (by omega)]; simp_all; done) | (rw [Yd (by omega) (by omega) (by omega)]; simp_all; omega)
 ·try rw [h1]
  try simp only [qa, qb, qc, qd, qe, List.length_map] at h1
  refine Qk rfl (Qh rfl rfl (Qk rfl (QC rfl rfl rfl (Qk rfl (Qh rfl rfl (Qk rfl (QC rfl rfl rfl (Qk rfl ?_))))))))
  first | refine QO rfl QP ?_ | refine QO rfl rfl ?_
  refine Qk rfl (Qen rfl rfl (Qm rfl rfl (Qa rfl ?_)))
  refine QF (g := 19) rfl (fun h2 => ?_) (fun h2 => ?_)
  ·try rw [h2]
   try simp only [qa, qb, qc, qd, qe, List.length_map] at h2
   refine Qt rfl (Qt rfl (Qt rfl (Qm rfl rfl ?_)))
   refine hK _ _ (Qb (kp4 rfl rfl rfl rfl) ?_)
   refine Zs rfl (Qf fun K hK => Qa rfl ?_)
   refine hK _ _ (Qb (kp1 rfl) ?_)
   refine Qu (Qj (Qs rfl ?_))
   first | (rw [Xt (by omega)]; done) | (rw [Yd (by omega) (by omega) (by omega)]; simp_all; done) | (rw [Yd (by omega) (by omega) (by omega)]; simp_all; omega)
  ·try rw [h2]
   try simp only [qa, qb, qc, qd, qe, List.length_map] at h2
   refine Qk rfl (Qh rfl rfl (Qk rfl (QC rfl rfl rfl (Qk rfl (ZW rfl rfl (Qm rfl rfl ?_))))))
   refine hK _ _ (Qb (kp4 rfl rfl rfl rfl) ?_)
   refine Qw rfl (fun h3 => ?_) (fun h3 => ?_)
   ·try rw [h3]
    try simp only [qa, qb, qc, qd, qe, List.length_map] at h3
    refine Qf fun K hK => Qa rfl ?_
    refine hK _ _ (Qb (kp1 rfl) ?_)
    refine Qu (Qj (Qs rfl ?_))
    first | (rw [Xt (by omega)]; done) | (rw [Yd (by omega) (by omega) (by omega)]; simp_all; done) | (rw [Yd (by omega) (by omega) (by omega)]; simp_all; omega)
   ·try rw [h3]
    try simp only [qa, qb, qc, qd, qe, List.length_map] at h3
    refine Qv (Qd (kp3 rfl rfl rfl) (Qf fun K hK => QG (cs := [_]) rfl rfl rfl rfl (Qa rfl (Qh rfl rfl (QC rfl rfl rfl (QH (ZM hw hl) rfl rfl (.inr rfl) (Qa rfl ?_)))))))
    refine hK _ _ (Qb (kp3 rfl rfl rfl) ?_)
    refine Qz ?_ -- 1
    refine Qf fun K hK => Qh rfl rfl (QC rfl rfl rfl (ZL rfl rfl ?_))
    refine hK _ _ (Qb (kp4 rfl rfl rfl rfl) ?_)
    refine Qw rfl (fun h4 => ?_) (fun h4 => ?_)
    ·try rw [h4]
     try simp only [qa, qb, qc, qd, qe, List.length_map] at h4
     refine Qf fun K hK => Qh rfl rfl (QR (ds0 := [26, 25, 24, 23, 22, 21, 20, 19, 18, 17, 16, 15, 14, 13, 12, 11, 10, 9, 8, 7, 6, 5, 4, 3, 2, 1, 0]) rfl rfl rfl rfl rfl (QU (ds0 := [25, 24, 23, 22, 21, 20, 19, 18, 17, 16, 15, 14, 13, 12, 11, 10, 9, 8, 7, 6, 5, 4, 3, 2, 1, 0]) (Qb4) rfl rfl (.inr rfl) rfl rfl (Qen rfl rfl (Qa rfl ?_))))
     refine QF (g := 36) rfl (fun h5 => ?_) (fun h5 => ?_)
     ·try rw [h5]
      try simp only [qa, qb, qc, qd, qe, List.length_map] at h5
      refine Qk rfl (Qh rfl rfl (Qk rfl (QR (ds0 := [20, 17, 16, 15, 14, 13, 12, 11, 10, 9, 8, 7, 6, 5, 4, 3, 2, 1, 0]) rfl rfl rfl rfl rfl (Qk rfl (Qa rfl (Qk rfl (Qdy rfl rfl (Qk rfl (Qh rfl rfl (Qk rfl (QR (ds0 := [17, 16, 15, 14, 13, 12, 11, 10, 9, 8, 7, 6, 5, 4, 3, 2, 1, 0]) rfl rfl rfl rfl rfl ?_)))))))))))
      refine Qk rfl (ZL rfl rfl (Qm rfl rfl (Qa rfl ?_)))
      refine QF (g := 45) rfl (fun h6 => ?_) (fun h6 => ?_)
      ·try rw [h6]
       try simp only [qa, qb, qc, qd, qe, List.length_map] at h6
       refine Qk rfl (Qa rfl (Qk rfl (Qh rfl rfl (Qk rfl (QR (ds0 := [11, 10, 9, 8, 7, 6, 5, 4, 3, 2, 1, 0]) rfl rfl rfl rfl rfl (Qk rfl (QU (ds0 := [10, 9, 8, 7, 6, 5, 4, 3, 2, 1, 0]) (Qbg hl) rfl rfl (.inr rfl) rfl rfl (Qk rfl (Z9 rfl (Qm rfl rfl (Qa rfl ?_)))))))))))
       refine QF (g := 52) rfl (fun h7 => ?_) (fun h7 => ?_)
       ·try rw [h7]
        try simp only [qa, qb, qc, qd, qe, List.length_map] at h7
        refine Qk rfl (Qh rfl rfl (Qk rfl (QR (ds0 := [2, 1, 0]) rfl rfl rfl rfl rfl (Qk rfl (Qa rfl (Qk rfl (QU (ds0 := [3, 2, 1, 0]) (Yh hl) rfl rfl (.inr rfl) rfl rfl (Qk rfl (QY rfl rfl rfl (Qk rfl (ZL rfl rfl ?_)))))))))))
        refine Qm rfl rfl (Qa rfl ?_)
        refine hK _ _ (Qb (kp1 rfl) ?_)
        refine Qu (Qj (Qs rfl ?_))
        first | (rw [Xt (by omega)]; done) | (rw [Yd (by omega) (by omega) (by omega)]; simp_all; done) | (rw [Yd (by omega) (by omega) (by omega)]; simp_all; omega)
       ·try rw [h7]
        try simp only [qa, qb, qc, qd, qe, List.length_map] at h7
        refine Qt rfl (Qt rfl (Qt rfl (Qt rfl (Qt rfl (Qt rfl (Qm rfl rfl (Qa rfl ?_)))))))
        refine hK _ _ (Qb (kp1 rfl) ?_)
        refine Qu (Qj (Qs rfl ?_))
        first | (rw [Xt (by omega)]; done) | (rw [Yd (by omega) (by omega) (by omega)]; simp_all; done) | (rw [Yd (by omega) (by omega) (by omega)]; simp_all; omega)
      ·try rw [h6]
       try simp only [qa, qb, qc, qd, qe, List.length_map] at h6
       refine Qt rfl (Qt rfl (Qt rfl (Qt rfl (Qt rfl (Qm rfl rfl (Qa rfl (Qt rfl (Qt rfl (Qt rfl (Qt rfl (Qt rfl ?_)))))))))))
       refine Qt rfl (Qm rfl rfl (Qa rfl ?_))
       refine hK _ _ (Qb (kp1 rfl) ?_)
       refine Qu (Qj (Qs rfl ?_))
       first | (rw [Xt (by omega)]; done) | (rw [Yd (by omega) (by omega) (by omega)]; simp_all; done) | (rw [Yd (by omega) (by omega) (by omega)]; simp_all; omega)
     ·try rw [h5]
      try simp only [qa, qb, qc, qd, qe, List.length_map] at h5
      refine Qt rfl (Qt rfl (Qt rfl (Qt rfl (Qt rfl (Qt rfl (Qt rfl (Qm rfl rfl (Qa rfl (Qt rfl (Qt rfl (Qt rfl ?_)))))))))))
      refine Qt rfl (Qt rfl (Qm rfl rfl (Qa rfl (Qt rfl (Qt rfl (Qt rfl (Qt rfl (Qt rfl (Qt rfl (Qm rfl rfl (Qa rfl ?_)))))))))))
      refine hK _ _ (Qb (kp1 rfl) ?_)
      refine Qu (Qj (Qs rfl ?_))
      first | (rw [Xt (by omega)]; done) | (rw [Yd (by omega) (by omega) (by omega)]; simp_all; done) | (rw [Yd (by omega) (by omega) (by omega)]; simp_all; omega)
    ·try rw [h4]
     try simp only [qa, qb, qc, qd, qe, List.length_map] at h4
     refine Qv (Qd (kp3 rfl rfl rfl) (Qf fun K hK => Qh rfl rfl (QR (ds0 := [23, 22, 21, 20, 19, 18, 17, 16, 15, 14, 13, 12, 11, 10, 9, 8, 7, 6, 5, 4, 3, 2, 1, 0]) rfl rfl rfl rfl rfl (X1 rfl rfl (Qa rfl ?_)))))
     refine QF (g := 63) rfl (fun h8 => ?_) (fun h8 => ?_)
     ·try rw [h8]
      try simp only [qa, qb, qc, qd, qe, List.length_map] at h8
      refine Qk rfl (Qh rfl rfl (Qk rfl (QR (ds0 := [18, 15, 14, 13, 12, 11, 10, 9, 8, 7, 6, 5, 4, 3, 2, 1, 0]) rfl rfl rfl rfl rfl (Qk rfl (Qa rfl (Qk rfl (Qdy rfl rfl (Qk rfl (Qh rfl rfl (Qk rfl (QR (ds0 := [15, 14, 13, 12, 11, 10, 9, 8, 7, 6, 5, 4, 3, 2, 1, 0]) rfl rfl rfl rfl rfl ?_)))))))))))
      refine Qk rfl (ZL rfl rfl (Qm rfl rfl (Qa rfl ?_)))
      refine QF (g := 72) rfl (fun h9 => ?_) (fun h9 => ?_)
      ·try rw [h9]
       try simp only [qa, qb, qc, qd, qe, List.length_map] at h9
       refine Qk rfl (Qh rfl rfl (Qk rfl (QR (ds0 := [9, 8, 7, 6, 5, 4, 3, 2, 1, 0]) rfl rfl rfl rfl rfl (Qk rfl (Qa rfl (Qk rfl (X1 rfl rfl (Qm rfl rfl (Qa rfl ?_)))))))))
       refine QF (g := 78) rfl (fun h10 => ?_) (fun h10 => ?_)
       ·try rw [h10]
        try simp only [qa, qb, qc, qd, qe, List.length_map] at h10
        refine Qk rfl (Qh rfl rfl (Qk rfl (QR (ds0 := [2, 1, 0]) rfl rfl rfl rfl rfl (Qk rfl (Qa rfl (Qk rfl (QU (ds0 := [2, 1, 0]) (Yh hl) rfl rfl (.inr rfl) rfl rfl (Qk rfl (ZL rfl rfl (Qm rfl rfl (Qa rfl ?_)))))))))))
        refine hK _ _ (Qb (kp1 rfl) ?_)
        refine Qu (Qs rfl ?_)
        first | (rw [Xt (by omega)]; done) | (rw [Yd (by omega) (by omega) (by omega)]; simp_all; done) | (rw [Yd (by omega) (by omega) (by omega)]; simp_all; omega)
       ·try rw [h10]
        try simp only [qa, qb, qc, qd, qe, List.length_map] at h10
        refine Qt rfl (Qt rfl (Qt rfl (Qt rfl (Qt rfl (Qm rfl rfl (Qa rfl ?_))))))
        refine hK _ _ (Qb (kp1 rfl) ?_)
        refine Qu (Qs rfl ?_)
        first | (rw [Xt (by omega)]; done) | (rw [Yd (by omega) (by omega) (by omega)]; simp_all; done) | (rw [Yd (by omega) (by omega) (by omega)]; simp_all; omega)
      ·try rw [h9]
       try simp only [qa, qb, qc, qd, qe, List.length_map] at h9
       refine Qt rfl (Qt rfl (Qt rfl (Qt rfl (Qm rfl rfl (Qa rfl (Qt rfl (Qt rfl (Qt rfl (Qt rfl (Qt rfl (Qm rfl rfl ?_)))))))))))
       refine Qa rfl ?_
       refine hK _ _ (Qb (kp1 rfl) ?_)
       refine Qu (Qs rfl ?_)
       first | (rw [Xt (by omega)]; done) | (rw [Yd (by omega) (by omega) (by omega)]; simp_all; done) | (rw [Yd (by omega) (by omega) (by omega)]; simp_all; omega)
     ·try rw [h8]
      try simp only [qa, qb, qc, qd, qe, List.length_map] at h8
      refine Qt rfl (Qt rfl (Qt rfl (Qt rfl (Qt rfl (Qt rfl (Qt rfl (Qm rfl rfl (Qa rfl (Qt rfl (Qt rfl (Qt rfl ?_)))))))))))
      refine Qt rfl (Qm rfl rfl (Qa rfl (Qt rfl (Qt rfl (Qt rfl (Qt rfl (Qt rfl (Qm rfl rfl (Qa rfl ?_)))))))))
      refine hK _ _ (Qb (kp1 rfl) ?_)
      refine Qu (Qs rfl ?_)
      first | (rw [Xt (by omega)]; done) | (rw [Yd (by omega) (by omega) (by omega)]; simp_all; done) | (rw [Yd (by omega) (by omega) (by omega)]; simp_all; omega)
theorem Qdf {w : Qn} (hw : WSm w) {l : List StepT} (hl : l.length <= 10000000) : Ok Tryz.prog 20 [ZI w, Zp l] (.bool (Qdr w l)) := by
 refine Ok.ofT ZP Tryz.func20 Qsg (Nat.le_of_ble_eq_true rfl) ?_
 show TW _ _ tf20.body _ _
 refine Qf fun K hK => Zr rfl rfl rfl (Qa rfl ?_)
 refine hK _ _ (Qb (kp2 rfl rfl) ?_)
 refine Qz ?_ -- 0
 refine Qf fun K hK => Qa rfl ?_
 refine hK _ _ (Qb (kp3 rfl rfl rfl) ?_)
 refine Qy ?_
 refine Zi (ι := Nat) (fun i => ⟨[(1, Zp l), (2, .ref 2 0 0), (5, .int .i64 i)], [(2, ⟨[[.sl ((w).map Z8)]], 1, 26, true⟩)]⟩) (fun i => i <= l.length /\ (List.range i).all (Qov w l) = true) (fun i => l.length - i) 0 ?_ ?_ ?_
 ·exact QX (l := [1, 2, 5]) (lH := [2]) (kp3 rfl rfl rfl) (Qe rfl Ql) rfl rfl rfl
 ·exact ⟨Nat.zero_le _, rfl⟩
 intro i hI
 try dsimp only
 refine Qz ?_ -- 1
 refine Qf fun K hK => Qa rfl (Qa rfl ?_)
 first | refine QO rfl QP ?_ | refine QO rfl rfl ?_
 refine ZW rfl rfl ?_
 refine hK _ _ (Qb (kp4 rfl rfl rfl rfl) ?_)
 refine Qw rfl (fun h1 => ?_) (fun h1 => ?_)
 ·try rw [h1]
  try simp only [qa, qb, qc, qd, qe, List.length_map] at h1
  refine Qv (Qd (kp3 rfl rfl rfl) ?_)
  refine Qz ?_ -- 2
  refine Qy (Qf fun K hK => QN (ds0 := [1, 0]) (cs := [_]) rfl rfl rfl rfl rfl rfl (Qa rfl (Qa rfl (QbW rfl rfl rfl rfl (by omega) (by omega) (by simp; omega) Qjg (Qhj) (Qa rfl (Qa rfl (QK rfl rfl rfl (by omega) (QS (by omega)) rfl (QN (ds0 := [1, 0]) (cs := [_, _, _, _]) rfl rfl rfl rfl rfl rfl (QU (ds0 := [0]) (XV (l := l.take i) hw (by have := List.length_take_le' i l; omega)) rfl rfl (.inr rfl) rfl rfl (Z9 rfl ?_))))))))))
  refine hK _ _ (Qb (kp4 rfl rfl rfl rfl) ?_)
  refine Qw rfl (fun h2 => ?_) (fun h2 => ?_)
  ·try rw [h2]
   try simp only [qa, qb, qc, qd, qe, List.length_map] at h2
   refine Qf fun K hK => Qa rfl ?_
   refine hK _ _ (Qb (kp1 rfl) ?_)
   refine Qu (Qr (Qj (QW (Qr (Qj (Qs rfl ?_))))))
   rw [Qfn, QbC (i := i) (by omega) (by rw [Qbz (by omega)]; exact h2)]
  ·try rw [h2]
   try simp only [qa, qb, qc, qd, qe, List.length_map] at h2
   refine Qv (Qg (Qd (kp3 rfl rfl rfl) (QL fun K hK => Qa rfl (QY rfl rfl (by first | exact Qq (by omega) (by omega) | rfl) (Qa rfl (hK _ ?_))))))
   refine Qi (i + 1) ?_ ?_ ?_
   ·exact QX (l := [1, 2, 5]) (lH := [2]) (kp3 rfl rfl rfl) (Qe rfl Ql) rfl rfl rfl
   ·exact ⟨by omega, Qh5 hI.2 (by rw [Qbz (by omega)]; exact h2)⟩
   ·first | omega | (simp only; omega) | (dsimp only; omega)
 ·try rw [h1]
  try simp only [qa, qb, qc, qd, qe, List.length_map] at h1
  refine Za (QJ (Qx (QB (Qd (Q2) (Qf fun K hK => Qa rfl ?_)))))
  refine hK _ _ (Qb (kp1 rfl) ?_)
  refine Qu (Qs rfl ?_)
  rw [Qfn, Qft hI.2 (by omega)]
theorem QbT {w : Qn} (hw : WSm w) {l : List StepT} (hl : l.length <= 10000000) {t : TermT} {c : Int} : Ok Tryz.prog 44 [ZI w, Zp l, .agg (Qdm t), .int .i64 c] (dOS (Yn w l t c)) := by
 refine Ok.ofT ZP Tryz.func44 QsD (Nat.le_of_ble_eq_true rfl) ?_
 show TW _ _ tf44.body _ _
 refine Qf fun K hK => Zr rfl rfl rfl (Zr rfl rfl rfl (Qa rfl (Qa rfl ?_)))
 refine hK _ _ (Qb (kp4 rfl rfl rfl rfl) ?_)
 refine Qz ?_ -- 0
 refine Qf fun K hK => Qa rfl (ZW rfl rfl (Qa rfl ?_))
 refine QF (g := 14) rfl (fun h1 => ?_) (fun h1 => ?_)
 ·try rw [h1]
  try simp only [qa, qb, qc, qd, qe, List.length_map] at h1
  refine Qt rfl (Qt rfl (Qt rfl (Qm rfl rfl (Qa rfl (Qt rfl (Qt rfl (Qt rfl (Qt rfl (Qt rfl (Qt rfl (Qm rfl rfl ?_)))))))))))
  refine hK _ _ (Qb (kp5 rfl rfl rfl rfl rfl) ?_)
  refine Zs rfl (Qf fun K hK => Qa rfl (Qa rfl ?_))
  refine hK _ _ (Qb (kp2 rfl rfl) ?_)
  refine Qu (Qj ?_)
  rw [Qcx (by omega)]
  exact QT rfl rfl ⟨rfl, rfl⟩
 ·try rw [h1]
  try simp only [qa, qb, qc, qd, qe, List.length_map] at h1
  refine Qk rfl (Qh rfl rfl (Qk rfl (QC rfl rfl rfl (Qk rfl (ZW rfl rfl (Qm rfl rfl (Qa rfl ?_)))))))
  refine QF (g := 19) rfl (fun h2 => ?_) (fun h2 => ?_)
  ·try rw [h2]
   try simp only [qa, qb, qc, qd, qe, List.length_map] at h2
   refine Qt rfl (Qt rfl (Qt rfl (Qt rfl (Qt rfl (Qt rfl (Qm rfl rfl ?_))))))
   refine hK _ _ (Qb (kp5 rfl rfl rfl rfl rfl) ?_)
   refine Zs rfl (Qf fun K hK => Qa rfl (Qa rfl ?_))
   refine hK _ _ (Qb (kp2 rfl rfl) ?_)
   refine Qu (Qj ?_)
   rw [Qcx (by omega)]
   exact QT rfl rfl ⟨rfl, rfl⟩
  ·try rw [h2]
   try simp only [qa, qb, qc, qd, qe, List.length_map] at h2
   refine Qk rfl (Qh rfl rfl (Qk rfl (QC rfl rfl rfl (Qk rfl (Qh rfl rfl (Qk rfl (QC rfl rfl rfl (Qk rfl ?_))))))))
   first | refine QO rfl QP ?_ | refine QO rfl rfl ?_
   refine Qk rfl (Qen rfl rfl (Qm rfl rfl ?_))
   refine hK _ _ (Qb (kp5 rfl rfl rfl rfl rfl) ?_)
   refine Qw rfl (fun h3 => ?_) (fun h3 => ?_)
   ·try rw [h3]
    try simp only [qa, qb, qc, qd, qe, List.length_map] at h3
    refine Qf fun K hK => Qa rfl (Qa rfl ?_)
    refine hK _ _ (Qb (kp2 rfl rfl) ?_)
    refine Qu (Qj ?_)
    rw [Qcx (by omega)]
    exact QT rfl rfl ⟨rfl, rfl⟩
   ·try rw [h3]
    try simp only [qa, qb, qc, qd, qe, List.length_map] at h3
    refine Qv (Qd (kp4 rfl rfl rfl rfl) (Qf fun K hK => QG (cs := [_]) rfl rfl rfl rfl (Qa rfl (Qh rfl rfl (QC rfl rfl rfl (QH (ZM hw hl) rfl rfl (.inr rfl) (Qa rfl ?_)))))))
    refine hK _ _ (Qb (kp4 rfl rfl rfl rfl) ?_)
    refine Qf fun K hK => Qh rfl rfl (QR (ds0 := [2, 0]) rfl rfl rfl rfl rfl (Qa rfl (Qa rfl (Qh rfl rfl (QR (ds0 := [7, 6, 2, 0]) rfl rfl rfl rfl rfl (Qdy rfl rfl (Qas rfl rfl rfl (Qa rfl (QU (ds0 := [2, 0]) (Yh hl) rfl rfl (.inr rfl) rfl rfl (Qa rfl ?_))))))))))
    refine QZ rfl rfl (ZH rfl (Y4 (ds0 := []) rfl rfl rfl rfl rfl rfl rfl rfl rfl rfl ?_))
    refine hK _ _ (Qb (kp3 rfl rfl rfl) ?_)
    refine Qz ?_ -- 1
    refine Qf fun K hK => Qh rfl rfl (QC rfl rfl rfl (ZL rfl rfl (Qa rfl ?_)))
    refine QF (g := 47) rfl (fun h4 => ?_) (fun h4 => ?_)
    ·try rw [h4]
     try simp only [qa, qb, qc, qd, qe, List.length_map] at h4
     refine Qt rfl (Qt rfl (Qt rfl (Qt rfl (Qm rfl rfl ?_))))
     refine hK _ _ (Qb (kp3 rfl rfl rfl) ?_)
     refine Zs rfl (Qf fun K hK => Qa rfl (Qa rfl ?_))
     refine hK _ _ (Qb (kp2 rfl rfl) ?_)
     refine Qu (Qj ?_)
     rw [Qbk (by first | exact .inl h4 | exact .inr h5)]
     exact QT rfl rfl ⟨rfl, rfl⟩
    ·try rw [h4]
     try simp only [qa, qb, qc, qd, qe, List.length_map] at h4
     refine Qk rfl (Qh rfl rfl (Qk rfl (QC rfl rfl rfl (Qk rfl (Qa rfl (Qk rfl (ZL rfl rfl (Qm rfl rfl ?_))))))))
     refine hK _ _ (Qb (kp3 rfl rfl rfl) ?_)
     refine Qw rfl (fun h5 => ?_) (fun h5 => ?_)
     ·try rw [h5]
      try simp only [qa, qb, qc, qd, qe, List.length_map] at h5
      refine Qf fun K hK => Qa rfl (Qa rfl ?_)
      refine hK _ _ (Qb (kp2 rfl rfl) ?_)
      refine Qu (Qj ?_)
      rw [Qbk (by first | exact .inl h4 | exact .inr h5)]
      exact QT rfl rfl ⟨rfl, rfl⟩
     ·try rw [h5]
      try simp only [qa, qb, qc, qd, qe, List.length_map] at h5
      refine Qv (Qd (kp2 rfl rfl) (Qf fun K hK => Qa rfl (Qeo (ds0 := [2, 1]) rfl rfl (fun _ h => ⟨Qjg, h⟩) rfl (.inl rfl) (by simp) (by simp; omega) (by simp; omega) rfl rfl (QN (ds0 := [3, 2, 1]) (cs := [_, _, _, _]) rfl rfl rfl rfl rfl rfl (QE rfl rfl (Qbd (ds0 := [1]) rfl rfl (by simp [D.ids, D.sid]) ⟨_, rfl, rfl, rfl, rfl, rfl⟩ rfl rfl (by simp) rfl rfl (by simp; omega) (by simp; omega) rfl rfl (Qa rfl (Qa rfl ?_))))))))
      refine hK _ _ (Qb (kp2 rfl rfl) ?_)
      refine Qu ?_
      rw [QgQ (by omega) (Qc7 (by omega) (by omega)) h4 h5]
      exact Qgj rfl rfl rfl (by simp) (by simp [Zp, QfK]) rfl rfl
theorem QbS {w : Qn} (hw : WSm w) {l : List StepT} (hl : l.length <= 10000000) {u p : Int} : Ok Tryz.prog 40 [ZI w, Zp l, .int .i64 u, .int .i64 p] (dOS (Xp w l u p)) := by
 refine Ok.ofT ZP Tryz.func40 Qsz (Nat.le_of_ble_eq_true rfl) ?_
 show TW _ _ tf40.body _ _
 refine Qf fun K hK => Zr rfl rfl rfl (Qa rfl (Qa rfl ?_))
 refine hK _ _ (Qb (kp4 rfl rfl rfl rfl) ?_)
 refine Qz ?_ -- 0
 refine Qf fun K hK => Qa rfl (ZW rfl rfl (Qa rfl ?_))
 refine QF (g := 13) rfl (fun h1 => ?_) (fun h1 => ?_)
 ·try rw [h1]
  try simp only [qa, qb, qc, qd, qe, List.length_map] at h1
  refine Qt rfl (Qt rfl (Qt rfl (Qt rfl (Qt rfl (Qm rfl rfl (Qa rfl (Qt rfl (Qt rfl (Qm rfl rfl (Qa rfl (Qt rfl ?_)))))))))))
  refine Qt rfl (Qt rfl (Qt rfl (Qt rfl (Qt rfl (Qt rfl (Qt rfl (Qt rfl (Qm rfl rfl ?_))))))))
  refine hK _ _ (Qb (kp5 rfl rfl rfl rfl rfl) ?_)
  refine Zs rfl (Qf fun K hK => Qa rfl (Qa rfl ?_))
  refine hK _ _ (Qb (kp2 rfl rfl) ?_)
  refine Qu (Qj ?_)
  rw [Qew (by omega)]
  exact QT rfl rfl ⟨rfl, rfl⟩
 ·try rw [h1]
  try simp only [qa, qb, qc, qd, qe, List.length_map] at h1
  refine Qk rfl (Qa rfl (Qk rfl (Qh rfl rfl (Qk rfl (QC rfl rfl rfl (Qk rfl ?_))))))
  first | refine QO rfl QP ?_ | refine QO rfl rfl ?_
  refine Qk rfl (Qen rfl rfl (Qm rfl rfl (Qa rfl ?_)))
  refine QF (g := 20) rfl (fun h2 => ?_) (fun h2 => ?_)
  ·try rw [h2]
   try simp only [qa, qb, qc, qd, qe, List.length_map] at h2
   refine Qt rfl (Qt rfl (Qm rfl rfl (Qa rfl (Qt rfl (Qt rfl (Qt rfl (Qt rfl (Qt rfl (Qt rfl (Qt rfl (Qt rfl ?_)))))))))))
   refine Qt rfl (Qm rfl rfl ?_)
   refine hK _ _ (Qb (kp5 rfl rfl rfl rfl rfl) ?_)
   refine Zs rfl (Qf fun K hK => Qa rfl (Qa rfl ?_))
   refine hK _ _ (Qb (kp2 rfl rfl) ?_)
   refine Qu (Qj ?_)
   rw [Qew (by omega)]
   exact QT rfl rfl ⟨rfl, rfl⟩
  ·try rw [h2]
   try simp only [qa, qb, qc, qd, qe, List.length_map] at h2
   refine Qk rfl (Qa rfl (Qk rfl (ZW rfl rfl (Qm rfl rfl (Qa rfl ?_)))))
   refine QF (g := 24) rfl (fun h3 => ?_) (fun h3 => ?_)
   ·try rw [h3]
    try simp only [qa, qb, qc, qd, qe, List.length_map] at h3
    refine Qt rfl (Qt rfl (Qt rfl (Qt rfl (Qt rfl (Qt rfl (Qt rfl (Qt rfl (Qt rfl (Qm rfl rfl ?_)))))))))
    refine hK _ _ (Qb (kp5 rfl rfl rfl rfl rfl) ?_)
    refine Zs rfl (Qf fun K hK => Qa rfl (Qa rfl ?_))
    refine hK _ _ (Qb (kp2 rfl rfl) ?_)
    refine Qu (Qj ?_)
    rw [Qew (by omega)]
    exact QT rfl rfl ⟨rfl, rfl⟩
   ·try rw [h3]
    try simp only [qa, qb, qc, qd, qe, List.length_map] at h3
    refine Qk rfl (Qa rfl (Qk rfl (Qh rfl rfl (Qk rfl (QC rfl rfl rfl (Qk rfl (Qa rfl (Qk rfl (QK rfl rfl rfl (by omega) (Zu (by omega) (by omega)) rfl (Qk rfl (Q6 rfl rfl ?_)))))))))))
    refine Qk rfl (QC rfl rfl rfl (Qk rfl ?_))
    first | refine QO rfl QP ?_ | refine QO rfl rfl ?_
    refine Qk rfl (Qen rfl rfl (Qm rfl rfl ?_))
    refine hK _ _ (Qb (kp5 rfl rfl rfl rfl rfl) ?_)
    refine Qw rfl (fun h4 => ?_) (fun h4 => ?_)
    ·try rw [h4]
     try simp only [qa, qb, qc, qd, qe, List.length_map] at h4
     refine Qf fun K hK => Qa rfl (Qa rfl ?_)
     refine hK _ _ (Qb (kp2 rfl rfl) ?_)
     refine Qu (Qj ?_)
     rw [Qlr (by omega) (by omega) (by omega)]
     exact QT rfl rfl ⟨rfl, rfl⟩
    ·try rw [h4]
     try simp only [qa, qb, qc, qd, qe, List.length_map] at h4
     refine Qv (Qd (kp4 rfl rfl rfl rfl) (Qf fun K hK => Qa rfl (Qa rfl (Qin rfl (Qfw (by omega) (by have := hw.cs _ (List.getElem_mem (show u.toNat < w.length by omega)); omega)) (Qpx rfl rfl (by omega) rfl (Qa rfl (QH (Yh hl) rfl rfl (.inr rfl) (QY rfl rfl rfl (QZ rfl rfl (ZH rfl ?_))))))))))
     refine Q7 rfl rfl rfl rfl rfl rfl rfl rfl ?_
     refine hK _ _ (Qb (kp3 rfl rfl rfl) ?_)
     refine Qz ?_ -- 1
     refine Qf fun K hK => QG (cs := [_]) rfl rfl rfl rfl (Qa rfl (QG (cs := [_, _, _, _]) rfl rfl rfl rfl (QH (XV (s := QpO l u p) hw hl) rfl rfl (.inr rfl) (Z9 rfl ?_))))
     refine hK _ _ (Qb (kp3 rfl rfl rfl) ?_)
     refine Qw rfl (fun h5 => ?_) (fun h5 => ?_)
     ·try rw [h5]
      try simp only [qa, qb, qc, qd, qe, List.length_map] at h5
      refine Qf fun K hK => Qa rfl (Qa rfl ?_)
      refine hK _ _ (Qb (kp2 rfl rfl) ?_)
      refine Qu (Qj ?_)
      rw [Qmh h5]
      exact QT rfl rfl ⟨rfl, rfl⟩
     ·try rw [h5]
      try simp only [qa, qb, qc, qd, qe, List.length_map] at h5
      refine Qv (Qd (kp2 rfl rfl) (Qf fun K hK => Qa rfl (Qeo (ds0 := [2, 1]) rfl rfl (fun _ h => ⟨Qjg, h⟩) rfl (.inl rfl) (by simp) (by simp; omega) (by simp; omega) rfl rfl (QN (ds0 := [3, 2, 1]) (cs := [_, _, _, _]) rfl rfl rfl rfl rfl rfl (QE rfl rfl (Qbd (ds0 := [1]) rfl rfl (by simp [D.ids, D.sid]) ⟨_, rfl, rfl, rfl, rfl, rfl⟩ rfl rfl (by simp) rfl rfl (by simp; omega) (by simp; omega) rfl rfl (Qa rfl (Qa rfl ?_))))))))
      refine hK _ _ (Qb (kp2 rfl rfl) ?_)
      refine Qu ?_
      rw [Qlu (by omega) (by omega) (by omega) (by omega) h5]
      exact Qgj rfl rfl rfl (by simp) (by simp [Zp, QfK, QpO]; rfl) rfl rfl
theorem QcZ {w : Qn} (hw : WSm w) {l : List StepT} (hl : l.length <= 10000000) {inc : List TermT} (hi : inc.length <= 1000000) : Ok Tryz.prog 45 [ZI w, Zp l, ZC inc] (.bool (Qe9 w l inc)) := by
 refine Ok.ofT ZP Tryz.func45 QsE (Nat.le_of_ble_eq_true rfl) ?_
 show TW _ _ tf45.body _ _
 refine Qf fun K hK => Zr rfl rfl rfl (Qa rfl ?_)
 refine hK _ _ (Qb (kp3 rfl rfl rfl) ?_)
 refine Qz ?_ -- 0
 refine Qf fun K hK => Qa rfl ?_
 refine hK _ _ (Qb (kp4 rfl rfl rfl rfl) ?_)
 refine Qy ?_
 refine Zi (ι := Nat) (fun i => ⟨[(1, Zp l), (2, ZC inc), (3, .ref 3 0 0), (7, .int .i64 i)], [(3, ⟨[[.sl ((w).map Z8)]], 1, 26, true⟩)]⟩) (fun i => i <= inc.length /\ (inc.take i).all (fun t => decide (ZO (Zg w l t.u) t.m = 2)) = true) (fun i => inc.length - i) 0 ?_ ?_ ?_
 ·exact QX (l := [1, 2, 3, 7]) (lH := [3]) (kp4 rfl rfl rfl rfl) (Qe rfl Ql) rfl rfl rfl
 ·exact ⟨Nat.zero_le _, by simp⟩
 intro i hI
 try dsimp only
 refine Qz ?_ -- 1
 refine Qf fun K hK => Qa rfl (Qa rfl ?_)
 first | refine QO rfl QP ?_ | refine QO rfl rfl ?_
 refine ZW rfl rfl ?_
 refine hK _ _ (Qb (kp5 rfl rfl rfl rfl rfl) ?_)
 refine Qw rfl (fun h1 => ?_) (fun h1 => ?_)
 ·try rw [h1]
  try simp only [qa, qb, qc, qd, qe, List.length_map] at h1
  refine Qv (Qd (kp4 rfl rfl rfl rfl) ?_)
  refine Qz ?_ -- 2
  refine Qy (Qf fun K hK => QN (ds0 := [7, 1, 0]) (cs := [_]) rfl rfl rfl rfl rfl rfl (Qa rfl (Qa rfl (Qa rfl (QK rfl rfl rfl (by omega) (QS (by omega)) rfl (Q6 rfl rfl (QR (ds0 := [7, 1, 0]) rfl rfl rfl rfl rfl (QU (ds0 := [1, 0]) (ZM hw hl) rfl rfl (.inr rfl) rfl rfl (Qa rfl (Qa rfl ?_))))))))))
  refine QK rfl rfl rfl (by omega) (QS (by omega)) rfl (Q6 rfl rfl (QR (ds0 := [1, 0]) rfl rfl rfl rfl rfl (QU (ds0 := [0]) (XN) rfl rfl (.inr rfl) rfl rfl (X1 rfl rfl ?_))))
  refine hK _ _ (Qb (kp5 rfl rfl rfl rfl rfl) ?_)
  refine Qw rfl (fun h2 => ?_) (fun h2 => ?_)
  ·try rw [h2]
   try simp only [qa, qb, qc, qd, qe, List.length_map] at h2
   refine Qf fun K hK => Qa rfl ?_
   refine hK _ _ (Qb (kp1 rfl) ?_)
   refine Qu (Qr (Qj (QW (Qr (Qj (Qs rfl ?_))))))
   rw [Qe9, Xv (i := i) (by omega) (by simpa using h2)]
  ·try rw [h2]
   try simp only [qa, qb, qc, qd, qe, List.length_map] at h2
   refine Qv (Qg (Qd (kp4 rfl rfl rfl rfl) (QL fun K hK => Qa rfl (QY rfl rfl (by first | exact Qq (by omega) (by omega) | rfl) (Qa rfl (hK _ ?_))))))
   refine Qi (i + 1) ?_ ?_ ?_
   ·exact QX (l := [1, 2, 3, 7]) (lH := [3]) (kp4 rfl rfl rfl rfl) (Qe rfl Ql) rfl rfl rfl
   ·exact ⟨by omega, Z0 (by omega) hI.2 (by simpa using h2)⟩
   ·first | omega | (simp only; omega) | (dsimp only; omega)
 ·try rw [h1]
  try simp only [qa, qb, qc, qd, qe, List.length_map] at h1
  refine Za (QJ (Qx (QB (Qd (Q2) (Qf fun K hK => Qa rfl ?_)))))
  refine hK _ _ (Qb (kp1 rfl) ?_)
  refine Qu (Qs rfl ?_)
  rw [Qe9, Xl (i := i) (by omega) hI.2]
theorem Qc0 {w : Qn} (hw : WSm w) {l : List StepT} (hl : l.length <= 10000000) {inc : List TermT} (hi : inc.length <= 1000000) : Ok Tryz.prog 46 [ZI w, Zp l, ZC inc] (.int .i64 (Qe8 w l inc)) := by
 refine Ok.ofT ZP Tryz.func46 QsF (Nat.le_of_ble_eq_true rfl) ?_
 show TW _ _ tf46.body _ _
 refine Qf fun K hK => Zr rfl rfl rfl (Qa rfl ?_)
 refine hK _ _ (Qb (kp3 rfl rfl rfl) ?_)
 refine Qf fun K hK => Qa rfl ?_
 refine hK _ _ (Qb (kp4 rfl rfl rfl rfl) ?_)
 refine Qz ?_ -- 0
 refine Qf fun K hK => Qa rfl ?_
 refine hK _ _ (Qb (kp5 rfl rfl rfl rfl rfl) ?_)
 refine Qy ?_
 refine Zi (ι := Nat × Int) (fun ⟨i, a⟩ => ⟨[(1, Zp l), (2, ZC inc), (3, .ref 3 0 0), (7, .int .i64 a), (8, .int .i64 i)], [(3, ⟨[[.sl ((w).map Z8)]], 1, 26, true⟩)]⟩) (fun ⟨i, a⟩ => i <= inc.length /\ ZS (Zg w l) inc (-1) = ZS (Zg w l) (inc.drop i) a) (fun ⟨i, a⟩ => inc.length - i) (0, -1) ?_ ?_ ?_
 ·exact QX (l := [1, 2, 3, 7, 8]) (lH := [3]) (kp5 rfl rfl rfl rfl rfl) (Qe rfl Ql) rfl rfl rfl
 ·exact ⟨Nat.zero_le _, by simp⟩
 intro ⟨i, a⟩ hI
 dsimp only at hI
 try dsimp only
 refine Qz ?_ -- 1
 refine Qf fun K hK => Qa rfl (Qa rfl ?_)
 first | refine QO rfl QP ?_ | refine QO rfl rfl ?_
 refine ZW rfl rfl ?_
 refine hK _ _ (Qb (kp6 rfl rfl rfl rfl rfl rfl) ?_)
 refine Qw rfl (fun h1 => ?_) (fun h1 => ?_)
 ·try rw [h1]
  try simp only [qa, qb, qc, qd, qe, List.length_map] at h1
  refine Qv (Qd (kp5 rfl rfl rfl rfl rfl) ?_)
  refine Qz ?_ -- 2
  refine Qy (Qf fun K hK => QN (ds0 := [6, 0]) (cs := [_]) rfl rfl rfl rfl rfl rfl (Qa rfl (Qa rfl (Qa rfl (QK rfl rfl rfl (by omega) (QS (by omega)) rfl (Q6 rfl rfl (QR (ds0 := [6, 0]) rfl rfl rfl rfl rfl (QU (ds0 := [0]) (ZM hw hl) rfl rfl (.inr rfl) rfl rfl (Qa rfl (Qa rfl ?_))))))))))
  refine QK rfl rfl rfl (by omega) (QS (by omega)) rfl (Q6 rfl rfl (QR (ds0 := [0]) rfl rfl rfl rfl rfl (QU (ds0 := []) (XN) rfl rfl (.inr rfl) rfl rfl ?_)))
  refine hK _ _ (Qb (kp6 rfl rfl rfl rfl rfl rfl) ?_)
  refine Qy (Qf fun K hK => ZL rfl rfl (Qa rfl ?_))
  refine hK _ _ (Qb (kp7 rfl rfl rfl rfl rfl rfl rfl) ?_)
  refine Qw rfl (fun h2 => ?_) (fun h2 => ?_)
  ·try rw [h2]
   try simp only [qa, qb, qc, qd, qe, List.length_map] at h2
   refine Qf fun K hK => Qa rfl ?_
   refine hK _ _ (Qb (kp1 rfl) ?_)
   refine Qu (Qr (Qr (Qj (QW (Qr (Qj (QD rfl ?_)))))))
   rw [Qe8, hI.2, QbA (by omega), if_pos h2]
  ·try rw [h2]
   try simp only [qa, qb, qc, qd, qe, List.length_map] at h2
   refine Qf fun K hK => ZL rfl rfl (Qa rfl ?_)
   refine hK _ _ (Qb (kp6 rfl rfl rfl rfl rfl rfl) ?_)
   refine Qw rfl (fun h3 => ?_) (fun h3 => ?_)
   ·try rw [h3]
    try simp only [qa, qb, qc, qd, qe, List.length_map] at h3
    refine Qz ?_ -- 3
    refine Qf fun K hK => Qa rfl (Qen rfl rfl ?_)
    refine hK _ _ (Qb (kp5 rfl rfl rfl rfl rfl) ?_)
    refine Qw rfl (fun h4 => ?_) (fun h4 => ?_)
    ·try rw [h4]
     try simp only [qa, qb, qc, qd, qe, List.length_map] at h4
     refine Qf fun K hK => Qa rfl ?_
     refine hK _ _ (Qb (kp1 rfl) ?_)
     refine Qu (Qj (Qr (Qr (Qj (QW (Qr (Qj (QD rfl ?_))))))))
     rw [Qe8, hI.2, QbA (by omega), if_neg h2, if_pos h3, if_pos h4]
    ·try rw [h4]
     try simp only [qa, qb, qc, qd, qe, List.length_map] at h4
     refine Qv (Qd (kp4 rfl rfl rfl rfl) (QL fun K hK => Qa rfl (Qa rfl (QK rfl rfl rfl (by omega) (QS (by omega)) rfl (Q6 rfl rfl (QC rfl rfl rfl (Qa rfl (hK _ ?_))))))))
     refine Qg (Qg (Qd (kp5 rfl rfl rfl rfl rfl) (QL fun K hK => Qa rfl (QY rfl rfl (by first | exact Qq (by omega) (by omega) | rfl) (Qa rfl (hK _ ?_))))))
     refine Qi (i + 1, (inc[i]'(by omega)).u) ?_ ?_ ?_
     ·exact QX (l := [1, 2, 3, 7, 8]) (lH := [3]) (kp5 rfl rfl rfl rfl rfl) (Qe rfl Ql) rfl rfl rfl
     ·exact ⟨by omega, by rw [hI.2, QbA (by omega), if_neg h2, if_pos h3, if_neg h4]⟩
     ·show inc.length - (i + 1) < inc.length - i; omega
   ·try rw [h3]
    try simp only [qa, qb, qc, qd, qe, List.length_map] at h3
    refine Qv (Qg (Qg (Qd (kp5 rfl rfl rfl rfl rfl) (QL fun K hK => Qa rfl (QY rfl rfl (by first | exact Qq (by omega) (by omega) | rfl) (Qa rfl (hK _ ?_)))))))
    refine Qi (i + 1, a) ?_ ?_ ?_
    ·exact QX (l := [1, 2, 3, 7, 8]) (lH := [3]) (kp5 rfl rfl rfl rfl rfl) (Qe rfl Ql) rfl rfl rfl
    ·exact ⟨by omega, by rw [hI.2, QbA (by omega), if_neg h2, if_neg h3]⟩
    ·show inc.length - (i + 1) < inc.length - i; omega
 ·try rw [h1]
  try simp only [qa, qb, qc, qd, qe, List.length_map] at h1
  refine Za (QJ (Qx (QB (Qd (kp1 rfl) (Qf fun K hK => Qa rfl (Qa rfl ?_))))))
  refine hK _ _ (Qb (kp1 rfl) ?_)
  refine Qu (QD rfl ?_)
  rw [Qe8, hI.2, Qi7 (by omega)]
theorem QcY {w : Qn} (hw : WSm w) {db : List (List TermT)} (hd : db.length <= 100000000) (hi : ∀ x ∈ db, x.length <= 1000000) {l : List StepT} (hl : l.length <= 10000000) : Ok Tryz.prog 17 [ZI w, dDb db, Zp l] (.tup [.int .i64 (ZD w db l).1, .int .i64 (ZD w db l).2]) := by
 refine Ok.ofT ZP Tryz.func17 Qsd (Nat.le_of_ble_eq_true rfl) ?_
 show TW _ _ tf17.body _ _
 refine Qf fun K hK => Zr rfl rfl rfl (Qa rfl (Qa rfl ?_))
 refine hK _ _ (Qb (kp3 rfl rfl rfl) ?_)
 refine Qz ?_ -- 0
 refine Qf fun K hK => Qa rfl ?_
 refine hK _ _ (Qb (kp4 rfl rfl rfl rfl) ?_)
 refine Qy ?_
 refine Zi (ι := Nat) (fun i => ⟨[(1, dDb db), (2, Zp l), (3, .ref 3 0 0), (8, .int .i64 i)], [(3, ⟨[[.sl ((w).map Z8)]], 1, 26, true⟩)]⟩) (fun i => i <= db.length /\ ZD w db l = YJ w l i (db.drop i)) (fun i => db.length - i) 0 ?_ ?_ ?_
 ·exact QX (l := [1, 2, 3, 8]) (lH := [3]) (kp4 rfl rfl rfl rfl) (Qe rfl Ql) rfl rfl rfl
 ·exact ⟨Nat.zero_le _, rfl⟩
 intro i hI
 try dsimp only
 refine Qz ?_ -- 1
 refine Qf fun K hK => Qa rfl (Qa rfl ?_)
 first | refine QO rfl QP ?_ | refine QO rfl rfl ?_
 refine ZW rfl rfl ?_
 refine hK _ _ (Qb (kp5 rfl rfl rfl rfl rfl) ?_)
 refine Qw rfl (fun h1 => ?_) (fun h1 => ?_)
 ·try rw [h1]
  try simp only [qa, qb, qc, qd, qe, List.length_map] at h1
  refine Qv (Qd (kp4 rfl rfl rfl rfl) ?_)
  refine Qz ?_ -- 2
  refine Qy ?_
  refine Qz ?_ -- 3
  refine Qf fun K hK => QN (ds0 := [0]) (cs := [_]) rfl rfl rfl rfl rfl rfl (Qa rfl (Qa rfl (Qa rfl (QK rfl rfl rfl (by omega) (QS (by omega)) rfl (QR (ds0 := [0]) rfl rfl rfl rfl rfl (QU (ds0 := []) (QcZ hw hl (hi _ (List.getElem_mem (by omega)))) rfl rfl (.inr rfl) rfl rfl ?_))))))
  refine hK _ _ (Qb (kp5 rfl rfl rfl rfl rfl) ?_)
  refine Qw rfl (fun h2 => ?_) (fun h2 => ?_)
  ·try rw [h2]
   try simp only [qa, qb, qc, qd, qe, List.length_map] at h2
   refine Qf fun K hK => Qa rfl (Qa rfl (Qa rfl ?_))
   refine hK _ _ (Qb (kp2 rfl rfl) ?_)
   refine Qu (Qj (Qr (Qj (QW (Qr (Qj ?_))))))
   rw [hI.2, Qkd (by omega), if_pos h2]
   exact QT rfl rfl ⟨rfl, rfl⟩
  ·try rw [h2]
   try simp only [qa, qb, qc, qd, qe, List.length_map] at h2
   refine Qv (Qd (kp4 rfl rfl rfl rfl) (Qf fun K hK => QN (ds0 := [1, 0]) (cs := [_]) rfl rfl rfl rfl rfl rfl (Qa rfl (Qa rfl (Qa rfl (QK rfl rfl rfl (by omega) (QS (by omega)) rfl (QR (ds0 := [1, 0]) rfl rfl rfl rfl rfl (QU (ds0 := [0]) (Qc0 hw hl (hi _ (List.getElem_mem (by omega)))) rfl rfl (.inr rfl) rfl rfl (Qa rfl ?_)))))))))
   refine hK _ _ (Qb (kp5 rfl rfl rfl rfl rfl) ?_)
   refine Qf fun K hK => Qa rfl (Qen rfl rfl ?_)
   refine hK _ _ (Qb (kp6 rfl rfl rfl rfl rfl rfl) ?_)
   refine Qw rfl (fun h3 => ?_) (fun h3 => ?_)
   ·try rw [h3]
    try simp only [qa, qb, qc, qd, qe, List.length_map] at h3
    refine Qf fun K hK => Qa rfl (Qa rfl (Qa rfl (Qa rfl ?_)))
    refine hK _ _ (Qb (kp2 rfl rfl) ?_)
    refine Qu (Qr (Qj (QW (Qr (Qj ?_)))))
    rw [hI.2, Qkd (by omega), if_neg (by rw [h2]; simp), if_pos h3]
    exact QT rfl rfl ⟨rfl, rfl⟩
   ·try rw [h3]
    try simp only [qa, qb, qc, qd, qe, List.length_map] at h3
    refine Qv (Qg (Qd (kp4 rfl rfl rfl rfl) (QL fun K hK => Qa rfl (QY rfl rfl (by first | exact Qq (by omega) (by omega) | rfl) (Qa rfl (hK _ ?_))))))
    refine Qi (i + 1) ?_ ?_ ?_
    ·exact QX (l := [1, 2, 3, 8]) (lH := [3]) (kp4 rfl rfl rfl rfl) (Qe rfl Ql) rfl rfl rfl
    ·exact ⟨by omega, by rw [hI.2, Qkd (by omega), if_neg (by rw [h2]; simp), if_neg h3]⟩
    ·first | omega | (simp only; omega) | (dsimp only; omega)
 ·try rw [h1]
  try simp only [qa, qb, qc, qd, qe, List.length_map] at h1
  refine Za (QJ (Qx (QB (Qd (Q2) (Qf fun K hK => Qa rfl (Qa rfl ?_))))))
  refine hK _ _ (Qb (kp2 rfl rfl) ?_)
  refine Qu ?_
  rw [hI.2, QoI (by omega)]
  exact QT rfl rfl ⟨rfl, rfl⟩
end Go.Proofs
namespace M25
open Go Go.Abs M3
def Qmg (w : Qn) (i : Nat) : List (List TermT) := ((Qch w).take i).map RowT.t
theorem QbU {w : Qn} {i : Nat} (h : i < (Qch w).length) : Qmg w (i + 1) = Qmg w i ++ [(Qch w)[i].t] := by
 rw [Qmg, List.take_succ_eq_append_getElem h, List.map_append]; rfl
theorem Qkz {w : Qn} {i : Nat} (h : (Qch w).length <= i) : Qmg w i = mDB w := by rw [Qmg, List.take_of_length_le h]; rfl
theorem Qky (w : Qn) (i : Nat) : (Qmg w i).length <= (Qch w).length := by rw [Qmg, List.length_map]; exact List.length_take_le' ..
theorem Qkp {w : Qn} (hw : WSm w) (h0 : 0 < w.length) : (Qch w).length <= 1600000 := by
 have := (Qcs hw h0 w.length (Nat.le_refl _)).2
 have := hw.len
 rw [Qch]; omega
def QpQ (w : Qn) (l : List Int) (j : Nat) : TermT := ⟨mPl (l.getD (2 * j) 0) w.length, 1 + mPl (l.getD (2 * j + 1) 0) (Y0 w (mPl (l.getD (2 * j) 0) w.length))⟩
def QgC (w : Qn) (l : List Int) : Nat -> List TermT
 | 0 => []
 | j + 1 => QgC w l j ++ [QpQ w l j]
theorem Qca (w : Qn) (l : List Int) : ∀ j, (QgC w l j).length = j
 | 0 => rfl
 | j + 1 => by rw [QgC, List.length_append, Qca w l j]; rfl
theorem QqL (w : Qn) (l : List Int) (j : Nat) : QgC w l (j + 1) = QgC w l j ++ [QpQ w l j] := rfl
def Qos (w : Qn) (l : List Int) : List TermT := (Qda w (QgC w l (min 4 (l.length / 2)))).getD []
theorem QpX (w : Qn) (l : List Int) : IncOk w (Qos w l) := by
 unfold Qos
 cases h : Qda w (QgC w l (min 4 (l.length / 2))) with
 | none => exact IncOk.nil w
 | some t => exact Qd2 h
theorem Qmr {l : List Int} {k : Int} {j : Nat} (e : k.toNat = j) (h : j < l.length) : l[k.toNat]'(by omega) = l.getD j 0 := by
 subst e; rw [List.getD_eq_getElem?_getD, List.getElem?_eq_getElem h]; rfl
theorem Qoe {w : Qn} {l : List Int} {j : Nat} (h : 2 * j + 1 < l.length) : QpQ w l j = ⟨mPl (l[(2 * (j : Int)).toNat]'(by omega)) w.length, 1 + mPl (l[(2 * (j : Int) + 1).toNat]'(by omega)) (Y0 w (mPl (l[(2 * (j : Int)).toNat]'(by omega)) w.length))⟩ := by
 rw [Qmr (j := 2 * j) (by omega) (by omega), Qmr (j := 2 * j + 1) (by omega) (by omega)]; rfl
theorem QoS (v : Int) {n : Int} (h : n <= 131071) : IntKind.i64.wrap (1 + mPl v n) = 1 + mPl v n := by
 have h0 := Qi2 (v := v) (n := n)
 by_cases h1 : 1 <= n
 ·have := Qi1 (v := v) h1; exact Qq (by omega) (by omega)
 ·have : mPl v n = 0 := by rw [mPl, if_pos (by omega)]
  rw [this]; rfl
def QnP : List Ql4 -> Int -> Int
 | [], n => n
 | u :: r, n => if n < 1000000 then QnP r (n * ((u.cs.length : Int) + 1)) else n
def QqP (w : Qn) : Int := QnP w 1
theorem QrA {w : Qn} {i : Nat} {n : Int} (h : i < w.length) (hn : n < 1000000) : QnP (w.drop i) n = QnP (w.drop (i + 1)) (n * ((w[i].cs.length : Int) + 1)) := by
 rw [List.drop_eq_getElem_cons h, QnP, if_pos hn]
theorem Qq1 {w : Qn} {i : Nat} {n : Int} (h : w.length <= i) : QnP (w.drop i) n = n := by rw [List.drop_eq_nil_of_le h, QnP]
theorem Qq0 {w : Qn} {i : Nat} {n : Int} (hn : ¬ n < 1000000) : QnP (w.drop i) n = n := by
 cases h : w.drop i with
 | nil => rfl
 | cons u r => rw [QnP, if_neg hn]
theorem Qqc {n : Int} {k : Nat} (h0 : 1 <= n) (h1 : n < 1000000) (hk : k <= 16) : 1 <= n * ((k : Int) + 1) /\ n * ((k : Int) + 1) <= 17000000 := by
 obtain ⟨m, rfl⟩ := Int.eq_ofNat_of_zero_le (show 0 <= n by omega)
 have h2 : m * (k + 1) <= 1000000 * 17 := Nat.mul_le_mul (by omega) (by omega)
 have h3 : 1 * 1 <= m * (k + 1) := Nat.mul_le_mul (by omega) (by omega)
 have e : (m : Int) * ((k : Int) + 1) = ((m * (k + 1) : Nat) : Int) := by simp
 rw [e]; omega
def chN (w : Qn) (n : Int) : Nat -> Int
 | 0 => n
 | i + 1 => match w[i]? with
  | some u => (chN w n i).tdiv ((u.cs.length : Int) + 1)
  | none => chN w n i
def chL (w : Qn) (n : Int) : Nat -> List Int
 | 0 => []
 | i + 1 => match w[i]? with
  | some u => chL w n i ++ [(chN w n i).tmod ((u.cs.length : Int) + 1) - 1]
  | none => chL w n i
def QmK (w : Qn) (n : Int) : List Int := chL w n w.length
theorem QqF {w : Qn} {n : Int} {i : Nat} (h : i < w.length) : chN w n (i + 1) = (chN w n i).tdiv ((w[i].cs.length : Int) + 1) := by rw [chN, List.getElem?_eq_getElem h]
theorem Qo5 {w : Qn} {n : Int} {i : Nat} (h : i < w.length) : chL w n (i + 1) = chL w n i ++ [(chN w n i).tmod ((w[i].cs.length : Int) + 1) - 1] := by rw [chL, List.getElem?_eq_getElem h]
theorem QnE {a : Int} {k : Nat} (h0 : 0 <= a) : 0 <= a.tdiv ((k : Int) + 1) /\ a.tdiv ((k : Int) + 1) <= a := by
 obtain ⟨m, rfl⟩ := Int.eq_ofNat_of_zero_le h0
 have : ((m : Int)).tdiv ((k : Int) + 1) = ((m / (k + 1) : Nat) : Int) := by
  rw [show (k : Int) + 1 = ((k + 1 : Nat) : Int) by simp, Int.ofNat_tdiv]
 rw [this]
 have := Nat.div_le_self m (k + 1)
 exact ⟨Int.natCast_nonneg _, Int.ofNat_le.2 this⟩
theorem Qo6 {w : Qn} {n : Int} (h0 : 0 <= n) : ∀ i, 0 <= chN w n i /\ chN w n i <= n
 | 0 => ⟨h0, Int.le_refl _⟩
 | i + 1 => by
  obtain ⟨h1, h2⟩ := Qo6 (w := w) h0 i
  rw [chN]
  split
  ·rename_i u _
   have := QnE (k := u.cs.length) h1
   omega
  ·exact ⟨h1, h2⟩
theorem Qmc (w : Qn) (n : Int) : ∀ i, (chL w n i).length <= i
 | 0 => Nat.le_refl _
 | i + 1 => by
  have := Qmc w n i
  rw [chL]; split <;> simp <;> omega
theorem Qqi {a : Int} {k : Nat} (hk : k <= 16) : IntKind.i64.wrap (a.tmod ((k : Int) + 1) - 1) = a.tmod ((k : Int) + 1) - 1 := by
 have h1 := Int.lt_tmod_of_pos a (show (0 : Int) < (k : Int) + 1 by omega)
 have h2 := Int.tmod_lt_of_pos a (show (0 : Int) < (k : Int) + 1 by omega)
 exact Qq (by omega) (by omega)
theorem Qqh {a : Int} {k : Nat} (h0 : 0 <= a) (h1 : a <= 9223372036854775807) : IntKind.i64.wrap (a.tdiv ((k : Int) + 1)) = a.tdiv ((k : Int) + 1) := by
 have := QnE (k := k) h0
 exact Qq (by omega) (by omega)
theorem Qnj {w : Qn} {db : List (List TermT)} : ∀ (n : Nat) (out : List StepT), (QbD w db n out).1.length <= out.length + n
 | 0, out => Nat.le_refl _
 | n + 1, out => by
  rw [QbD]
  split
  ·simp
  ·refine Nat.le_trans (Qnj n _) ?_
   have := QgP w out ⟨(ZD w db out).2, Qdq w (db.getD (ZD w db out).1.toNat []) (ZD w db out).2⟩ (ZD w db out).1
   omega
theorem QnK {v : Int} (h : (v + 1).toNat <= 61) : IntKind.i64.wrap ((1 : Int) * 2 ^ min (v + 1).toNat IntKind.i64.bits) = 2 ^ (v + 1).toNat := by
 rw [show min (v + 1).toNat IntKind.i64.bits = (v + 1).toNat from by simp only [IntKind.bits]; omega, Int.one_mul]
 have := Qh3 (i := (v + 1).toNat) (by omega)
 exact Qq (by omega) (by omega)
theorem Qns {α : Type} {f : α -> List D} {l : List α} {k : Int} (h : k = (l.length : Int)) : ((l.map f).take k.toNat).drop (((0 : Nat) : Int)).toNat = l.map f := by
 subst h; rw [Int.toNat_natCast, List.take_of_length_le (by simp)]; rfl
end M25
