/- Part 4 of the means of the proof: a verified abstract evaluator, the prepared functions, and contracts of functions. It states nothing of the claim by itself. -/
import Derived.Test.YtmlclkgmdndcdaaGreatB3
set_option linter.unusedSimpArgs false
set_option linter.unusedVariables false
namespace Go.Proofs
open Go Go.Abs M3 M25
set_option linter.unusedVariables false
set_option linter.unusedSimpArgs false
theorem Qdo {a b c : Int} {p q : List UInt8} (hp : p.length <= 1000000) (hq : q.length <= 1000000) {part : Int} : Ok Tryz.prog 109 [.agg [.int .i64 a, .int .i64 b, .int .i64 c, .str p, .str q], .int .i64 part] (dOV (Qak a b c p q part)) := by
 refine Ok.ofT ZT Tryz.func109 Qtg (Nat.le_of_ble_eq_true Z) ?_
 show TW _ _ tf109.body _ _
 refine Qf fun K hK => Zs Z Z Z (ZG Z (Qa Z (hK _ _ (Qb (kp3 Z Z Z) ?_))))
 refine QD ?_ -- 0
 refine Qf fun K hK => QJ (cs := [_, _, _, _, _]) Z Z Z Z (QG (Zj (by omega) (by omega)) Z Z (.inr Z) (Yk Z (Qa Z ?_)))
 refine QC (g := 10) Z (fun h1 => ?_) (fun h1 => ?_)
 ·try rw [h1]
  try simp only [qB] at h1
  refine Qs Z (Qs Z (Qm Z Z (Qa Z (Qs Z (Qs Z (Qm Z Z (hK _ _ (Qb (kp4 Z Z Z Z) ?_))))))))
  refine Zt Z (Qf fun K hK => QV Z Z (Q7 Z Z Z Z Z Z Z Z (Qa Z (hK _ _ (Qb (kp2 Z Z) ?_)))))
  refine Qv (Qk (Post.eq (XR (ds := [.int .i64 _, .int .i64 _, .int .i64 _, .str _, .str _]) (d' := .bool _) (cs := [_, _, _, _, _]) Z Z Z Z Z ⟨rfl, rfl⟩) ?_))
  first | (simp [Qak, dOV, h1]; done) | (simp_all [Qak, dOV]; done)
 ·try rw [h1]
  try simp only [qB] at h1
  refine Qi Z (Qa Z (Qi Z (Yd Z Z (Qm Z Z (Qa Z ?_)))))
  refine QC (g := 14) Z (fun h2 => ?_) (fun h2 => ?_)
  ·try rw [h2]
   try simp only [qB] at h2
   refine Qs Z (Qs Z (Qm Z Z (hK _ _ (Qb (kp4 Z Z Z Z) ?_))))
   refine Zt Z (Qf fun K hK => QV Z Z (Q7 Z Z Z Z Z Z Z Z (Qa Z (hK _ _ (Qb (kp2 Z Z) ?_)))))
   refine Qv (Qk (Post.eq (XR (ds := [.int .i64 _, .int .i64 _, .int .i64 _, .str _, .str _]) (d' := .bool _) (cs := [_, _, _, _, _]) Z Z Z Z Z ⟨rfl, rfl⟩) ?_))
   first | (simp [Qak, dOV, h1, h2]; done) | (simp_all [Qak, dOV]; done)
  ·try rw [h2]
   try simp only [qB] at h2
   refine Qi Z (Qa Z (Qi Z (QhT Z Z (Qm Z Z (hK _ _ (Qb (kp4 Z Z Z Z) ?_))))))
   refine Qx Z (fun h3 => ?_) (fun h3 => ?_)
   ·try rw [h3]
    try simp only [qB] at h3
    refine Qf fun K hK => QV Z Z (Q7 Z Z Z Z Z Z Z Z (Qa Z (hK _ _ (Qb (kp2 Z Z) ?_))))
    refine Qv (Qk (Post.eq (XR (ds := [.int .i64 _, .int .i64 _, .int .i64 _, .str _, .str _]) (d' := .bool _) (cs := [_, _, _, _, _]) Z Z Z Z Z ⟨rfl, rfl⟩) ?_))
    first | (simp [Qak, dOV, h1, h2, h3]; done) | (simp_all [Qak, dOV]; done)
   ·try rw [h3]
    try simp only [qB] at h3
    refine Qw (Qe (kp3 Z Z Z) (Qf fun K hK => ZG Z (hK _ _ (Qb (kp4 Z Z Z Z) ?_))))
    refine QD ?_ -- 1
    refine Qf fun K hK => Qa Z (hK _ _ (Qb (kp4 Z Z Z Z) ?_))
    refine Qz (Qf fun K hK => ZD Z Z (Qa Z (hK _ _ (Qb (kp5 Z Z Z Z Z) ?_))))
    refine Qx Z (fun h4 => ?_) (fun h4 => ?_)
    ·try rw [h4]
     try simp only [qB] at h4
     refine QO fun K hK => Qj Z Z (QB Z Z Z (QX Z Z (Qr (by have := QcO (by simpa using h1); omega) (by have := QcO (by simpa using h1); omega)) (QV Z Z (Q7 Z Z Z Z Z Z Z Z (hK _ ?_)))))
     refine Qh (Qe (kp2 Z Z) ?_)
     refine QD ?_ -- 2
     refine Qf fun K hK => QJ (cs := [_, _, _, _, _]) Z Z Z Z (QG (Zj (by simp) (by simp)) Z Z (.inr Z) (Yk Z (hK _ _ (Qb (kp3 Z Z Z) ?_))))
     refine Qx Z (fun h5 => ?_) (fun h5 => ?_)
     ·try rw [h5]
      try simp only [qB] at h5
      refine Qf fun K hK => QV Z Z (Q7 Z Z Z Z Z Z Z Z (Qa Z (hK _ _ (Qb (kp2 Z Z) ?_))))
      refine Qv (Qk (Post.eq (XR (ds := [.int .i64 _, .int .i64 _, .int .i64 _, .str _, .str _]) (d' := .bool _) (cs := [_, _, _, _, _]) Z Z Z Z Z ⟨rfl, rfl⟩) ?_))
      first | (simp [Qak, dOV, h1, h2, h3, h4, h5]; done) | (simp_all [Qak, dOV]; done)
     ·try rw [h5]
      try simp only [qB] at h5
      refine Qw (Qe (kp2 Z Z) (Qf fun K hK => QJ (cs := [_, _, _, _, _]) Z Z Z Z (Q7 Z Z Z Z Z Z Z Z (Qa Z (hK _ _ (Qb (kp2 Z Z) ?_))))))
      refine Qv (Post.eq (XR (ds := [.int .i64 _, .int .i64 _, .int .i64 _, .str _, .str _]) (d' := .bool _) (cs := [_, _, _, _, _]) Z Z Z Z Z ⟨rfl, rfl⟩) ?_)
      first | (simp [Qak, dOV, h1, h2, h3, h4, h5]; done) | (simp_all [Qak, dOV]; done)
    ·try rw [h4]
     try simp only [qB] at h4
     refine Qf fun K hK => ZD Z Z (Qa Z (hK _ _ (Qb (kp4 Z Z Z Z) ?_)))
     refine Qx Z (fun h6 => ?_) (fun h6 => ?_)
     ·try rw [h6]
      try simp only [qB] at h6
      refine QO fun K hK => Qj Z Z (QB Z Z Z (Qj Z Z (QB Z Z Z (QX Z Z (Qr (by have := QcO (by simpa using h1); omega) (by have := QcO (by simpa using h1); omega)) (QV Z Z (Q7 Z Z Z Z Z Z Z Z (hK _ ?_)))))))
      refine Qh (Qe (kp2 Z Z) ?_)
      refine QD ?_ -- 2
      refine Qf fun K hK => QJ (cs := [_, _, _, _, _]) Z Z Z Z (QG (Zj (by simp) (by simp)) Z Z (.inr Z) (Yk Z (hK _ _ (Qb (kp3 Z Z Z) ?_))))
      refine Qx Z (fun h7 => ?_) (fun h7 => ?_)
      ·try rw [h7]
       try simp only [qB] at h7
       refine Qf fun K hK => QV Z Z (Q7 Z Z Z Z Z Z Z Z (Qa Z (hK _ _ (Qb (kp2 Z Z) ?_))))
       refine Qv (Qk (Post.eq (XR (ds := [.int .i64 _, .int .i64 _, .int .i64 _, .str _, .str _]) (d' := .bool _) (cs := [_, _, _, _, _]) Z Z Z Z Z ⟨rfl, rfl⟩) ?_))
       first | (simp [Qak, dOV, h1, h2, h3, h4, h6, h7]; done) | (simp_all [Qak, dOV]; done)
      ·try rw [h7]
       try simp only [qB] at h7
       refine Qw (Qe (kp2 Z Z) (Qf fun K hK => QJ (cs := [_, _, _, _, _]) Z Z Z Z (Q7 Z Z Z Z Z Z Z Z (Qa Z (hK _ _ (Qb (kp2 Z Z) ?_))))))
       refine Qv (Post.eq (XR (ds := [.int .i64 _, .int .i64 _, .int .i64 _, .str _, .str _]) (d' := .bool _) (cs := [_, _, _, _, _]) Z Z Z Z Z ⟨rfl, rfl⟩) ?_)
       first | (simp [Qak, dOV, h1, h2, h3, h4, h6, h7]; done) | (simp_all [Qak, dOV]; done)
     ·try rw [h6]
      try simp only [qB] at h6
      refine QO fun K hK => Qj Z Z (QB Z Z Z (Qj Z Z (QB Z Z Z (Qj Z Z (QB Z Z Z (QX Z Z (Qr (by have := QcO (by simpa using h1); omega) (by have := QcO (by simpa using h1); omega)) (QV Z Z (Q7 Z Z Z Z Z Z Z Z (hK _ ?_)))))))))
      refine Qh (Qe (kp2 Z Z) ?_)
      refine QD ?_ -- 2
      refine Qf fun K hK => QJ (cs := [_, _, _, _, _]) Z Z Z Z (QG (Zj (by simp) (by simp)) Z Z (.inr Z) (Yk Z (hK _ _ (Qb (kp3 Z Z Z) ?_))))
      refine Qx Z (fun h8 => ?_) (fun h8 => ?_)
      ·try rw [h8]
       try simp only [qB] at h8
       refine Qf fun K hK => QV Z Z (Q7 Z Z Z Z Z Z Z Z (Qa Z (hK _ _ (Qb (kp2 Z Z) ?_))))
       refine Qv (Qk (Post.eq (XR (ds := [.int .i64 _, .int .i64 _, .int .i64 _, .str _, .str _]) (d' := .bool _) (cs := [_, _, _, _, _]) Z Z Z Z Z ⟨rfl, rfl⟩) ?_))
       first | (simp [Qak, dOV, h1, h2, h3, h4, h6, h8]; done) | (simp_all [Qak, dOV]; done)
      ·try rw [h8]
       try simp only [qB] at h8
       refine Qw (Qe (kp2 Z Z) (Qf fun K hK => QJ (cs := [_, _, _, _, _]) Z Z Z Z (Q7 Z Z Z Z Z Z Z Z (Qa Z (hK _ _ (Qb (kp2 Z Z) ?_))))))
       refine Qv (Post.eq (XR (ds := [.int .i64 _, .int .i64 _, .int .i64 _, .str _, .str _]) (d' := .bool _) (cs := [_, _, _, _, _]) Z Z Z Z Z ⟨rfl, rfl⟩) ?_)
       first | (simp [Qak, dOV, h1, h2, h3, h4, h6, h8]; done) | (simp_all [Qak, dOV]; done)
theorem Qdp {a b c : Int} {p q : List UInt8} (hp : p.length <= 1000000) (hq : q.length <= 1000000) : Ok Tryz.prog 95 [.agg [.int .i64 a, .int .i64 b, .int .i64 c, .str p, .str q]] (dOV (QjE a b c p q)) := by
 refine Ok.ofT ZT Tryz.func95 Qu5 (Nat.le_of_ble_eq_true Z) ?_
 show TW _ _ tf95.body _ _
 refine Qf fun K hK => Zs Z Z Z (ZG Z (Qa Z (hK _ _ (Qb (kp2 Z Z) ?_))))
 refine QD ?_ -- 0
 refine Qf fun K hK => QJ (cs := [_, _, _, _, _]) Z Z Z Z (QG (Zj (by omega) (by omega)) Z Z (.inr Z) (Yk Z (hK _ _ (Qb (kp3 Z Z Z) ?_))))
 refine Qx Z (fun h1 => ?_) (fun h1 => ?_)
 ·try rw [h1]
  try simp only [qB] at h1
  refine Qf fun K hK => QV Z Z (Q7 Z Z Z Z Z Z Z Z (Qa Z (hK _ _ (Qb (kp2 Z Z) ?_))))
  refine Qv (Qk (Post.eq (XR (ds := [.int .i64 _, .int .i64 _, .int .i64 _, .str _, .str _]) (d' := .bool _) (cs := [_, _, _, _, _]) Z Z Z Z Z ⟨rfl, rfl⟩) ?_))
  simp [QjE, dOV, h1]
 ·try rw [h1]
  try simp only [qB] at h1
  refine Qw (Qe (kp2 Z Z) ?_)
  refine QD ?_ -- 1
  refine Qf fun K hK => Qj Z Z (QB Z Z Z (Qm6 Z Z (hK _ _ (Qb (kp3 Z Z Z) ?_))))
  refine Qx Z (fun h2 => ?_) (fun h2 => ?_)
  ·try rw [h2]
   try simp only [qB] at h2
   refine Qf fun K hK => Qj Z Z (QB Z Z Z (Qj Z Z (QB Z Z Z (Qj Z Z (QB Z Z Z (QV Z Z (Q7 Z Z Z Z Z Z Z Z (Qa Z (hK _ _ (Qb (kp2 Z Z) ?_))))))))))
   refine Qv (Qk (Post.eq (XR (ds := [.int .i64 _, .int .i64 _, .int .i64 _, .str _, .str _]) (d' := .bool _) (cs := [_, _, _, _, _]) Z Z Z Z Z ⟨rfl, rfl⟩) ?_))
   simp [QjE, dOV, h1, h2]
  ·try rw [h2]
   try simp only [qB] at h2
   refine Qw (Qe (kp2 Z Z) ?_)
   refine QD ?_ -- 2
   refine Qf fun K hK => Qa Z (hK _ _ (Qb (kp3 Z Z Z) ?_))
   refine Qz ?_
   refine Zn (ι := Nat) (fun m => ⟨[(1, .ref 1 0 0), (2, .ref 2 0 0), (4, .int .i64 ((m : Int) - 1))], [(1, ⟨[[.int .i64 a, .int .i64 b, .int .i64 c, .str p, .str q]], 5, 68, true⟩), (2, ⟨[[.int .i64 0, .int .i64 0, .int .i64 0, .str [], .str []]], 5, 68, true⟩)]⟩) (fun m => m <= 3 /\ XU a b c p q 3 = XU a b c p q m) (fun m => m) 3 ?_ ?_ ?_
   ·exact Q3 (l := [1, 2, 4]) (lH := [1, 2]) (kp3 rfl rfl rfl) (Qg rfl (Qg rfl Qn)) rfl rfl rfl
   ·exact ⟨by omega, rfl⟩
   intro m hI
   obtain ⟨hI1, hI2⟩ := hI
   try dsimp only
   refine QD ?_ -- 3
   refine Qf fun K hK => Qa Z (Qfb Z Z (hK _ _ (Qb (kp4 Z Z Z Z) ?_)))
   refine Qx Z (fun h3 => ?_) (fun h3 => ?_)
   ·try rw [h3]
    try simp only [qB] at h3
    rcases Nat.eq_zero_or_pos m with hm | hm <;> first | omega | skip
    refine Qw (Qe (kp3 Z Z Z) ?_)
    refine QD ?_ -- 4
    refine Qz (Qf fun K hK => QJ (cs := [_, _, _, _, _]) Z Z Z Z (Qa Z (QG (Qdo (by omega) (by omega)) Z Z (.inl Z) (Qa Z (Zc Z Z (Zc Z Z (ZG Z (Q7 Z Z Z Z Z Z Z Z (Qa Z (hK _ _ (Qb (kp5 Z Z Z Z Z) ?_)))))))))))
    refine Qf fun K hK => Qa Z (hK _ _ (Qb (kp5 Z Z Z Z Z) ?_))
    refine Qx Z (fun h4 => ?_) (fun h4 => ?_)
    ·try rw [h4]
     try simp only [qB] at h4
     refine Qf fun K hK => QJ (cs := [_, _, _, _, _]) Z Z Z Z (Q7 Z Z Z Z Z Z Z Z (Qa Z (hK _ _ (Qb (kp2 Z Z) ?_))))
     refine Qv (Qu (Qk (Q2 (Qu (Qk (Post.eq (XR (ds := [.int .i64 _, .int .i64 _, .int .i64 _, .str _, .str _]) (d' := .bool _) (cs := [_, _, _, _, _]) Z Z Z Z Z ⟨rfl, rfl⟩) ?_))))))
     subst h2
     simp [QjE, dOV, h1, hI2, Qi9 hm h4, h4]
    ·try rw [h4]
     try simp only [qB] at h4
     refine Qw (Qh (Qe (kp3 Z Z Z) (QO fun K hK => Qa Z (X7 Z Z (by first | exact Qr (by omega) (by omega) | rfl) (Qa Z (hK _ ?_))))))
     refine Ql (m - 1) ?_ ?_ ?_
     ·refine Q3 (l := [1, 2, 4]) (lH := [1, 2]) (kp3 Z Z Z) (Qg Z (Qg Z Qn)) ?_ Z rfl; simp only [List.cons.injEq, Prod.mk.injEq, D.int.injEq, and_true, true_and]; omega
     ·exact ⟨by omega, by rw [hI2]; exact Qko hm h4⟩
     ·show m - 1 < m; omega
   ·try rw [h3]
    try simp only [qB] at h3
    rcases Nat.eq_zero_or_pos m with hm | hm <;> first | omega | skip
    refine Zk (QN (Qy (QF (Qe (kp1 Z) (Qf fun K hK => QV Z Z (Q7 Z Z Z Z Z Z Z Z (Qa Z (hK _ _ (Qb (kp2 Z Z) ?_)))))))))
    refine Qv (Post.eq (XR (ds := [.int .i64 _, .int .i64 _, .int .i64 _, .str _, .str _]) (d' := .bool _) (cs := [_, _, _, _, _]) Z Z Z Z Z ⟨rfl, rfl⟩) ?_)
    subst h2
    subst hm
    have hb : XU a b c [] q 3 = none := hI2
    simp [QjE, dOV, h1, hb]
end Go.Proofs
namespace Go.Proofs
open Go Go.Abs M3 M25
set_option linter.unusedVariables false
set_option linter.unusedSimpArgs false
theorem Qag {e a b c : Int} {p q : List UInt8} {f : Bool} : Ok Tryz.prog 117 [.agg [.int .i64 e, .int .i64 a, .int .i64 b, .int .i64 c, .str p, .str q, .bool f]] (.bool (QhC e a b c p q f)) := by
 refine Ok.ofT ZT Tryz.func117 Qto (Nat.le_of_ble_eq_true Z) ?_
 show TW _ _ tf117.body _ _
 refine Qf fun K hK => Zs Z Z Z (Qa Z (hK _ _ (Qb (kp1 Z) ?_)))
 refine Qf fun K hK => Qj Z Z (QB Z Z Z (Xv Z Z (Qa Z ?_)))
 refine QC (g := 6) Z (fun h1 => ?_) (fun h1 => ?_)
 ·try rw [h1]
  try simp only [qB] at h1
  refine Qs Z (Qs Z (Qs Z (Qs Z (ZJ Z (ZJ Z (ZJ Z (ZJ Z (Qs Z (Qs Z (ZJ Z (ZJ Z ?_)))))))))))
  refine ZJ Z (ZJ Z (Qs Z (Qm Z Z (Qa Z (hK _ _ (Qb (kp1 Z) ?_))))))
  refine Qv (Qt Z ?_)
  simp_all [QhC]
 ·try rw [h1]
  try simp only [qB] at h1
  refine Qi Z (Qj Z Z (Qi Z (QB Z Z Z (Qi Z (Yk Z (Qi Z (Qa Z ?_)))))))
  refine QC (g := 10) Z (fun h2 => ?_) (fun h2 => ?_)
  ·try rw [h2]
   try simp only [qB] at h2
   refine Qi Z (Qj Z Z (Qi Z (Qj Z Z (Qi Z (QB Z Z Z (Qi Z (QfL Z Z (Qi Z (Qm Z Z (Qi Z (Qa Z ?_)))))))))))
   refine QC (g := 16) Z (fun h3 => ?_) (fun h3 => ?_)
   ·try rw [h3]
    try simp only [qB] at h3
    refine Qi Z (Qj Z Z (Qi Z (QJ (cs := [_, _, _, _, _]) Z Z Z Z (Qi Z (QG (Qaf) Z Z (.inr Z) (Qi Z (Yk Z (Qi Z (Qm Z Z (Qm Z Z (Qa Z ?_)))))))))))
    refine hK _ _ (Qb (kp1 Z) ?_)
    refine Qv (Qt Z ?_)
    simp_all [QhC]
   ·try rw [h3]
    try simp only [qB] at h3
    refine Qs Z (Qs Z (Qs Z (Qs Z (Qi Z (Qm Z Z (Qm Z Z (Qa Z (hK _ _ (Qb (kp1 Z) ?_)))))))))
    refine Qv (Qt Z ?_)
    simp_all [QhC]
  ·try rw [h2]
   try simp only [qB] at h2
   refine Qs Z (Qs Z (Qs Z (Qs Z (Qi Z (Qm Z Z (Qi Z (Qa Z (Qs Z (Qs Z (Qs Z (Qs Z ?_)))))))))))
   refine Qi Z (Qm Z Z (Qm Z Z (Qa Z (hK _ _ (Qb (kp1 Z) ?_)))))
   refine Qv (Qt Z ?_)
   simp_all [QhC]
theorem Qda {a b c : Int} {p q : List UInt8} : Ok Tryz.prog 71 [.agg [.int .i64 a, .int .i64 b, .int .i64 c, .str p, .str q]] (.agg (dCu (Qgq a b c))) := by
 refine Ok.ofT ZT Tryz.func71 QuI (Nat.le_of_ble_eq_true Z) ?_
 show TW _ _ tf71.body _ _
 refine Qf fun K hK => Zs Z Z Z (ZG Z (hK _ _ (Qb (kp2 Z Z) ?_)))
 refine QD ?_ -- 0
 refine Qf fun K hK => QJ (cs := [_, _, _, _, _]) Z Z Z Z (QG (Qaf) Z Z (.inr Z) (hK _ _ (Qb (kp3 Z Z Z) ?_)))
 refine Qx Z (fun h1 => ?_) (fun h1 => ?_)
 ·try rw [h1]
  try simp only [qB] at h1
  refine Qf fun K hK => QG (Y8) Z Z (.inl Z) (Q7 Z Z Z Z Z Z Z Z (hK _ _ (Qb (kp1 Z) ?_)))
  refine Qv (Qk (Post.eq (ZK (ds := [.int .i64 _, .int .i64 _, .int .i64 _, .int .i64 _, .str _, .str _, .bool _]) (cs := [_, _, _, _, _, _, _]) Z Z Z Z Z) ?_))
  simp [Qgq, dCu, Qdd, h1]
 ·try rw [h1]
  try simp only [qB] at h1
  refine Qw (Qe (kp2 Z Z) (Qf fun K hK => Qj Z Z (QB Z Z Z (Qj Z Z (QB Z Z Z (Qj Z Z (QB Z Z Z (QV Z Z (QG (YU) Z Z (.inl Z) (Q7 Z Z Z Z Z Z Z Z ?_))))))))))
  refine hK _ _ (Qb (kp1 Z) ?_)
  refine Qv (Post.eq (ZK (ds := [.int .i64 _, .int .i64 _, .int .i64 _, .int .i64 _, .str _, .str _, .bool _]) (cs := [_, _, _, _, _, _, _]) Z Z Z Z Z) ?_)
  simp [Qgq, dCu, Qdd, h1]
theorem Qcc {a b c : Int} {p q : List UInt8} : Ok Tryz.prog 72 [.agg [.int .i64 a, .int .i64 b, .int .i64 c, .str p, .str q]] (.agg (dCu (Qd6 a b c))) := by
 refine Ok.ofT ZT Tryz.func72 QuJ (Nat.le_of_ble_eq_true Z) ?_
 show TW _ _ tf72.body _ _
 refine Qf fun K hK => Zs Z Z Z (ZG Z (hK _ _ (Qb (kp2 Z Z) ?_)))
 refine Qf fun K hK => Qj Z Z (QB Z Z Z (Qj Z Z (QB Z Z Z (Qj Z Z (QB Z Z Z (QV Z Z (QG (Qdp (by simp) (by simp)) Z Z (.inl Z) (Qa Z (Zc Z Z (Zc Z Z ?_))))))))))
 refine ZG Z (Q7 Z Z Z Z Z Z Z Z (Qa Z (hK _ _ (Qb (kp3 Z Z Z) ?_))))
 refine QD ?_ -- 0
 refine Qf fun K hK => Qa Z (Yk Z (hK _ _ (Qb (kp3 Z Z Z) ?_)))
 refine Qx Z (fun h1 => ?_) (fun h1 => ?_)
 ·try rw [h1]
  try simp only [qB] at h1
  refine Qf fun K hK => QG (Xn) Z Z (.inl Z) (Q7 Z Z Z Z Z Z Z Z (hK _ _ (Qb (kp1 Z) ?_)))
  refine Qv (Qk (Post.eq (ZK (ds := [.int .i64 _, .int .i64 _, .int .i64 _, .int .i64 _, .str _, .str _, .bool _]) (cs := [_, _, _, _, _, _, _]) Z Z Z Z Z) ?_))
  cases hn : QjE a b c [] [] <;> simp [Qd6, dCu, QgZ, hn] at *
 ·try rw [h1]
  try simp only [qB] at h1
  refine Qw (Qe (kp2 Z Z) (Qf fun K hK => QJ (cs := [_, _, _, _, _]) Z Z Z Z (QG (YU) Z Z (.inl Z) (Q7 Z Z Z Z Z Z Z Z (hK _ _ (Qb (kp1 Z) ?_))))))
  refine Qv (Post.eq (ZK (ds := [.int .i64 _, .int .i64 _, .int .i64 _, .int .i64 _, .str _, .str _, .bool _]) (cs := [_, _, _, _, _, _, _]) Z Z Z Z Z) ?_)
  cases hn : QjE a b c [] [] <;> simp [Qd6, dCu, QgZ, hn] at *
theorem Qah  : Ok Tryz.prog 112 [] (ZM [(Qdd, QgZ)]) := by
 refine Ok.ofT ZT Tryz.func112 Qtj (Nat.le_of_ble_eq_true Z) ?_
 show TW _ _ tf112.body _ _
 refine Qf fun K hK => Qa Z (hK _ _ (Qb (Q0) ?_))
 refine Qf fun K hK => QG (Y8) Z Z (.inl Z) (QG (Xn) Z Z (.inl Z) (QV Z Z (QI Z Z (Qa Z (hK _ _ (Qb (kp1 Z) ?_))))))
 refine Qv (Yg Z ?_)
 rfl
theorem Ye  : Ok Tryz.prog 68 [] (Qh3 ([], [])) := by
 refine Ok.ofT ZT Tryz.func68 QuF (Nat.le_of_ble_eq_true Z) ?_
 show TW _ _ tf68.body _ _
 refine Qf fun K hK => ZG Z (hK _ _ (Qb (kp1 Z) ?_))
 refine Qf fun K hK => QV Z Z (Q7 Z Z Z Z Z Z Z Z (hK _ _ (Qb (kp1 Z) ?_)))
 refine Qv (Post.eq (ZK (ds := [.sl _, .sl _]) (cs := [_, _]) Z Z Z Z Z) ?_)
 rfl
theorem QdO  : Ok Tryz.prog 98 [] (Qh3 ([(Qdd, QgZ)], [(Qdd, QgZ)])) := by
 refine Ok.ofT ZT Tryz.func98 Qu8 (Nat.le_of_ble_eq_true Z) ?_
 show TW _ _ tf98.body _ _
 refine Qf fun K hK => ZG Z (hK _ _ (Qb (kp1 Z) ?_))
 refine Qf fun K hK => QG (Qah) Z Z (.inl Z) (QG (Qah) Z Z (.inl Z) (QV Z Z (Q7 Z Z Z Z Z Z Z Z (hK _ _ (Qb (kp1 Z) ?_)))))
 refine Qv (Post.eq (ZK (ds := [.sl _, .sl _]) (cs := [_, _]) Z Z Z Z Z) ?_)
 rfl
theorem Qae {a b c : Int} {p q : List UInt8} (hp : p.length <= 1000000) (hq : q.length <= 1000000) : Ok Tryz.prog 41 [.agg [.int .i64 a, .int .i64 b, .int .i64 c, .str p, .str q]] (Qh3 (Xq a b c p q)) := by
 refine Ok.ofT ZT Tryz.func41 Quh (Nat.le_of_ble_eq_true Z) ?_
 show TW _ _ tf41.body _ _
 refine Qf fun K hK => Zs Z Z Z (ZG Z (hK _ _ (Qb (kp2 Z Z) ?_)))
 refine QD ?_ -- 0
 refine Qf fun K hK => QJ (cs := [_, _, _, _, _]) Z Z Z Z (QG (Zj (by omega) (by omega)) Z Z (.inr Z) (Yk Z (hK _ _ (Qb (kp3 Z Z Z) ?_))))
 refine Qx Z (fun h1 => ?_) (fun h1 => ?_)
 ·try rw [h1]
  try simp only [qB] at h1
  refine Qf fun K hK => QG (Ye) Z Z (.inl Z) (Q7 Z Z Z Z Z Z Z Z (hK _ _ (Qb (kp1 Z) ?_)))
  refine Qv (Qk (Post.eq (ZK (ds := [.sl _, .sl _]) (cs := [_, _]) Z Z Z Z Z) ?_))
  simp [Xq, Qh3, ZM, Qfe, dCu, h1]
 ·try rw [h1]
  try simp only [qB] at h1
  refine Qw (Qe (kp2 Z Z) ?_)
  refine QD ?_ -- 1
  refine Qf fun K hK => Qj Z Z (QB Z Z Z (Qm6 Z Z (hK _ _ (Qb (kp3 Z Z Z) ?_))))
  refine Qx Z (fun h2 => ?_) (fun h2 => ?_)
  ·try rw [h2]
   try simp only [qB] at h2
   refine Qf fun K hK => QM (ds0 := [6, 3, 2, 1, 0]) (cs := [_, _, _, _, _]) Z Z Z Z Z Z (QP (ds0 := [3, 2, 1, 0]) (YU) Z Z (.inl Z) Z Z (QM (ds0 := [4, 3, 2, 1, 0]) (cs := [_, _, _, _, _]) Z Z Z Z Z Z (QP (ds0 := [3, 2, 1, 0]) (Qcb) Z Z (.inl Z) Z Z (QV Z Z (QI Z Z (QV Z Z (Xd (ds0 := []) Z Z Z Z Z Z Z Z Z Z (hK _ _ (Qb (kp1 Z) ?_)))))))))
   refine Qv (Qk (Post.eq (ZK (ds := [.sl _, .sl _]) (cs := [_, _]) Z Z Z Z Z) ?_))
   simp [Xq, Qh3, ZM, Qfe, dCu, h1, h2]
  ·try rw [h2]
   try simp only [qB] at h2
   refine Qw (Qe (kp2 Z Z) (Qf fun K hK => QM (ds0 := [6, 3, 2, 1, 0]) (cs := [_, _, _, _, _]) Z Z Z Z Z Z (QP (ds0 := [3, 2, 1, 0]) (Qda) Z Z (.inl Z) Z Z (QM (ds0 := [4, 3, 2, 1, 0]) (cs := [_, _, _, _, _]) Z Z Z Z Z Z (QP (ds0 := [3, 2, 1, 0]) (Qcc) Z Z (.inl Z) Z Z (QV Z Z (QI Z Z (QV Z Z (Xd (ds0 := []) Z Z Z Z Z Z Z Z Z Z (hK _ _ (Qb (kp1 Z) ?_)))))))))))
   refine Qv (Post.eq (ZK (ds := [.sl _, .sl _]) (cs := [_, _]) Z Z Z Z Z) ?_)
   subst h2
   simp [Xq, Qh3, ZM, Qfe, dCu, h1]
end Go.Proofs
namespace Go.Proofs
open Go Go.Abs M3 M25
set_option linter.unusedVariables false
set_option linter.unusedSimpArgs false
theorem Z4 {l : List (Cu × Cu)} (hl : Sm l) : Ok Tryz.prog 116 [ZM l] (.bool (QeM l)) := by
 refine Ok.ofT ZT Tryz.func116 Qtn (Nat.le_of_ble_eq_true Z) ?_
 show TW _ _ tf116.body _ _
 have hn := hl.1
 refine Qf fun K hK => Qa Z (hK _ _ (Qb (kp1 Z) ?_))
 refine QD ?_ -- 0
 refine Qf fun K hK => Qa Z (hK _ _ (Qb (kp2 Z Z) ?_))
 refine Qz ?_
 refine Zn (ι := Nat) (fun i => ⟨[(0, ZM l), (3, .int .i64 i)], []⟩) (fun i => i <= l.length /\ (List.range i).all (QrN l) = true) (fun i => l.length - i) 0 ?_ ?_ ?_
 ·exact Zd (kp2 rfl rfl)
 ·exact ⟨Nat.zero_le _, rfl⟩
 intro i hI
 try dsimp only
 refine QD ?_ -- 1
 refine Qf fun K hK => Qa Z (Qa Z (QQ Z Z (Yd Z Z (hK _ _ (Qb (kp3 Z Z Z) ?_)))))
 refine Qx Z (fun h1 => ?_) (fun h1 => ?_)
 ·try rw [h1]
  try simp only [qA] at h1
  refine Qw (Qe (kp2 Z Z) ?_)
  refine QD ?_ -- 2
  refine Qz (Qf fun K hK => Qa Z (Qa Z (QK Z Z Z (by omega) (QT (by omega)) Z (QM (ds0 := [20, 19, 18, 17, 16, 15, 14, 13, 12, 11, 10, 9, 8, 7, 6, 5, 4, 3, 2, 1, 0]) (cs := [_, _, _, _, _, _, _, _, _, _, _, _, _, _]) Z Z Z Z Z Z (QP (ds0 := [19, 18, 17, 16, 15, 14, 13, 12, 11, 10, 9, 8, 7, 6, 5, 4, 3, 2, 1, 0]) (YL (hl.at (i := i) (by omega)).1.1 (hl.at (i := i) (by omega)).1.2 (hl.at (i := i) (by omega)).2.1 (hl.at (i := i) (by omega)).2.2) Z Z (.inr Z) Z Z (Yk Z (Qa Z ?_)))))))
  refine QC (g := 16) Z (fun h2 => ?_) (fun h2 => ?_)
  ·try rw [h2]
   try simp only [qA] at h2
   refine Qs Z (Qs Z (Qs Z (ZJ Z (ZJ Z (ZJ Z (ZJ Z (ZJ Z (ZJ Z (ZJ Z (ZJ Z (ZJ Z ?_)))))))))))
   refine ZJ Z (ZJ Z (ZJ Z (ZJ Z (Qs Z (Qm Z Z (hK _ _ (Qb (kp3 Z Z Z) ?_)))))))
   refine Zt Z (Qf fun K hK => Qa Z (hK _ _ (Qb (kp1 Z) ?_)))
   refine Qv (Qu (Qk (Q2 (Qu (Qk (Qt Z ?_))))))
   first
    | exact (QfD hI.2 (by omega)).symm
    | exact (QbN (i := i) (by omega) (QhI (by omega) (.inl h2))).symm
    | (simp only [Qei] at *; exact (QbN (i := i) (by omega) (QhI (by omega) (.inr ⟨by omega, h4⟩))).symm)
  ·try rw [h2]
   try simp only [qA] at h2
   refine Qi Z (Qa Z (Qi Z (QhT Z Z (Qi Z (Qa Z ?_)))))
   refine QC (g := 19) Z (fun h3 => ?_) (fun h3 => ?_)
   ·try rw [h3]
    try simp only [qA] at h3
    refine Qi Z (Qa Z (Qi Z (Qa Z (Qi Z (X7 Z Z (by first | exact Qr (by omega) (by omega) | rfl) (Qi Z (QK Z Z Z (by omega) (ZE (by omega) (by omega)) Z (Qi Z (Q9 Z Z (Qi Z (QM (ds0 := [3, 2, 1, 0]) (cs := [_, _, _, _, _, _, _]) Z Z Z Z Z Z ?_)))))))))))
    refine Qi Z (Qa Z (Qi Z (Qa Z (Qi Z (QK Z Z Z (by omega) (QT (by omega)) Z (Qi Z (Q9 Z Z (Qi Z (QM (ds0 := [3, 2, 1, 0]) (cs := [_, _, _, _, _, _, _]) Z Z Z Z Z Z (Qi Z (QP (ds0 := [2, 1, 0]) (Zy (hl.at (i := ((i : Int) - 1).toNat) (by omega)).2.1 (hl.at (i := ((i : Int) - 1).toNat) (by omega)).2.2 (hl.at (i := i) (by omega)).1.1 (hl.at (i := i) (by omega)).1.2) Z Z (.inr Z) Z Z ?_)))))))))))
    refine Qi Z (Qfb Z Z (Qi Z (Qm Z Z (Qm Z Z (hK _ _ (Qb (kp3 Z Z Z) ?_))))))
    refine Qx Z (fun h4 => ?_) (fun h4 => ?_)
    ·try rw [h4]
     try simp only [qA] at h4
     refine Qf fun K hK => Qa Z (hK _ _ (Qb (kp1 Z) ?_))
     refine Qv (Qu (Qk (Q2 (Qu (Qk (Qt Z ?_))))))
     first
      | exact (QfD hI.2 (by omega)).symm
      | exact (QbN (i := i) (by omega) (QhI (by omega) (.inl h2))).symm
      | (simp only [Qei] at *; exact (QbN (i := i) (by omega) (QhI (by omega) (.inr ⟨by omega, h4⟩))).symm)
    ·try rw [h4]
     try simp only [qA] at h4
     refine Qw (Qh (Qe (kp2 Z Z) (QO fun K hK => Qa Z (QX Z Z (by first | exact Qr (by omega) (by omega) | rfl) (Qa Z (hK _ ?_))))))
     refine Ql (i + 1) ?_ ?_ ?_
     ·exact Zd (kp2 rfl rfl)
     ·exact ⟨by omega, QiI hI.2 (Qqx (by omega) h2 (by first | exact .inl (by omega) | (simp only [Qei] at *; exact .inr (Int.not_le.1 h4))))⟩
     ·first | omega | (simp only; omega) | (dsimp only; omega)
   ·try rw [h3]
    try simp only [qA] at h3
    refine Qs Z (Qs Z (Qs Z (Qs Z (Qs Z (Qs Z (Qs Z (Qs Z (Qs Z (Qs Z (Qs Z (Qs Z ?_)))))))))))
    refine Qs Z (Qi Z (Qm Z Z (Qm Z Z (hK _ _ (Qb (kp3 Z Z Z) ?_)))))
    refine ZU Z (Qw (Qh (Qe (kp2 Z Z) (QO fun K hK => Qa Z (QX Z Z (by first | exact Qr (by omega) (by omega) | rfl) (Qa Z (hK _ ?_)))))))
    refine Ql (i + 1) ?_ ?_ ?_
    ·exact Zd (kp2 rfl rfl)
    ·exact ⟨by omega, QiI hI.2 (Qqx (by omega) h2 (by first | exact .inl (by omega) | (simp only [Qei] at *; exact .inr (Int.not_le.1 h4))))⟩
    ·first | omega | (simp only; omega) | (dsimp only; omega)
 ·try rw [h1]
  try simp only [qA] at h1
  refine Zk (QN (Qy (QF (Qe (Q0) (Qf fun K hK => Qa Z (hK _ _ (Qb (kp1 Z) ?_)))))))
  refine Qv (Qt Z ?_)
  first
   | exact (QfD hI.2 (by omega)).symm
   | exact (QbN (i := i) (by omega) (QhI (by omega) (.inl h2))).symm
   | (simp only [Qei] at *; exact (QbN (i := i) (by omega) (QhI (by omega) (.inr ⟨by omega, h4⟩))).symm)
theorem Qbe {l : List (Cu × Cu)} (hl : Sm l) {x y : Cu} (hx : Cu.sm x) (hy : Cu.sm y) : Ok Tryz.prog 120 [ZM l, .agg (dCu x), .agg (dCu y)] (.bool (mIn l x y)) := by
 refine Ok.ofT ZT Tryz.func120 Qtr (Nat.le_of_ble_eq_true Z) ?_
 show TW _ _ tf120.body _ _
 have hn := hl.1
 refine Qf fun K hK => Zs Z Z Z (Zs Z Z Z (Qa Z (hK _ _ (Qb (kp3 Z Z Z) ?_))))
 refine QD ?_ -- 0
 refine Qf fun K hK => Qa Z (hK _ _ (Qb (kp4 Z Z Z Z) ?_))
 refine Qz ?_
 refine Zn (ι := Nat) (fun i => ⟨[(0, ZM l), (4, .ref 4 0 0), (5, .ref 5 0 0), (7, .int .i64 i)], [(4, ⟨[dCu x], 7, 112, true⟩), (5, ⟨[dCu y], 7, 112, true⟩)]⟩) (fun i => i <= l.length /\ (l.take i).any (inC x y) = false) (fun i => l.length - i) 0 ?_ ?_ ?_
 ·exact Q3 (l := [0, 4, 5, 7]) (lH := [4, 5]) (kp4 rfl rfl rfl rfl) (Qg rfl (Qg rfl Qn)) rfl rfl rfl
 ·exact ⟨Nat.zero_le _, by simp⟩
 intro i hI
 try dsimp only
 refine QD ?_ -- 1
 refine Qf fun K hK => Qa Z (Qa Z (QQ Z Z (Yd Z Z (hK _ _ (Qb (kp5 Z Z Z Z Z) ?_)))))
 refine Qx Z (fun h1 => ?_) (fun h1 => ?_)
 ·try rw [h1]
  try simp only [qA] at h1
  refine Qw (Qe (kp4 Z Z Z Z) ?_)
  refine QD ?_ -- 2
  refine Qz (Qf fun K hK => Qa Z (Qa Z (QK Z Z Z (by omega) (QT (by omega)) Z (Q9 Z Z (QM (ds0 := [11, 10, 9, 8, 7, 6, 5, 4, 3, 2, 1, 0]) (cs := [_, _, _, _, _, _, _]) Z Z Z Z Z Z (QM (ds0 := [11, 10, 9, 8, 7, 6, 5, 4, 3, 2, 1, 0]) (cs := [_, _, _, _, _, _, _]) Z Z Z Z Z Z (QP (ds0 := [10, 9, 8, 7, 6, 5, 4, 3, 2, 1, 0]) (Zy (hl.at (i := i) (by omega)).1.1 (hl.at (i := i) (by omega)).1.2 hx.1 hx.2) Z Z (.inr Z) Z Z (Qqe Z Z (Qa Z ?_)))))))))
  refine QC (g := 22) Z (fun h2 => ?_) (fun h2 => ?_)
  ·try rw [h2]
   try simp only [qA] at h2
   refine Qi Z (QM (ds0 := [2, 1, 0]) (cs := [_, _, _, _, _, _, _]) Z Z Z Z Z Z (Qi Z (Qa Z (Qi Z (Qa Z (Qi Z (QK Z Z Z (by omega) (QT (by omega)) Z (Qi Z (Q9 Z Z (Qi Z (QM (ds0 := [2, 1, 0]) (cs := [_, _, _, _, _, _, _]) Z Z Z Z Z Z ?_)))))))))))
   refine Qi Z (QP (ds0 := [1, 0]) (Zy hy.1 hy.2 (hl.at (i := i) (by omega)).2.1 (hl.at (i := i) (by omega)).2.2) Z Z (.inr Z) Z Z (Qi Z (Qqe Z Z (Qm Z Z (hK _ _ (Qb (kp5 Z Z Z Z Z) ?_))))))
   refine Qx Z (fun h3 => ?_) (fun h3 => ?_)
   ·try rw [h3]
    try simp only [qA] at h3
    refine Qf fun K hK => Qa Z (hK _ _ (Qb (kp1 Z) ?_))
    refine Qv (Qu (Qk (Q2 (Qu (Qk (Qt Z ?_))))))
    first
     | exact (Qna (i := i) (by omega) hI.2).symm
     | exact (QhU (i := i) (by omega) (Qsf h2 h3)).symm
   ·try rw [h3]
    try simp only [qA] at h3
    refine Qw (Qh (Qe (kp4 Z Z Z Z) (QO fun K hK => Qa Z (QX Z Z (by first | exact Qr (by omega) (by omega) | rfl) (Qa Z (hK _ ?_))))))
    refine Ql (i + 1) ?_ ?_ ?_
    ·exact Q3 (l := [0, 4, 5, 7]) (lH := [4, 5]) (kp4 rfl rfl rfl rfl) (Qg rfl (Qg rfl Qn)) rfl rfl rfl
    ·exact ⟨by omega, QfQ (by omega) hI.2 (Qse (by first | exact .inl h2 | exact .inr h3))⟩
    ·first | omega | (simp only; omega) | (dsimp only; omega)
  ·try rw [h2]
   try simp only [qA] at h2
   refine Qs Z (Qs Z (Qs Z (Qs Z (Qs Z (Qs Z (Qs Z (Qs Z (Qm Z Z (hK _ _ (Qb (kp5 Z Z Z Z Z) ?_))))))))))
   refine ZU Z (Qw (Qh (Qe (kp4 Z Z Z Z) (QO fun K hK => Qa Z (QX Z Z (by first | exact Qr (by omega) (by omega) | rfl) (Qa Z (hK _ ?_)))))))
   refine Ql (i + 1) ?_ ?_ ?_
   ·exact Q3 (l := [0, 4, 5, 7]) (lH := [4, 5]) (kp4 rfl rfl rfl rfl) (Qg rfl (Qg rfl Qn)) rfl rfl rfl
   ·exact ⟨by omega, QfQ (by omega) hI.2 (Qse (by first | exact .inl h2 | exact .inr h3))⟩
   ·first | omega | (simp only; omega) | (dsimp only; omega)
 ·try rw [h1]
  try simp only [qA] at h1
  refine Zk (QN (Qy (QF (Qe (Q0) (Qf fun K hK => Qa Z (hK _ _ (Qb (kp1 Z) ?_)))))))
  refine Qv (Qt Z ?_)
  first
   | exact (Qna (i := i) (by omega) hI.2).symm
   | exact (QhU (i := i) (by omega) (Qsf h2 h3)).symm
end Go.Proofs
namespace Go.Proofs
open Go Go.Abs M3 M25
set_option linter.unusedVariables false
set_option linter.unusedSimpArgs false
theorem QaN {l : List (Cu × Cu)} (hl : Sm l) {a b c : Int} {p q : List UInt8} (hp : p.length <= 1000000) (hq : q.length <= 1000000) : Ok Tryz.prog 122 [ZM l, .agg [.int .i64 a, .int .i64 b, .int .i64 c, .str p, .str q]] (.bool (Qiv l a b c p q)) := by
 refine Ok.ofT ZT Tryz.func122 Qtt (Nat.le_of_ble_eq_true Z) ?_
 show TW _ _ tf122.body _ _
 have hn := hl.1
 refine Qf fun K hK => Zs Z Z Z (Qa Z (hK _ _ (Qb (kp2 Z Z) ?_)))
 refine QD ?_ -- 0
 refine Qf fun K hK => Qa Z (hK _ _ (Qb (kp3 Z Z Z) ?_))
 refine Qz ?_
 refine Zn (ι := Nat) (fun i => ⟨[(0, ZM l), (3, .ref 3 0 0), (5, .int .i64 i)], [(3, ⟨[[.int .i64 a, .int .i64 b, .int .i64 c, .str p, .str q]], 5, 68, true⟩)]⟩) (fun i => i <= l.length /\ (l.take i).any (fun s => Qiw s a b c p q) = false) (fun i => l.length - i) 0 ?_ ?_ ?_
 ·exact Q3 (l := [0, 3, 5]) (lH := [3]) (kp3 rfl rfl rfl) (Qg rfl Qn) rfl rfl rfl
 ·exact ⟨Nat.zero_le _, by simp⟩
 intro i hI
 try dsimp only
 refine QD ?_ -- 1
 refine Qf fun K hK => Qa Z (Qa Z (QQ Z Z (Yd Z Z (Qa Z ?_))))
 refine QC (g := 10) Z (fun h1 => ?_) (fun h1 => ?_)
 ·try rw [h1]
  try simp only [qA] at h1
  refine Qi Z (Qa Z (Qi Z (QG (Z4 hl) Z Z (.inr Z) (Qm Z Z (hK _ _ (Qb (kp4 Z Z Z Z) ?_))))))
  refine Qx Z (fun h2 => ?_) (fun h2 => ?_)
  ·try rw [h2]
   try simp only [qA] at h2
   refine Qw (Qe (kp3 Z Z Z) ?_)
   refine QD ?_ -- 2
   refine Qz (Qf fun K hK => Qa Z (Qa Z (QK Z Z Z (by omega) (QT (by omega)) Z (QM (ds0 := [0]) (cs := [_, _, _, _, _, _, _, _, _, _, _, _, _, _]) Z Z Z Z Z Z (QM (ds0 := [0]) (cs := [_, _, _, _, _]) Z Z Z Z Z Z (QP (ds0 := []) (Qc9 (hl.at (i := i) (by omega)).1.1 (hl.at (i := i) (by omega)).1.2 (hl.at (i := i) (by omega)).2.1 (hl.at (i := i) (by omega)).2.2 hp hq) Z Z (.inr Z) Z Z (hK _ _ (Qb (kp4 Z Z Z Z) ?_))))))))
   refine Qx Z (fun h3 => ?_) (fun h3 => ?_)
   ·try rw [h3]
    try simp only [qA] at h3
    refine Qf fun K hK => Qa Z (hK _ _ (Qb (kp1 Z) ?_))
    refine Qv (Qu (Qk (Q2 (Qu (Qk (Qt Z ?_))))))
    first
     | exact (Qif (i := i) (by omega) hI.2).symm
     | exact (Qig h2).symm
     | exact (Qih h2 (i := i) (by omega) h3).symm
   ·try rw [h3]
    try simp only [qA] at h3
    refine Qw (Qh (Qe (kp3 Z Z Z) (QO fun K hK => Qa Z (QX Z Z (by first | exact Qr (by omega) (by omega) | rfl) (Qa Z (hK _ ?_))))))
    refine Ql (i + 1) ?_ ?_ ?_
    ·exact Q3 (l := [0, 3, 5]) (lH := [3]) (kp3 rfl rfl rfl) (Qg rfl Qn) rfl rfl rfl
    ·exact ⟨by omega, QfQ (by omega) hI.2 h3⟩
    ·first | omega | (simp only; omega) | (dsimp only; omega)
  ·try rw [h2]
   try simp only [qA] at h2
   refine Zk (QN (Qy (QF (Qe (Q0) (Qf fun K hK => Qa Z (hK _ _ (Qb (kp1 Z) ?_)))))))
   refine Qv (Qt Z ?_)
   first
    | exact (Qif (i := i) (by omega) hI.2).symm
    | exact (Qig h2).symm
    | exact (Qih h2 (i := i) (by omega) h3).symm
 ·try rw [h1]
  try simp only [qA] at h1
  refine Qs Z (Qs Z (Qm Z Z (hK _ _ (Qb (kp4 Z Z Z Z) ?_))))
  refine ZU Z (Zk (QN (Qy (QF (Qe (Q0) (Qf fun K hK => Qa Z (hK _ _ (Qb (kp1 Z) ?_))))))))
  refine Qv (Qt Z ?_)
  first
   | exact (Qif (i := i) (by omega) hI.2).symm
   | exact (Qig h2).symm
   | exact (Qih h2 (i := i) (by omega) h3).symm
theorem YO {s : List (Cu × Cu) × List (Cu × Cu)} (h1s : Sm s.1) (h2s : Sm s.2) : Ok Tryz.prog 110 [Qh3 s] (.bool (Qgr s)) := by
 refine Ok.ofT ZT Tryz.func110 Qth (Nat.le_of_ble_eq_true Z) ?_
 show TW _ _ tf110.body _ _
 have hn := h1s.1
 refine Qf fun K hK => Zs Z Z Z (Qa Z (hK _ _ (Qb (kp1 Z) ?_)))
 refine QD ?_ -- 0
 refine Qf fun K hK => Qj Z Z (QB Z Z Z (QG (Z4 h1s) Z Z (.inr Z) (Yk Z (Qa Z ?_))))
 refine QC (g := 8) Z (fun h1 => ?_) (fun h1 => ?_)
 ·try rw [h1]
  try simp only [qA] at h1
  refine Qs Z (Qs Z (Qs Z (Qs Z (Qm Z Z (hK _ _ (Qb (kp2 Z Z) ?_))))))
  refine Zt Z (Qf fun K hK => Qa Z (hK _ _ (Qb (kp1 Z) ?_)))
  refine Qv (Qk (Qt Z ?_))
  first
   | exact (Qef (i := i) h1 h2 (by omega) hI.2).symm
   | exact (Qa5 (i := i) (by omega) (.inl h4)).symm
   | exact (Qa5 (i := i) (by omega) (.inr h5)).symm
   | exact (Qa6 (.inl h1)).symm
   | exact (Qa6 (.inr h2)).symm
 ·try rw [h1]
  try simp only [qA] at h1
  refine Qi Z (Qj Z Z (Qi Z (QB Z Z Z (Qi Z (QG (Z4 h2s) Z Z (.inr Z) (Qi Z (Yk Z (Qm Z Z (hK _ _ (Qb (kp2 Z Z) ?_))))))))))
  refine Qx Z (fun h2 => ?_) (fun h2 => ?_)
  ·try rw [h2]
   try simp only [qA] at h2
   refine Qf fun K hK => Qa Z (hK _ _ (Qb (kp1 Z) ?_))
   refine Qv (Qk (Qt Z ?_))
   first
    | exact (Qef (i := i) h1 h2 (by omega) hI.2).symm
    | exact (Qa5 (i := i) (by omega) (.inl h4)).symm
    | exact (Qa5 (i := i) (by omega) (.inr h5)).symm
    | exact (Qa6 (.inl h1)).symm
    | exact (Qa6 (.inr h2)).symm
  ·try rw [h2]
   try simp only [qA] at h2
   refine Qw (Qe (kp1 Z) ?_)
   refine QD ?_ -- 1
   refine Qf fun K hK => Qa Z (hK _ _ (Qb (kp2 Z Z) ?_))
   refine Qz ?_
   refine Zn (ι := Nat) (fun i => ⟨[(1, .ref 1 0 0), (3, .int .i64 i)], [(1, ⟨[[ZM s.1, ZM s.2]], 2, 78, true⟩)]⟩) (fun i => i <= s.1.length /\ (s.1.take i).all (fun x => QbW x.1 && QbW x.2) = true) (fun i => s.1.length - i) 0 ?_ ?_ ?_
   ·exact Q3 (l := [1, 3]) (lH := [1]) (kp2 rfl rfl) (Qg rfl Qn) rfl rfl rfl
   ·exact ⟨Nat.zero_le _, by simp⟩
   intro i hI
   try dsimp only
   refine QD ?_ -- 2
   refine Qf fun K hK => Qa Z (Qj Z Z (QB Z Z Z (QQ Z Z (Yd Z Z (hK _ _ (Qb (kp3 Z Z Z) ?_))))))
   refine Qx Z (fun h3 => ?_) (fun h3 => ?_)
   ·try rw [h3]
    try simp only [qA] at h3
    refine Qw (Qe (kp2 Z Z) ?_)
    refine QD ?_ -- 3
    refine Qz (Qf fun K hK => Qj Z Z (QB Z Z Z (Qa Z (QK Z Z Z (by omega) (QT (by omega)) Z (Q9 Z Z (QJ (cs := [_, _, _, _, _, _, _]) Z Z Z Z (QG (Qag) Z Z (.inr Z) (Yk Z (Qa Z ?_)))))))))
    refine QC (g := 29) Z (fun h4 => ?_) (fun h4 => ?_)
    ·try rw [h4]
     try simp only [qA] at h4
     refine Qs Z (Qs Z (Qs Z (Qs Z (Qs Z (Qs Z (Qs Z (Qs Z (Qm Z Z (hK _ _ (Qb (kp3 Z Z Z) ?_))))))))))
     refine Zt Z (Qf fun K hK => Qa Z (hK _ _ (Qb (kp1 Z) ?_)))
     refine Qv (Qu (Qk (Q2 (Qu (Qk (Qt Z ?_))))))
     first
      | exact (Qef (i := i) h1 h2 (by omega) hI.2).symm
      | exact (Qa5 (i := i) (by omega) (.inl h4)).symm
      | exact (Qa5 (i := i) (by omega) (.inr h5)).symm
      | exact (Qa6 (.inl h1)).symm
      | exact (Qa6 (.inr h2)).symm
    ·try rw [h4]
     try simp only [qA] at h4
     refine Qi Z (Qj Z Z (Qi Z (QB Z Z Z (Qi Z (Qa Z (Qi Z (QK Z Z Z (by omega) (QT (by omega)) Z (Qi Z (Q9 Z Z (Qi Z (QJ (cs := [_, _, _, _, _, _, _]) Z Z Z Z ?_)))))))))))
     refine Qi Z (QG (Qag) Z Z (.inr Z) (Qi Z (Yk Z (Qm Z Z (hK _ _ (Qb (kp3 Z Z Z) ?_))))))
     refine Qx Z (fun h5 => ?_) (fun h5 => ?_)
     ·try rw [h5]
      try simp only [qA] at h5
      refine Qf fun K hK => Qa Z (hK _ _ (Qb (kp1 Z) ?_))
      refine Qv (Qu (Qk (Q2 (Qu (Qk (Qt Z ?_))))))
      first
       | exact (Qef (i := i) h1 h2 (by omega) hI.2).symm
       | exact (Qa5 (i := i) (by omega) (.inl h4)).symm
       | exact (Qa5 (i := i) (by omega) (.inr h5)).symm
       | exact (Qa6 (.inl h1)).symm
       | exact (Qa6 (.inr h2)).symm
     ·try rw [h5]
      try simp only [qA] at h5
      refine Qw (Qh (Qe (kp2 Z Z) (QO fun K hK => Qa Z (QX Z Z (by first | exact Qr (by omega) (by omega) | rfl) (Qa Z (hK _ ?_))))))
      refine Ql (i + 1) ?_ ?_ ?_
      ·exact Q3 (l := [1, 3]) (lH := [1]) (kp2 rfl rfl) (Qg rfl Qn) rfl rfl rfl
      ·exact ⟨by omega, Yj (by omega) hI.2 (by rw [show QbW s.1[i].1 = true from h4, show QbW s.1[i].2 = true from h5]; rfl)⟩
      ·first | omega | (simp only; omega) | (dsimp only; omega)
   ·try rw [h3]
    try simp only [qA] at h3
    refine Zk (QN (Qy (QF (Qe (Q0) (Qf fun K hK => Qa Z (hK _ _ (Qb (kp1 Z) ?_)))))))
    refine Qv (Qt Z ?_)
    first
     | exact (Qef (i := i) h1 h2 (by omega) hI.2).symm
     | exact (Qa5 (i := i) (by omega) (.inl h4)).symm
     | exact (Qa5 (i := i) (by omega) (.inr h5)).symm
     | exact (Qa6 (.inl h1)).symm
     | exact (Qa6 (.inr h2)).symm
theorem QdP {s : List (Cu × Cu) × List (Cu × Cu)} (h1s : Sm s.1) (h2s : Sm s.2) {a b c : Int} {p q : List UInt8} (hp : p.length <= 1000000) (hq : q.length <= 1000000) : Ok Tryz.prog 114 [Qh3 s, .agg [.int .i64 a, .int .i64 b, .int .i64 c, .str p, .str q]] (.bool (QmH s a b c p q)) := by
 refine Ok.ofT ZT Tryz.func114 Qtl (Nat.le_of_ble_eq_true Z) ?_
 show TW _ _ tf114.body _ _
 refine Qf fun K hK => Zs Z Z Z (Zs Z Z Z (Qa Z (hK _ _ (Qb (kp2 Z Z) ?_))))
 refine QD ?_ -- 0
 refine Qf fun K hK => QJ (cs := [_, _]) Z Z Z Z (QG (YO h1s h2s) Z Z (.inr Z) (Yk Z (Qa Z ?_)))
 refine QC (g := 8) Z (fun h1 => ?_) (fun h1 => ?_)
 ·try rw [h1]
  try simp only [qB] at h1
  refine Qs Z (Qs Z (Qs Z (Qm Z Z (hK _ _ (Qb (kp3 Z Z Z) ?_)))))
  refine Zt Z (Qf fun K hK => Qa Z (hK _ _ (Qb (kp1 Z) ?_)))
  refine Qv (Qk (Qt Z ?_))
  simp_all [QmH]
 ·try rw [h1]
  try simp only [qB] at h1
  refine Qi Z (QJ (cs := [_, _, _, _, _]) Z Z Z Z (Qi Z (QG (Zj hp hq) Z Z (.inr Z) (Qi Z (Yk Z (Qm Z Z (hK _ _ (Qb (kp3 Z Z Z) ?_))))))))
  refine Qx Z (fun h2 => ?_) (fun h2 => ?_)
  ·try rw [h2]
   try simp only [qB] at h2
   refine Qf fun K hK => Qa Z (hK _ _ (Qb (kp1 Z) ?_))
   refine Qv (Qk (Qt Z ?_))
   simp_all [QmH]
  ·try rw [h2]
   try simp only [qB] at h2
   refine Qw (Qe (kp2 Z Z) ?_)
   refine QD ?_ -- 1
   refine Qf fun K hK => Qj Z Z (QB Z Z Z (QfL Z Z (hK _ _ (Qb (kp3 Z Z Z) ?_))))
   refine Qx Z (fun h3 => ?_) (fun h3 => ?_)
   ·try rw [h3]
    try simp only [qB] at h3
    refine Qf fun K hK => Qj Z Z (QB Z Z Z (QJ (cs := [_, _, _, _, _]) Z Z Z Z (QG (QaN h1s hp hq) Z Z (.inr Z) (Qa Z (hK _ _ (Qb (kp1 Z) ?_))))))
    refine Qv (Qk (Qt Z ?_))
    simp_all [QmH]
   ·try rw [h3]
    try simp only [qB] at h3
    refine Qw (Qe (kp2 Z Z) (Qf fun K hK => Qj Z Z (QB Z Z Z (QJ (cs := [_, _, _, _, _]) Z Z Z Z (QG (QaN h2s hp hq) Z Z (.inr Z) (Qa Z (hK _ _ (Qb (kp1 Z) ?_))))))))
    refine Qv (Qt Z ?_)
    simp_all [QmH]
end Go.Proofs
namespace Go.Proofs
open Go Go.Abs M3 M25
set_option linter.unusedVariables false
set_option linter.unusedSimpArgs false
theorem QaP {l : List Cu} {c : Cu} (hl : l.length <= 3000000) (hs : ∀ x ∈ l, Cu.sm x) (hc : Cu.sm c) : Ok Tryz.prog 125 [Qh2 l, .agg (dCu c)] (Qh2 (Qct l c)) := by
 refine Ok.ofT ZT Tryz.func125 Qtw (Nat.le_of_ble_eq_true Z) ?_
 show TW _ _ tf125.body _ _
 refine Qf fun K hK => Zs Z Z Z (Qa Z (hK _ _ (Qb (kp2 Z Z) ?_)))
 refine Qf fun K hK => Qa Z (hK _ _ (Qb (kp3 Z Z Z) ?_))
 refine QD ?_ -- 0
 refine Qz ?_
 refine Zn (ι := Nat) (fun k => ⟨[(0, Qh2 l), (3, .ref 3 0 0), (5, .int .i64 k)], [(3, ⟨[dCu c], 7, 112, true⟩)]⟩) (fun k => k <= l.length /\ Qct l c = l.take k ++ Qct (l.drop k) c) (fun k => l.length - k) 0 ?_ ?_ ?_
 ·exact Q3 (l := [0, 3, 5]) (lH := [3]) (kp3 rfl rfl rfl) (Qg rfl Qn) rfl rfl rfl
 ·exact ⟨Nat.zero_le _, by simp⟩
 intro k hI
 try dsimp only
 refine QD ?_ -- 1
 refine Qf fun K hK => Qa Z (Qa Z (QQ Z Z (Yd Z Z (Qa Z ?_))))
 refine QC (g := 10) Z (fun h1 => ?_) (fun h1 => ?_)
 ·try rw [h1]
  try simp only [qA] at h1
  refine Qi Z (Qa Z (Qi Z (Qa Z (Qi Z (QK Z Z Z (by omega) (QT (by omega)) Z (Qi Z (QM (ds0 := [2, 1, 0]) (cs := [_, _, _, _, _, _, _]) Z Z Z Z Z Z (Qi Z (QM (ds0 := [2, 1, 0]) (cs := [_, _, _, _, _, _, _]) Z Z Z Z Z Z (Qi Z (QP (ds0 := [1, 0]) (Zy (hs _ (List.getElem_mem (by omega))).1 (hs _ (List.getElem_mem (by omega))).2 hc.1 hc.2) Z Z (.inr Z) Z Z ?_)))))))))))
  refine Qi Z (Yd Z Z (Qm Z Z (hK _ _ (Qb (kp4 Z Z Z Z) ?_))))
  refine Qx Z (fun h2 => ?_) (fun h2 => ?_)
  ·try rw [h2]
   try simp only [qA] at h2
   refine Qw (Qe (kp3 Z Z Z) (Qz (QO fun K hK => Qa Z (QX Z Z (by first | exact Qr (by omega) (by omega) | rfl) (Qa Z (hK _ ?_))))))
   refine Qh ?_
   refine Ql (k + 1) ?_ ?_ ?_
   ·exact Q3 (l := [0, 3, 5]) (lH := [3]) (kp3 rfl rfl rfl) (Qg rfl Qn) rfl rfl rfl
   ·exact ⟨by omega, Qn8 (by omega) h2 hI.2⟩
   ·first | omega | (simp only; omega) | (dsimp only; omega)
  ·try rw [h2]
   try simp only [qA] at h2
   refine Zk (QN (Qy (QF (Qe (kp3 Z Z Z) ?_))))
   refine QD ?_ -- 2
   refine Qf fun K hK => Qa Z (Qa Z (QQ Z Z (Yd Z Z (Qa Z ?_))))
   refine QC (g := 25) Z (fun h3 => ?_) (fun h3 => ?_)
   ·try rw [h3]
    try simp only [qA] at h3
    refine Qi Z (Qa Z (Qi Z (Qa Z (Qi Z (QK Z Z Z (by omega) (QT (by omega)) Z (Qi Z (QM (ds0 := [2, 1, 0]) (cs := [_, _, _, _, _, _, _]) Z Z Z Z Z Z (Qi Z (QM (ds0 := [2, 1, 0]) (cs := [_, _, _, _, _, _, _]) Z Z Z Z Z Z (Qi Z (QP (ds0 := [1, 0]) (Zy (hs _ (List.getElem_mem (by omega))).1 (hs _ (List.getElem_mem (by omega))).2 hc.1 hc.2) Z Z (.inr Z) Z Z ?_)))))))))))
    refine Qi Z (ZD Z Z (Qm Z Z (hK _ _ (Qb (kp4 Z Z Z Z) ?_))))
    refine Qx Z (fun h4 => ?_) (fun h4 => ?_)
    ·try rw [h4]
     try simp only [qA] at h4
     refine Qf fun K hK => Qa Z (Qa Z (hK _ _ (Qb (kp1 Z) ?_)))
     refine Qv (Qk (Yg Z ?_))
     rw [Qn7 (k := k) (by omega) (by assumption) hI.2]; rfl
    ·try rw [h4]
     try simp only [qA] at h4
     refine Qw (Qe (kp3 Z Z Z) (Qf fun K hK => Qa Z (Qa Z (Qeu Z Z Z Z (by omega) (by omega) (by simp; omega) QjW Z (Qet (ds0 := [5, 1, 0]) Z Z (fun _ h => ⟨QpU, h⟩) Z (.inl Z) (by simp) (by simp; omega) (by simp; omega) Z Z (QM (ds0 := [6, 5, 1, 0]) (cs := [_, _, _, _, _, _, _]) Z Z Z Z Z Z (QI Z Z (Qbr (ds0 := [1, 0]) Z Z (by simp [D.ids, D.sid]) ⟨_, rfl, rfl, rfl, rfl, rfl⟩ Z Z (by simp) Z Z (by simp; omega) (by simp; omega) Z Z (Qa Z (Qa Z ?_))))))))))
     refine Qeu Z Z Z Z (by omega) (by simp; omega) (by simp) QjW Z (Qbr (ds0 := [0]) Z Z (by simp [D.ids, D.sid]) ⟨rfl, QpU, rfl⟩ Z Z (by simp) Z Z (by simp; omega) (by simp; omega) Z Z (Qa Z (hK _ _ (Qb (kp1 Z) ?_))))
     refine Qv (Yg Z ?_)
     rw [QlN (k := k) (by first | exact .inl (by omega) | exact .inr ⟨by omega, by assumption, by assumption⟩) hI.2]; simp [Qbb, D.fz, D.fzS, QdC, lk, D.can, D.canS, Qh2, D.sid, (show ∀ a b : Nat, a + 1 + b = a + (b + 1) from fun a b => by omega), List.take_of_length_le (show (l.map dCu).length <= l.length by simp)] <;> rfl
   ·try rw [h3]
    try simp only [qA] at h3
    exact absurd h1 h3
 ·try rw [h1]
  try simp only [qA] at h1
  refine Qs Z (Qs Z (Qs Z (Qs Z (Qs Z (Qs Z (Qs Z (Qm Z Z (hK _ _ (Qb (kp4 Z Z Z Z) ?_)))))))))
  refine ZU Z (Zk (QN (Qy (QF (Qe (kp3 Z Z Z) ?_)))))
  refine QD ?_ -- 2
  refine Qf fun K hK => Qa Z (Qa Z (QQ Z Z (Yd Z Z (Qa Z ?_))))
  refine QC (g := 25) Z (fun h5 => ?_) (fun h5 => ?_)
  ·try rw [h5]
   try simp only [qA] at h5
   exact absurd h5 h1
  ·try rw [h5]
   try simp only [qA] at h5
   refine Qs Z (Qs Z (Qs Z (Qs Z (Qs Z (Qs Z (Qs Z (Qm Z Z (hK _ _ (Qb (kp4 Z Z Z Z) ?_)))))))))
   refine ZU Z (Qw (Qe (kp3 Z Z Z) (Qf fun K hK => Qa Z (Qa Z (Qeu Z Z Z Z (by omega) (by omega) (by simp; omega) QjW Z (Qet (ds0 := [5, 1, 0]) Z Z (fun _ h => ⟨QpU, h⟩) Z (.inl Z) (by simp) (by simp; omega) (by simp; omega) Z Z (QM (ds0 := [6, 5, 1, 0]) (cs := [_, _, _, _, _, _, _]) Z Z Z Z Z Z (QI Z Z (Qbr (ds0 := [1, 0]) Z Z (by simp [D.ids, D.sid]) ⟨_, rfl, rfl, rfl, rfl, rfl⟩ Z Z (by simp) Z Z (by simp; omega) (by simp; omega) Z Z (Qa Z ?_))))))))))
   refine Qa Z (Qeu Z Z Z Z (by omega) (by simp; omega) (by simp) QjW Z (Qbr (ds0 := [0]) Z Z (by simp [D.ids, D.sid]) ⟨rfl, QpU, rfl⟩ Z Z (by simp) Z Z (by simp; omega) (by simp; omega) Z Z (Qa Z (hK _ _ (Qb (kp1 Z) ?_)))))
   refine Qv (Yg Z ?_)
   rw [QlN (k := k) (by first | exact .inl (by omega) | exact .inr ⟨by omega, by assumption, by assumption⟩) hI.2]; simp [Qbb, D.fz, D.fzS, QdC, lk, D.can, D.canS, Qh2, D.sid, (show ∀ a b : Nat, a + 1 + b = a + (b + 1) from fun a b => by omega), List.take_of_length_le (show (l.map dCu).length <= l.length by simp)] <;> rfl
theorem Qax {l : List (Cu × Cu)} (hl : Sm l) : Ok Tryz.prog 119 [ZM l] (Qh2 (Y1 l)) := by
 refine Ok.ofT ZT Tryz.func119 Qtq (Nat.le_of_ble_eq_true Z) ?_
 show TW _ _ tf119.body _ _
 have hn := hl.1
 refine Qf fun K hK => Qa Z (hK _ _ (Qb (kp1 Z) ?_))
 refine Qf fun K hK => QG (Y8) Z Z (.inl Z) (QG (Xn) Z Z (.inl Z) (QI Z Z (Qa Z (hK _ _ (Qb (kp2 Z Z) ?_)))))
 refine QD ?_ -- 0
 refine Qf fun K hK => Qa Z (hK _ _ (Qb (kp3 Z Z Z) ?_))
 refine Qz ?_
 refine Zn (ι := Nat) (fun i => ⟨[(0, ZM l), (3, Qh2 (Y1 (l.take i))), (4, .int .i64 i)], []⟩) (fun i => i <= l.length) (fun i => l.length - i) 0 ?_ ?_ ?_
 ·exact le_trans (Qjw 7 _ (by decide)) (Q3 (l := [0, 3, 4]) (lH := []) (kp3 rfl rfl rfl) Qn rfl rfl rfl)
 ·exact Nat.zero_le _
 intro i hI
 try dsimp only
 refine QD ?_ -- 1
 refine Qf fun K hK => Qa Z (Qa Z (QQ Z Z (Yd Z Z (hK _ _ (Qb (kp4 Z Z Z Z) ?_)))))
 refine Qx Z (fun h1 => ?_) (fun h1 => ?_)
 ·try rw [h1]
  try simp only [qA] at h1
  refine Qw (Qe (kp3 Z Z Z) ?_)
  refine QD ?_ -- 2
  refine Qz (QO fun K hK => Qa Z (Qa Z (Qa Z (QK Z Z Z (by omega) (QT (by omega)) Z (Q9 Z Z (QM (ds0 := [7, 1, 0]) (cs := [_, _, _, _, _, _, _]) Z Z Z Z Z Z (QP (ds0 := [1, 0]) (QaP (Nat.le_trans (Qfw hl i).1 (by omega)) (Qfw hl i).2 (hl.2 _ (List.getElem_mem (by omega))).1) Z Z (.inl Z) Z Z (Qa Z (Qa Z (QK Z Z Z (by omega) (QT (by omega)) Z ?_))))))))))
  refine Q9 Z Z (QM (ds0 := [1, 0]) (cs := [_, _, _, _, _, _, _]) Z Z Z Z Z Z (QP (ds0 := [0]) (QaP (Nat.le_trans (Qfx _ _) (by have := (Qfw hl i).1; omega)) (Qiy (Qfw hl i).2 (hl.2 _ (List.getElem_mem (by omega))).1) (hl.2 _ (List.getElem_mem (by omega))).2) Z Z (.inl Z) Z Z (Qa Z (hK _ ?_))))
  refine Qh (Qe (kp3 Z Z Z) (QO fun K hK => Qa Z (QX Z Z (by first | exact Qr (by omega) (by omega) | rfl) (Qa Z (hK _ ?_)))))
  refine Ql (i + 1) ?_ ?_ ?_
  ·exact Q3 (l := [0, 3, 4]) (lH := []) (kp3 rfl rfl rfl) Qn (by rw [QpE (by omega)]; rfl) rfl rfl
  ·omega
  ·first | omega | (simp only; omega) | (dsimp only; omega)
 ·try rw [h1]
  try simp only [qA] at h1
  refine Zk (QN (Qy (QF (Qe (kp1 Z) (Qf fun K hK => Qa Z (Qa Z (hK _ _ (Qb (kp1 Z) ?_))))))))
  refine Qv (Yg Z ?_)
  rw [List.take_of_length_le (show l.length <= i by omega)]; rfl
end Go.Proofs
namespace Go.Proofs
open Go Go.Abs M3 M25
set_option linter.unusedVariables false
set_option linter.unusedSimpArgs false
theorem Qay {l : List (Cu × Cu)} {x y : Cu} (hn : l.length <= 3000000) (hl : ∀ s ∈ l, Cu.sm s.1 /\ Cu.sm s.2) (hx : Cu.sm x) (hy : Cu.sm y) : OkH Tryz.prog 121 [.osl 500000 l.length, .agg (dCu x), .agg (dCu y)] [(500000, ⟨l.map Qfe, 14, 115, true⟩)] (.osl 500000 (Qcs l x y).length) [(500000, ⟨(Qcs l x y).map Qfe, 14, 115, true⟩)] := by
 refine OkH.mv ZT Tryz.func121 Qts (Nat.le_of_ble_eq_true Z) Z ?_
 show TW _ _ tf121.body _ _
 refine Qf fun K hK => Zs Z Z Z (Zs Z Z Z (Qa Z (hK _ _ (Qb (kp3 Z Z Z) ?_))))
 refine QD ?_ -- 0
 refine Qf fun K hK => Qa Z (QQ Z Z (X7 Z Z (by first | exact Qr (by omega) (by omega) | rfl) (Qa Z (hK _ _ (Qb (kp4 Z Z Z Z) ?_)))))
 refine Qf fun K hK => Qa Z (Qfb Z Z (Qa Z ?_))
 refine QC (g := 13) Z (fun h1 => ?_) (fun h1 => ?_)
 ·try rw [h1]
  try simp only [qA] at h1
  refine Qi Z (Qa Z (Qi Z (Qa Z (Qi Z (Xu (ds0 := [5, 4, 2, 1, 0]) Z Z Z (by simp) (by omega) (by omega) Z Z Z (Qi Z (Qj Z Z (Qi Z (QM (ds0 := [2, 1, 0]) (cs := [_, _, _, _, _, _, _]) Z (Yb Z (ZE (by omega) (by omega))) Z Z Z Z (Qi Z (QM (ds0 := [2, 1, 0]) (cs := [_, _, _, _, _, _, _]) Z Z Z Z Z Z ?_)))))))))))
  refine Qi Z (QP (ds0 := [1, 0]) (Zy (hl _ (List.getElem_mem (by omega))).2.1 (hl _ (List.getElem_mem (by omega))).2.2 hx.1 hx.2) Z Z (.inr Z) Z Z (Qi Z (ZD Z Z (Qm Z Z (hK _ _ (Qb (kp5 Z Z Z Z Z) ?_))))))
  refine Qx Z (fun h2 => ?_) (fun h2 => ?_)
  ·try rw [h2]
   try simp only [qA] at h2
   refine Qf fun K hK => Qa Z (Qa Z (QJ (cs := [_, _, _, _, _, _, _]) Z Z Z Z (YY Z Z Z (by simp) (by omega) (by omega) Z (Qj Z Z (Q7 Z Z (ZE (by omega) (by omega)) Z Z Z Z Z (hK _ _ (Qb (kp1 Z) ?_)))))))
   refine Qf fun K hK => Qa Z (Qa Z (hK _ _ (Qb (kp1 Z) ?_)))
   refine Qv (Qk ?_)
   refine Xc Z ?_ (QeY ?_)
   ·rw [QjB (i := ((l.length : Int) - 1).toNat) (by omega) h2]; simp [QmU, D.fz, D.fzS, Qfk, D.can, D.canS]
   ·rw [QjB (i := ((l.length : Int) - 1).toNat) (by omega) h2]; simp [lk, List.map_set, Qfe, dCu, setRow, D.sid]
  ·try rw [h2]
   try simp only [qA] at h2
   refine Qw (Qe (kp3 Z Z Z) (Qf fun K hK => Qa Z (QJ (cs := [_, _, _, _, _, _, _]) Z Z Z Z (QJ (cs := [_, _, _, _, _, _, _]) Z Z Z Z (QV Z Z (QI Z Z (XI Z Z (fun _ h => Xr Z Z Z h) Z (by simp) Z Z Z (by simp; omega) (by simp; omega) (Qa Z (hK _ _ (Qb (kp1 Z) ?_))))))))))
   refine Qv ?_
   refine Xc Z ?_ (QeY ?_)
   ·rw [Qd9 (.inr ⟨((l.length : Int) - 1).toNat, by omega, h2⟩)]; simp [QmU, D.fz, D.fzS, Qfk, D.can, D.canS]
   ·rw [Qd9 (.inr ⟨((l.length : Int) - 1).toNat, by omega, h2⟩)]; simp [lk, Qfe, dCu, D.sid]
 ·try rw [h1]
  try simp only [qA] at h1
  refine Qs Z (Qs Z (Qs Z (Qs Z (Qs Z (Qs Z (Qs Z (Qs Z (Qm Z Z (hK _ _ (Qb (kp5 Z Z Z Z Z) ?_))))))))))
  refine ZU Z (Qw (Qe (kp3 Z Z Z) (Qf fun K hK => Qa Z (QJ (cs := [_, _, _, _, _, _, _]) Z Z Z Z (QJ (cs := [_, _, _, _, _, _, _]) Z Z Z Z (QV Z Z (QI Z Z (XI Z Z (fun _ h => Xr Z Z Z h) Z (by simp) Z Z Z (by simp; omega) (by simp; omega) (Qa Z (hK _ _ (Qb (kp1 Z) ?_)))))))))))
  refine Qv ?_
  have h0 : l = [] := List.eq_nil_of_length_eq_zero (by omega)
  refine Xc Z ?_ (QeY ?_)
  ·rw [Qd9 (.inl h0)]; simp [QmU, D.fz, D.fzS, Qfk, D.can, D.canS]
  ·rw [Qd9 (.inl h0)]; simp [lk, Qfe, dCu, D.sid]
end Go.Proofs
namespace Go.Proofs
open Go Go.Abs M3 M25
set_option linter.unusedVariables false
set_option linter.unusedSimpArgs false
theorem Qdr {l : List (Cu × Cu)} (hl : Sm l) : Ok Tryz.prog 118 [ZM l] (.tup [ZM (QkF l), .bool (l.all Qed)]) := by
  refine Ok.ofT ZT Tryz.func118 Qtp (Nat.le_of_ble_eq_true Z) ?_
  show TW _ _ tf118.body _ _
  have hn := hl.1
  have hc1 := Qcq l
  refine Qf fun K hK => Qa Z (Qa Z (hK _ _ (Qb (kp1 Z) ?_)))
  refine QD ?_ -- 0
  refine Qf fun K hK => Qa Z (hK _ _ (Qb (kp2 Z Z) ?_))
  refine Qz ?_
  refine Zn (ι := Nat) (fun i => ⟨[(0, ZM l), (4, .int .i64 i)], []⟩) (fun i => i <= l.length /\ (l.take i).all Qed = true) (fun i => l.length - i) 0 ?_ ?_ ?_
  · exact Zd (kp2 rfl rfl)
  · exact ⟨Nat.zero_le _, by simp⟩
  intro i hI
  try dsimp only
  refine QD ?_ -- 1
  refine Qf fun K hK => Qa Z (Qa Z (QQ Z Z (Yd Z Z (hK _ _ (Qb (kp3 Z Z Z) ?_)))))
  refine Qx Z (fun h1 => ?_) (fun h1 => ?_)
  · try rw [h1]
    try simp only [qA] at h1
    refine Qw (Qe (kp2 Z Z) ?_)
    refine QD ?_ -- 2
    refine Qz (Qf fun K hK => Qa Z (Qa Z (QK Z Z Z (by omega) (QT (by omega)) Z (QJ (cs := [_, _, _, _, _, _, _, _, _, _, _, _, _, _]) Z Z Z Z (QG (YL (hl.at (i := i) (by omega)).1.1 (hl.at (i := i) (by omega)).1.2 (hl.at (i := i) (by omega)).2.1 (hl.at (i := i) (by omega)).2.2) Z Z (.inr Z) (Yk Z (hK _ _ (Qb (kp3 Z Z Z) ?_))))))))
    refine Qx Z (fun h2 => ?_) (fun h2 => ?_)
    · try rw [h2]
      try simp only [qA] at h2
      refine Qf fun K hK => Qa Z (Qa Z (hK _ _ (Qb (kp2 Z Z) ?_)))
      refine Qv (Qu (Qk (Q2 (Qu (Qk ?_)))))
      first
        | exact QW rfl rfl ⟨by rw [QkF, if_neg (by rw [XY (i := i) (by omega) (by assumption)]; simp)]; rfl, by rw [XY (i := i) (by omega) (by assumption)]; rfl⟩
        | (have ha : l.all Qed = true := XP (by omega) hI.2
           exact QW rfl rfl ⟨by rw [QkF, if_pos ha, hI2.done (by omega)]; simp [Qbb, D.fz, D.fzS, QdC, lk, D.can, D.canS, ZM], by rw [ha]; rfl⟩)
    · try rw [h2]
      try simp only [qA] at h2
      refine Qw (Qh (Qe (kp2 Z Z) (QO fun K hK => Qa Z (QX Z Z (by first | exact Qr (by omega) (by omega) | rfl) (Qa Z (hK _ ?_))))))
      refine Ql (i + 1) ?_ ?_ ?_
      · exact Zd (kp2 rfl rfl)
      · exact ⟨by omega, Yj (by omega) hI.2 (by assumption)⟩
      · first | omega | (simp only; omega) | (dsimp only; omega)
  · try rw [h1]
    try simp only [qA] at h1
    refine Zk (QN (Qy (QF (Qe (kp1 Z) (Qf fun K hK => Qa Z (hK _ _ (Qb (kp2 Z Z) ?_)))))))
    refine Qf fun K hK => Qa Z (QG (Qax hl) Z Z (.inl Z) (Qa Z (hK _ _ (Qb (kp3 Z Z Z) ?_))))
    refine QD ?_ -- 3
    refine Qf fun K hK => Qa Z (hK _ _ (Qb (kp4 Z Z Z Z) ?_))
    refine Qz ?_
    refine Zn (ι := Nat × List (Cu × Cu)) (fun ⟨i, out⟩ => ⟨[(0, ZM l), (5, .osl 5 out.length), (6, Qh2 (Y1 l)), (7, .int .i64 i)], [(5, ⟨out.map Qfe, 14, 115, true⟩)]⟩) (fun ⟨i, out⟩ => i <= (Y1 l).length /\ FillI (mIn l) (Y1 l) i out) (fun ⟨i, out⟩ => (Y1 l).length - i) (0, []) ?_ ?_ ?_
    · exact le_trans (Yp 5 5 14 115 rfl rfl) (Q3 (l := [0, 5, 6, 7]) (lH := [5]) (kp4 rfl rfl rfl rfl) (Qg rfl Qn) rfl rfl rfl)
    · exact ⟨Nat.zero_le _, FillI.zero⟩
    intro ⟨i, out⟩ hI
    obtain ⟨hI1, hI2⟩ := hI
    have hI3 := hI2.1
    try dsimp only
    refine QD ?_ -- 4
    refine Qf fun K hK => Qa Z (QX Z Z (by first | exact Qr (by omega) (by omega) | rfl) (Qa Z (QQ Z Z (Yd Z Z (hK _ _ (Qb (kp5 Z Z Z Z Z) ?_))))))
    refine Qx Z (fun h3 => ?_) (fun h3 => ?_)
    · try rw [h3]
      try simp only [qA] at h3
      refine Qw (Qe (kp4 Z Z Z Z) ?_)
      refine QD ?_ -- 5
      refine Qz (Qf fun K hK => Qa Z (Qa Z (Qa Z (QK Z Z Z (by omega) (QT (by omega)) Z (QM (ds0 := [0]) (cs := [_, _, _, _, _, _, _]) Z Z Z Z Z Z (Qa Z (Qa Z (QX Z Z (by first | exact Qr (by omega) (by omega) | rfl) (QK Z Z Z (by omega) (QlA (by omega)) Z (QM (ds0 := [0]) (cs := [_, _, _, _, _, _, _]) Z Z Z Z Z Z ?_))))))))))
      refine QP (ds0 := []) (Qbe hl (YF hl _ (List.getElem_mem (by omega))) (YF hl _ (List.getElem_mem (by omega)))) Z Z (.inr Z) Z Z (hK _ _ (Qb (kp5 Z Z Z Z Z) ?_))
      refine Qx Z (fun h4 => ?_) (fun h4 => ?_)
      · try rw [h4]
        try simp only [qA] at h4
        refine QO fun K hK => Qa rfl (Qa rfl (Qa rfl (QK rfl rfl rfl (by omega) (QT (by omega)) rfl (QM (ds0 := [1, 0]) (cs := [_, _, _, _, _, _, _]) rfl rfl rfl rfl rfl rfl (Qa rfl (Qa rfl (QX rfl rfl (by first | exact Qr (by omega) (by omega) | rfl) (QK rfl rfl rfl (by omega) (QlA (by omega)) rfl (QM (ds0 := [1, 0]) (cs := [_, _, _, _, _, _, _]) rfl rfl rfl rfl rfl rfl (Qld (ds0 := [0]) (Qlm (k := 5) rfl rfl rfl (by decide) rfl (by decide) (by simp [D.ids, D.sid, dCu]) ⟨.osl 5 out.length, by simp, by simp [D.ids, D.sid]⟩ rfl rfl (Qay (by omega) hI2.2.1 (YF hl _ (List.getElem_mem (by omega))) (YF hl _ (List.getElem_mem (by omega))))) (fun _ h => by cases h) rfl rfl ?_))))))))))
        refine Qa Z (hK _ ?_)
        refine Qh (Qe (kp4 Z Z Z Z) (QO fun K hK => Qa Z (QX Z Z (by first | exact Qr (by omega) (by omega) | rfl) (Qa Z (hK _ ?_)))))
        refine Ql (i + 1, Qcs out (Y1 l)[i] (Y1 l)[i + 1]) ?_ ?_ ?_
        · exact le_trans (QnU (l := [0, 6, 7]) (t := 50) (u := 5) 5 (kp3 rfl rfl rfl) rfl rfl rfl rfl) (Q3 (l := [0, 5, 6, 7]) (lH := [5]) (kp4 rfl rfl rfl rfl) (Qg rfl Qn) rfl rfl rfl)
        · exact ⟨by omega, hI2.take (YF hl) (by omega) (by assumption)⟩
        · show (Y1 l).length - (i + 1) < (Y1 l).length - i; omega
      · try rw [h4]
        try simp only [qA] at h4
        refine Qw (Qh (Qe (kp4 Z Z Z Z) (QO fun K hK => Qa Z (QX Z Z (by first | exact Qr (by omega) (by omega) | rfl) (Qa Z (hK _ ?_))))))
        refine Ql (i + 1, out) ?_ ?_ ?_
        · exact Q3 (l := [0, 5, 6, 7]) (lH := [5]) (kp4 rfl rfl rfl rfl) (Qg rfl Qn) rfl rfl rfl
        · exact ⟨by omega, hI2.skip (by omega) (by assumption)⟩
        · show (Y1 l).length - (i + 1) < (Y1 l).length - i; omega
    · try rw [h3]
      try simp only [qA] at h3
      refine Zk (QN (Qy (QF (Qe (kp1 Z) (Qf fun K hK => Qa Z (Qa Z (Qa Z (hK _ _ (Qb (kp2 Z Z) ?_)))))))))
      refine Qv ?_
      first
        | exact QW rfl rfl ⟨by rw [QkF, if_neg (by rw [XY (i := i) (by omega) (by assumption)]; simp)]; rfl, by rw [XY (i := i) (by omega) (by assumption)]; rfl⟩
        | (have ha : l.all Qed = true := XP (by omega) hI.2
           exact QW rfl rfl ⟨by rw [QkF, if_pos ha, hI2.done (by omega)]; simp [Qbb, D.fz, D.fzS, QdC, lk, D.can, D.canS, ZM], by rw [ha]; rfl⟩)
end Go.Proofs
namespace Go.Proofs
open Go Go.Abs M3 M25
set_option linter.unusedVariables false
set_option linter.unusedSimpArgs false
theorem Qbd {a b : List (Cu × Cu)} (ha : Sm a) (hb : Sm b) (hab : a.length + b.length <= 1000000) : Ok Tryz.prog 111 [ZM a, ZM b] (ZM (Qqv a b)) := by
 refine Ok.ofT ZT Tryz.func111 Qti (Nat.le_of_ble_eq_true Z) ?_
 show TW _ _ tf111.body _ _
 refine Qf fun K hK => Qa Z (hK _ _ (Qb (kp2 Z Z) ?_))
 refine QD ?_ -- 0
 refine Qf fun K hK => Qa Z (QG (Z4 ha) Z Z (.inr Z) (Yk Z (Qa Z ?_)))
 refine QC (g := 10) Z (fun h1 => ?_) (fun h1 => ?_)
 ·try rw [h1]
  try simp only [qB] at h1
  refine Qs Z (Qs Z (Qs Z (Qm Z Z (hK _ _ (Qb (kp3 Z Z Z) ?_)))))
  refine Zt Z (Qf fun K hK => Qa Z (hK _ _ (Qb (kp1 Z) ?_)))
  refine Qv (Qk (Yg Z ?_))
  rw [Qqv, if_neg (by simp [h1])]; rfl
 ·try rw [h1]
  try simp only [qB] at h1
  refine Qi Z (Qa Z (Qi Z (QG (Z4 hb) Z Z (.inr Z) (Qi Z (Yk Z (Qm Z Z (hK _ _ (Qb (kp3 Z Z Z) ?_))))))))
  refine Qx Z (fun h2 => ?_) (fun h2 => ?_)
  ·try rw [h2]
   try simp only [qB] at h2
   refine Qf fun K hK => Qa Z (hK _ _ (Qb (kp1 Z) ?_))
   refine Qv (Qk (Yg Z ?_))
   rw [Qqv, if_neg (by simp [h1, h2])]; rfl
  ·try rw [h2]
   try simp only [qB] at h2
   refine Qw (Qe (kp2 Z Z) (Qf fun K hK => Qa Z (Qm2 Z Z (fun _ h => Ql9 QqA h) Z (.inl Z) (by simp) (by simp; omega) (by simp; omega) (Qa Z (XI Z Z (fun _ h => Ql9 QqA h) Z (by simp) Z Z Z (by simp; omega) (by simp; omega) ?_)))))
   apply QqN [17] (by simp)
   ·simp [St.freezeL, St.freeze, rem, D.fz, D.fzS, Box.fz, lk, D.scrub]; exact ⟨rfl, rfl⟩
   ·exact Qdr (ha.app hb hab)
   ·rfl
   ·simp [Qbb, D.fz, D.fzS, QdC, D.can, D.canS, ZM]
   ·exact .inl rfl
   refine Qa Z (Zc Z Z (Zc Z Z (Qa Z (Qa Z (hK _ _ (Qb (kp1 Z) ?_))))))
   refine Qf fun K hK => Qa Z (Qa Z (hK _ _ (Qb (kp1 Z) ?_)))
   refine Qv (Yg Z ?_)
   rw [Qqv, if_pos ⟨h1, h2⟩]; rfl
theorem QaO {a : List (Cu × Cu)} (ha : Sm a) : Ok Tryz.prog 113 [ZM a] (ZM (QkG a)) := by
 refine Ok.ofT ZT Tryz.func113 Qtk (Nat.le_of_ble_eq_true Z) ?_
 show TW _ _ tf113.body _ _
 have hn := ha.1
 have hc1 := Qcq a
 refine Qf fun K hK => Qa Z (hK _ _ (Qb (kp1 Z) ?_))
 refine QD ?_ -- 0
 refine Qf fun K hK => Qa Z (QG (Z4 ha) Z Z (.inr Z) (Yk Z (hK _ _ (Qb (kp2 Z Z) ?_))))
 refine Qx Z (fun h1 => ?_) (fun h1 => ?_)
 ·try rw [h1]
  try simp only [qA] at h1
  refine Qf fun K hK => Qa Z (hK _ _ (Qb (kp1 Z) ?_))
  refine Qv (Qk (Yg Z ?_))
  rw [QkG, if_neg (by simp [h1])]; rfl
 ·try rw [h1]
  try simp only [qA] at h1
  refine Qw (Qe (kp1 Z) (Qf fun K hK => Qa Z (hK _ _ (Qb (kp2 Z Z) ?_))))
  refine Qf fun K hK => Qa Z (QG (Qax ha) Z Z (.inl Z) (Qa Z (hK _ _ (Qb (kp3 Z Z Z) ?_))))
  refine QD ?_ -- 1
  refine Qf fun K hK => Qa Z (hK _ _ (Qb (kp4 Z Z Z Z) ?_))
  refine Qz ?_
  refine Zn (ι := Nat × List (Cu × Cu)) (fun ⟨i, out⟩ => ⟨[(0, ZM a), (3, .osl 3 out.length), (4, Qh2 (Y1 a)), (5, .int .i64 i)], [(3, ⟨out.map Qfe, 14, 115, true⟩)]⟩) (fun ⟨i, out⟩ => i <= (Y1 a).length /\ FillI (fun x y => !mIn a x y) (Y1 a) i out) (fun ⟨i, out⟩ => (Y1 a).length - i) (0, []) ?_ ?_ ?_
  ·exact le_trans (Yp 3 3 14 115 rfl rfl) (Q3 (l := [0, 3, 4, 5]) (lH := [3]) (kp4 rfl rfl rfl rfl) (Qg rfl Qn) rfl rfl rfl)
  ·exact ⟨Nat.zero_le _, FillI.zero⟩
  intro ⟨i, out⟩ hI
  obtain ⟨hI1, hI2⟩ := hI
  have hI3 := hI2.1
  try dsimp only
  refine QD ?_ -- 2
  refine Qf fun K hK => Qa Z (QX Z Z (by first | exact Qr (by omega) (by omega) | rfl) (Qa Z (QQ Z Z (Yd Z Z (hK _ _ (Qb (kp5 Z Z Z Z Z) ?_))))))
  refine Qx Z (fun h2 => ?_) (fun h2 => ?_)
  ·try rw [h2]
   try simp only [qA] at h2
   refine Qw (Qe (kp4 Z Z Z Z) ?_)
   refine QD ?_ -- 3
   refine Qz (Qf fun K hK => Qa Z (Qa Z (Qa Z (QK Z Z Z (by omega) (QT (by omega)) Z (QM (ds0 := [1, 0]) (cs := [_, _, _, _, _, _, _]) Z Z Z Z Z Z (Qa Z (Qa Z (QX Z Z (by first | exact Qr (by omega) (by omega) | rfl) (QK Z Z Z (by omega) (QlA (by omega)) Z (QM (ds0 := [1, 0]) (cs := [_, _, _, _, _, _, _]) Z Z Z Z Z Z ?_))))))))))
   refine QP (ds0 := [0]) (Qbe ha (YF ha _ (List.getElem_mem (by omega))) (YF ha _ (List.getElem_mem (by omega)))) Z Z (.inr Z) Z Z (Yk Z (hK _ _ (Qb (kp5 Z Z Z Z Z) ?_)))
   refine Qx Z (fun h3 => ?_) (fun h3 => ?_)
   ·try rw [h3]
    try simp only [qA] at h3
    refine QO fun K hK => Qa rfl (Qa rfl (Qa rfl (QK rfl rfl rfl (by omega) (QT (by omega)) rfl (QM (ds0 := [1, 0]) (cs := [_, _, _, _, _, _, _]) rfl rfl rfl rfl rfl rfl (Qa rfl (Qa rfl (QX rfl rfl (by first | exact Qr (by omega) (by omega) | rfl) (QK rfl rfl rfl (by omega) (QlA (by omega)) rfl (QM (ds0 := [1, 0]) (cs := [_, _, _, _, _, _, _]) rfl rfl rfl rfl rfl rfl (Qld (ds0 := [0]) (Qlm (k := 3) rfl rfl rfl (by decide) rfl (by decide) (by simp [D.ids, D.sid, dCu]) ⟨.osl 3 out.length, by simp, by simp [D.ids, D.sid]⟩ rfl rfl (Qay (by omega) hI2.2.1 (YF ha _ (List.getElem_mem (by omega))) (YF ha _ (List.getElem_mem (by omega))))) (fun _ h => by cases h) rfl rfl ?_))))))))))
    refine Qa Z (hK _ ?_)
    refine Qh (Qe (kp4 Z Z Z Z) (QO fun K hK => Qa Z (QX Z Z (by first | exact Qr (by omega) (by omega) | rfl) (Qa Z (hK _ ?_)))))
    refine Ql (i + 1, Qcs out (Y1 a)[i] (Y1 a)[i + 1]) ?_ ?_ ?_
    ·exact le_trans (QnU (l := [0, 4, 5]) (t := 40) (u := 3) 3 (kp3 rfl rfl rfl) rfl rfl rfl rfl) (Q3 (l := [0, 3, 4, 5]) (lH := [3]) (kp4 rfl rfl rfl rfl) (Qg rfl Qn) rfl rfl rfl)
    ·exact ⟨by omega, hI2.take (YF ha) (by omega) (by simp; assumption)⟩
    ·show (Y1 a).length - (i + 1) < (Y1 a).length - i; omega
   ·try rw [h3]
    try simp only [qA] at h3
    refine Qw (Qh (Qe (kp4 Z Z Z Z) (QO fun K hK => Qa Z (QX Z Z (by first | exact Qr (by omega) (by omega) | rfl) (Qa Z (hK _ ?_))))))
    refine Ql (i + 1, out) ?_ ?_ ?_
    ·exact Q3 (l := [0, 3, 4, 5]) (lH := [3]) (kp4 rfl rfl rfl rfl) (Qg rfl Qn) rfl rfl rfl
    ·exact ⟨by omega, hI2.skip (by omega) (by simp; assumption)⟩
    ·show (Y1 a).length - (i + 1) < (Y1 a).length - i; omega
  ·try rw [h2]
   try simp only [qA] at h2
   refine Zk (QN (Qy (QF (Qe (kp1 Z) (Qf fun K hK => Qa Z (Qa Z (hK _ _ (Qb (kp1 Z) ?_))))))))
   refine Qv (Yg Z ?_)
   rw [QkG, if_pos h1, hI2.done (by omega)]; simp [Qbb, D.fz, D.fzS, QdC, lk, D.can, D.canS, ZM]
end Go.Proofs
namespace Go.Proofs
open Go Go.Abs M3 M25
set_option linter.unusedVariables false
set_option linter.unusedSimpArgs false
theorem Qex {a b : QfM} (h1a : Sm a.1) (h2a : Sm a.2) (h1b : Sm b.1) (h2b : Sm b.2) (hl1 : a.1.length + b.1.length <= 1000000) (hl2 : a.2.length + b.2.length <= 1000000) : Ok Tryz.prog 97 [Qh3 a, Qh3 b] (Qh3 (Qqw a b)) := by
 refine Ok.ofT ZT Tryz.func97 Qu7 (Nat.le_of_ble_eq_true Z) ?_
 show TW _ _ tf97.body _ _
 refine Qf fun K hK => Zs Z Z Z (Zs Z Z Z (ZG Z (hK _ _ (Qb (kp3 Z Z Z) ?_))))
 refine QD ?_ -- 0
 refine Qf fun K hK => QJ (cs := [_, _]) Z Z Z Z (QG (YO h1a h2a) Z Z (.inr Z) (Yk Z (Qa Z ?_)))
 refine QC (g := 8) Z (fun h1 => ?_) (fun h1 => ?_)
 ·try rw [h1]
  try simp only [qB] at h1
  refine Qs Z (Qs Z (Qs Z (Qm Z Z (hK _ _ (Qb (kp4 Z Z Z Z) ?_)))))
  refine Zt Z (Qf fun K hK => QG (Ye) Z Z (.inl Z) (Q7 Z Z Z Z Z Z Z Z (hK _ _ (Qb (kp1 Z) ?_))))
  refine Qv (Qk (Post.eq (ZK (ds := [.sl _, .sl _]) (cs := [_, _]) Z Z Z Z Z) ?_))
  rw [Qqw, if_neg (by simp [h1])]; rfl
 ·try rw [h1]
  try simp only [qB] at h1
  refine Qi Z (QJ (cs := [_, _]) Z Z Z Z (Qi Z (QG (YO h1b h2b) Z Z (.inr Z) (Qi Z (Yk Z (Qm Z Z (hK _ _ (Qb (kp4 Z Z Z Z) ?_))))))))
  refine Qx Z (fun h2 => ?_) (fun h2 => ?_)
  ·try rw [h2]
   try simp only [qB] at h2
   refine Qf fun K hK => QG (Ye) Z Z (.inl Z) (Q7 Z Z Z Z Z Z Z Z (hK _ _ (Qb (kp1 Z) ?_)))
   refine Qv (Qk (Post.eq (ZK (ds := [.sl _, .sl _]) (cs := [_, _]) Z Z Z Z Z) ?_))
   rw [Qqw, if_neg (by simp [h1, h2])]; rfl
  ·try rw [h2]
   try simp only [qB] at h2
   refine Qw (Qe (kp3 Z Z Z) (Qf fun K hK => Qj Z Z (QR (ds0 := [7, 1, 0]) Z Z Z Z Z (Qj Z Z (QR (ds0 := [7, 1, 0]) Z Z Z Z Z (QP (ds0 := [1, 0]) (Qbd h1a h1b hl1) Z Z (.inl Z) Z Z (Qj Z Z (QR (ds0 := [2, 1, 0]) Z Z Z Z Z (Qj Z Z (QR (ds0 := [2, 1, 0]) Z Z Z Z Z ?_))))))))))
   refine QP (ds0 := [1, 0]) (Qbd h2a h2b hl2) Z Z (.inl Z) Z Z (QV Z Z (Xd (ds0 := []) Z Z Z Z Z Z Z Z Z Z (hK _ _ (Qb (kp1 Z) ?_))))
   refine Qv (Post.eq (ZK (ds := [.sl _, .sl _]) (cs := [_, _]) Z Z Z Z Z) ?_)
   rw [Qqw, if_pos ⟨h1, h2⟩]; rfl
theorem QdQ {a : QfM} (h1a : Sm a.1) (h2a : Sm a.2) : Ok Tryz.prog 99 [Qh3 a] (Qh3 (Qix a)) := by
 refine Ok.ofT ZT Tryz.func99 Qu9 (Nat.le_of_ble_eq_true Z) ?_
 show TW _ _ tf99.body _ _
 refine Qf fun K hK => Zs Z Z Z (ZG Z (hK _ _ (Qb (kp2 Z Z) ?_)))
 refine QD ?_ -- 0
 refine Qf fun K hK => QJ (cs := [_, _]) Z Z Z Z (QG (YO h1a h2a) Z Z (.inr Z) (Yk Z (hK _ _ (Qb (kp3 Z Z Z) ?_))))
 refine Qx Z (fun h1 => ?_) (fun h1 => ?_)
 ·try rw [h1]
  try simp only [qB] at h1
  refine Qf fun K hK => QG (Ye) Z Z (.inl Z) (Q7 Z Z Z Z Z Z Z Z (hK _ _ (Qb (kp1 Z) ?_)))
  refine Qv (Qk (Post.eq (ZK (ds := [.sl _, .sl _]) (cs := [_, _]) Z Z Z Z Z) ?_))
  rw [Qix, if_neg (by simp [h1])]; rfl
 ·try rw [h1]
  try simp only [qB] at h1
  refine Qw (Qe (kp2 Z Z) (Qf fun K hK => Qj Z Z (QR (ds0 := [5, 1, 0]) Z Z Z Z Z (QP (ds0 := [1, 0]) (QaO h1a) Z Z (.inl Z) Z Z (Qj Z Z (QR (ds0 := [2, 1, 0]) Z Z Z Z Z (QP (ds0 := [1, 0]) (QaO h2a) Z Z (.inl Z) Z Z (QV Z Z (Xd (ds0 := []) Z Z Z Z Z Z Z Z Z Z (hK _ _ (Qb (kp1 Z) ?_)))))))))))
  refine Qv (Post.eq (ZK (ds := [.sl _, .sl _]) (cs := [_, _]) Z Z Z Z Z) ?_)
  rw [Qix, if_pos h1]; rfl
end Go.Proofs
namespace Go.Proofs
open Go Go.Abs M3 M25
set_option linter.unusedVariables false
set_option linter.unusedSimpArgs false
theorem ZP {v n : Int} (hn : n <= 9223372036854775807) (hv : I64 v) : Ok Tryz.prog 13 [.int .i64 v, .int .i64 n] (.int .i64 (mPl v n)) := by
 refine Ok.ofT ZT Tryz.func13 QtV (Nat.le_of_ble_eq_true Z) ?_
 show TW _ _ tf13.body _ _
 refine Qf fun K hK => Qa Z (hK _ _ (Qb (kp2 Z Z) ?_))
 refine QD ?_ -- 0
 refine Qf fun K hK => Qa Z (Yd Z Z (hK _ _ (Qb (kp3 Z Z Z) ?_)))
 refine Qx Z (fun h1 => ?_) (fun h1 => ?_)
 ·try rw [h1]
  try simp only [qB] at h1
  refine Qf fun K hK => Qa Z (hK _ _ (Qb (kp1 Z) ?_))
  refine Qv (Qk (QE Z ?_))
  rw [mPl, if_pos h1]
 ·try rw [h1]
  try simp only [qB] at h1
  refine Qw (Qe (kp2 Z Z) (Qf fun K hK => Qa Z (Qa Z (QoZ Z Z (by omega) (Qa Z (hK _ _ (Qb (kp2 Z Z) ?_)))))))
  refine QD ?_ -- 1
  refine Qf fun K hK => Qa Z (Yd Z Z (hK _ _ (Qb (kp3 Z Z Z) ?_)))
  refine Qx Z (fun h2 => ?_) (fun h2 => ?_)
  ·try rw [h2]
   try simp only [qB] at h2
   refine Qf fun K hK => Qa Z (Qa Z (QX Z Z (Qr (by have := Int.lt_tmod_of_pos v (show 0 < n by omega); omega) (by have := Int.tmod_lt_of_pos v (show 0 < n by omega); omega)) (Qa Z (hK _ _ (Qb (kp1 Z) ?_)))))
   refine Qv (Qk (QE Z ?_))
   rw [mPl, if_neg h1, Qgt, if_pos h2]
  ·try rw [h2]
   try simp only [qB] at h2
   refine Qw (Qe (kp1 Z) (Qf fun K hK => Qa Z (Qa Z (hK _ _ (Qb (kp1 Z) ?_)))))
   refine Qv (QE Z ?_)
   rw [mPl, if_neg h1, Qgt, if_neg h2]
theorem Qev {l : List Int} {i : Int} : Ok Tryz.prog 73 [ZB l, .int .i64 i] (.int .i64 (QoW l i)) := by
 refine Ok.ofT ZT Tryz.func73 QuK (Nat.le_of_ble_eq_true Z) ?_
 show TW _ _ tf73.body _ _
 refine Qf fun K hK => Qa Z (hK _ _ (Qb (kp2 Z Z) ?_))
 refine QD ?_ -- 0
 refine Qf fun K hK => Qa Z (Yd Z Z (Qa Z ?_))
 refine QC (g := 7) Z (fun h1 => ?_) (fun h1 => ?_)
 ·try rw [h1]
  try simp only [qA] at h1
  refine Qs Z (Qs Z (Qs Z (Qs Z (Qm Z Z (hK _ _ (Qb (kp3 Z Z Z) ?_))))))
  refine Zt Z (Qf fun K hK => Qa Z (QoZ Z Z (by omega) (Qa Z (hK _ _ (Qb (kp1 Z) ?_)))))
  refine Qv (Qk (QE Z ?_))
  rw [QoW, if_pos (by omega)]
 ·try rw [h1]
  try simp only [qA] at h1
  refine Qi Z (Qa Z (Qi Z (Qa Z (Qi Z (QQ Z Z (Qi Z (Qfb Z Z (Qm Z Z (hK _ _ (Qb (kp3 Z Z Z) ?_))))))))))
  refine Qx Z (fun h2 => ?_) (fun h2 => ?_)
  ·try rw [h2]
   try simp only [qA] at h2
   refine Qf fun K hK => Qa Z (QoZ Z Z (by omega) (Qa Z (hK _ _ (Qb (kp1 Z) ?_))))
   refine Qv (Qk (QE Z ?_))
   rw [QoW, if_pos (by omega)]
  ·try rw [h2]
   try simp only [qA] at h2
   refine Qw (Qe (kp2 Z Z) (Qf fun K hK => Qa Z (Qa Z (QK Z Z Z (by omega) (ZE (by omega) (by omega)) Z (QB Z Z Z (Qa Z (hK _ _ (Qb (kp1 Z) ?_))))))))
   refine Qv (QE Z ?_)
   exact (Qn1 (by omega) (by omega)).symm
theorem X0 {k : Nat} {L : List Int} {I n : Int} (hk : 1000000 <= k) (hL : ∀ x ∈ L, I64 x) (hn : n <= 9223372036854775807) (et : Nat) : OkH Tryz.prog 42 [.ref k 0 0, .int .i64 n] [(k, gB L I et)] (.int .i64 (nx L I n)) ((k, gB L (nxI I) et) :: [(k, gB L I et)]) := by
 refine OkH.lent hk ZT Tryz.func42 Qui (Nat.le_of_ble_eq_true Z) Z ?_
 show TW _ _ tf42.body _ _
 refine Qf fun K hK => Qa Z (hK _ _ (Qb (kp2 Z Z) ?_))
 refine Qf fun K hK => Qa Z (Ym Z Z (Qj Z Qfv (QB Z (Yb QeK Z) Z (QX Z Z Z (Ym Z Z (Qj Z Qfv (Q7 Z QeK Z Z Z Z Z Z (hK _ _ (Qb (kp2 Z Z) ?_)))))))))
 refine Qf fun K hK => Qa Z (Ym Z Z (Qj Z Qfv (QR (ds0 := [3, 1, 0]) Z (Yb QeK Z) Z Z Z (Qa Z (Ym Z Z (Qj Z Qfv (QR (ds0 := [4, 3, 1, 0]) Z (Yb QeK Z) Z Z Z (X7 Z Z Z (QP (ds0 := [1, 0]) (Qev) Z Z (.inr Z) Z Z (Qa Z ?_))))))))))
 refine QP (ds0 := [0]) (ZP hn (QpD hL (QgO _))) Z Z (.inr Z) Z Z (Qa Z (hK _ _ (Qb (kp1 Z) ?_)))
 refine Qv ?_
 exact Xc rfl rfl (QrD QeK)
end Go.Proofs
namespace Go.Proofs
open Go Go.Abs M3 M25
set_option linter.unusedVariables false
set_option linter.unusedSimpArgs false
theorem Xl {v : Int} (h0 : 0 <= v) (h1v : v <= 61) : Ok Tryz.prog 55 [.int .i64 v] (.int .i64 (2 ^ v.toNat)) := by
 refine Ok.ofT ZT Tryz.func55 Quv (Nat.le_of_ble_eq_true Z) ?_
 show TW _ _ tf55.body _ _
 refine Qf fun K hK => Qa Z (hK _ _ (Qb (kp1 Z) ?_))
 refine Qf fun K hK => Qa Z (hK _ _ (Qb (kp2 Z Z) ?_))
 refine QD ?_ -- 0
 refine Qf fun K hK => Qa Z (hK _ _ (Qb (kp3 Z Z Z) ?_))
 refine Qz ?_
 refine Zn (ι := Nat) (fun i => ⟨[(0, .int .i64 v), (3, .int .i64 (2 ^ i)), (4, .int .i64 i)], []⟩) (fun i => (i : Int) <= v) (fun i => v.toNat - i) 0 ?_ ?_ ?_
 ·exact Zd (kp3 rfl rfl rfl)
 ·exact h0
 intro i hI
 have hp := QiG (i := i + 1) (by omega)
 rw [Int.pow_succ] at hp
 try dsimp only
 refine QD ?_ -- 1
 refine Qf fun K hK => Qa Z (Qa Z (Yd Z Z (hK _ _ (Qb (kp4 Z Z Z Z) ?_))))
 refine Qx Z (fun h1 => ?_) (fun h1 => ?_)
 ·try rw [h1]
  try simp only [qB] at h1
  refine Qw (Qe (kp3 Z Z Z) ?_)
  refine QD ?_ -- 2
  refine Qz (QO fun K hK => Qa rfl (QqP rfl rfl (Qr (by obtain ⟨p1, p2⟩ := hp; generalize (2 : Int) ^ i = z at *; omega) (by obtain ⟨p1, p2⟩ := hp; generalize (2 : Int) ^ i = z at *; omega)) (Qa rfl (hK _ ?_))))
  refine Qh (Qe (kp3 Z Z Z) (QO fun K hK => Qa Z (QX Z Z (Qr (by omega) (by omega)) (Qa Z (hK _ ?_)))))
  refine Ql (i + 1) ?_ ?_ ?_
  ·exact Q3 (l := [0, 3, 4]) (lH := []) (kp3 rfl rfl rfl) Qn (by rw [Int.pow_succ]; rfl) rfl rfl
  ·show ((i + 1 : Nat) : Int) <= v; omega
  ·first | omega | (simp only; omega) | (dsimp only; omega)
 ·try rw [h1]
  try simp only [qB] at h1
  refine Zk (QN (Qy (QF (Qe (kp1 Z) (Qf fun K hK => Qa Z (Qa Z (hK _ _ (Qb (kp1 Z) ?_))))))))
  refine Qv (QE Z ?_)
  rw [show v.toNat = i by omega]
theorem X1 {h m : Int} : Ok Tryz.prog 60 [.int .i64 h, .int .i64 m] (.int .i64 (QaE h m)) := by
 refine Ok.ofT ZT Tryz.func60 Quz (Nat.le_of_ble_eq_true Z) ?_
 show TW _ _ tf60.body _ _
 refine Qf fun K hK => Qa Z (hK _ _ (Qb (kp2 Z Z) ?_))
 refine QD ?_ -- 0
 refine Qz (Qf fun K hK => Qa Z (Qa Z (Qb6 Z Z (Qa Z (ZD Z Z (Qa Z (hK _ _ (Qb (kp3 Z Z Z) ?_))))))))
 refine Qx Z (fun h1 => ?_) (fun h1 => ?_)
 ·try rw [h1]
  try simp only [qB] at h1
  refine Qf fun K hK => Qa Z (hK _ _ (Qb (kp1 Z) ?_))
  refine Qv (Qu (Qk (QE Z ?_)))
  rw [QaE, if_pos h1]
 ·try rw [h1]
  try simp only [qB] at h1
  refine Qf fun K hK => Qa Z (Qa Z (Qb6 Z Z (ZD Z Z (Qa Z (hK _ _ (Qb (kp1 Z) ?_))))))
  refine Qx Z (fun h2 => ?_) (fun h2 => ?_)
  ·try rw [h2]
   try simp only [qB] at h2
   refine Qf fun K hK => Qa Z (hK _ _ (Qb (kp1 Z) ?_))
   refine Qv (Qu (Qk (QE Z ?_)))
   rw [QaE, if_neg h1, if_pos h2]
  ·try rw [h2]
   try simp only [qB] at h2
   refine Qw (Qh (Qe (Q0) (Qf fun K hK => Qa Z (hK _ _ (Qb (kp1 Z) ?_)))))
   refine Qv (QE Z ?_)
   rw [QaE, if_neg h1, if_neg h2]
theorem Qe2 {h m : Int} : Ok Tryz.prog 52 [.int .i64 h, .int .i64 m] (.int .i64 (Qa4 h m)) := by
 refine Ok.ofT ZT Tryz.func52 Qus (Nat.le_of_ble_eq_true Z) ?_
 show TW _ _ tf52.body _ _
 refine Qf fun K hK => Qa Z (hK _ _ (Qb (kp2 Z Z) ?_))
 refine QD ?_ -- 0
 refine Qz (Qf fun K hK => Qa Z (Qa Z (Qfm Z Z (ZD Z Z (Qa Z (hK _ _ (Qb (kp3 Z Z Z) ?_)))))))
 refine Qx Z (fun h1 => ?_) (fun h1 => ?_)
 ·try rw [h1]
  try simp only [qB] at h1
  refine Qf fun K hK => Qa Z (hK _ _ (Qb (kp1 Z) ?_))
  refine Qv (Qu (Qk (QE Z ?_)))
  rw [Qa4, if_pos h1]
 ·try rw [h1]
  try simp only [qB] at h1
  refine Qf fun K hK => Qa Z (Qa Z (Qb6 Z Z (ZD Z Z (Qa Z (hK _ _ (Qb (kp1 Z) ?_))))))
  refine Qx Z (fun h2 => ?_) (fun h2 => ?_)
  ·try rw [h2]
   try simp only [qB] at h2
   refine Qf fun K hK => Qa Z (hK _ _ (Qb (kp1 Z) ?_))
   refine Qv (Qu (Qk (QE Z ?_)))
   rw [Qa4, if_neg h1, if_pos h2]
  ·try rw [h2]
   try simp only [qB] at h2
   refine Qw (Qh (Qe (Q0) (Qf fun K hK => Qa Z (hK _ _ (Qb (kp1 Z) ?_)))))
   refine Qv (QE Z ?_)
   rw [Qa4, if_neg h1, if_neg h2]
end Go.Proofs
namespace Go.Proofs
open Go Go.Abs M3 M25
set_option linter.unusedVariables false
set_option linter.unusedSimpArgs false
theorem Xy  : Ok Tryz.prog 66 [] (.sl (versions.map dVr)) := by
 refine Ok.ofT ZT Tryz.func66 QuD (Nat.le_of_ble_eq_true Z) ?_
 show TW _ _ tf66.body _ _
 refine Qf fun K hK => Qa Z (hK _ _ (Qb (Q0) ?_))
 refine Qf fun K hK => QV Z Z (QV Z Z (QV Z Z (QV Z Z (QI Z Z (Qa Z (hK _ _ (Qb (kp1 Z) ?_)))))))
 refine Qv (Yg Z ?_)
 rfl
end Go.Proofs
namespace M25
open Go Go.Abs M3
structure WantT where
 u : Int
 s : QfM
structure CandT where
 v : Vr
 sh : Int
 ns : List (List WantT)
 bs : List WantT
structure Qo3 where
 n : List UInt8
 f : List UInt8
 cs : List CandT
abbrev Qq := List Qo3
def Qff (x : WantT) : List D := [.int .i64 x.u, ZM x.s.1, ZM x.s.2]
def Ze (l : List WantT) : D := .sl (l.map Qff)
def QZ (l : List (List WantT)) : D := .sl (l.map fun r => [Ze r])
def Qq5 (c : CandT) : List D := [.int .i64 c.v.a, .int .i64 c.v.b, .int .i64 c.v.c, .str c.v.p, .str c.v.q, .int .i64 c.sh, QZ c.ns, Ze c.bs]
def Qlo (l : List CandT) : D := .sl (l.map Qq5)
def YA (u : Qo3) : List D := [.str u.n, .str u.f, Qlo u.cs]
def ZY (w : Qq) : D := .agg [.sl (w.map YA)]
structure TermT where
 u : Int
 m : Int
 deriving DecidableEq
structure StepT where
 u : Int
 m : Int
 l : Int
 c : Int
 deriving DecidableEq
structure RowT where
 k : Int
 u : Int
 a : Int
 b : Int
 t : List TermT
def Qch (t : TermT) : List D := [.int .i64 t.u, .int .i64 t.m]
def Zz (l : List TermT) : D := .sl (l.map Qch)
def Qcg (s : StepT) : List D := [.int .i64 s.u, .int .i64 s.m, .int .i64 s.l, .int .i64 s.c]
def Zl (l : List StepT) : D := .sl (l.map Qcg)
def Qnk (r : RowT) : List D := [.int .i64 r.k, .int .i64 r.u, .int .i64 r.a, .int .i64 r.b, Zz r.t]
def Qr9 (l : List RowT) : D := .sl (l.map Qnk)
def dDb (l : List (List TermT)) : D := .sl (l.map fun t => [Zz t])
abbrev XQ (a b : Int) : Int := QaH .and .i64 a b
abbrev bor (a b : Int) : Int := QaH .or .i64 a b
abbrev QiU (a b : Int) : Int := QaH .andNot .i64 a b
def uAt (w : Qq) (u : Int) : Option Qo3 := if u < 0 then none else w[u.toNat]?
theorem Qmd {w : Qq} {u : Int} (h0 : 0 <= u) (h : u < w.length) : uAt w u = some (w[u.toNat]'(by omega)) := by
 rw [uAt, if_neg (by omega), List.getElem?_eq_getElem (by omega)]
theorem Qk4 {w : Qq} {u : Int} (h : u < 0 \/ (w.length : Int) <= u) : uAt w u = none := by
 unfold uAt
 split
 ·rfl
 ·rw [List.getElem?_eq_none]; omega
def YC (w : Qq) (u : Int) : Int := match uAt w u with
 | none => 0
 | some x => 2 ^ (min x.cs.length 16 + 1) - 1
theorem Qiu {w : Qq} {u : Int} (h0 : 0 <= u) (h : u < w.length) : YC w u = 2 ^ (min (w[u.toNat]'(by omega)).cs.length 16 + 1) - 1 := by
 rw [YC, Qmd h0 h]
theorem Qd8 {w : Qq} {u : Int} (h : u < 0 \/ (w.length : Int) <= u) : YC w u = 0 := by rw [YC, Qk4 h]
theorem Qd7 (w : Qq) (u : Int) : 0 <= YC w u /\ YC w u <= 131071 := by
 unfold YC
 split
 ·omega
 ·rename_i x _
  have h1 : (2 : Nat) ^ (min x.cs.length 16 + 1) <= 2 ^ 17 := Nat.pow_le_pow_right (by omega) (by omega)
  have h2 : 1 <= (2 : Nat) ^ (min x.cs.length 16 + 1) := Nat.one_le_two_pow
  have h3 : ((2 ^ (min x.cs.length 16 + 1) : Nat) : Int) = (2 : Int) ^ (min x.cs.length 16 + 1) := by simp
  rw [<- h3]
  have h4 : (2 : Nat) ^ 17 = 131072 := by decide
  omega
def Qg6 (v : Vr) : Prop := v.p.length <= 1000000 /\ v.q.length <= 1000000
structure WSm (w : Qq) : Prop where
 len : w.length <= 48
 cs : ∀ u ∈ w, u.cs.length <= 16
 vs : ∀ u ∈ w, ∀ c ∈ u.cs, Qg6 c.v
 ns : ∀ u ∈ w, ∀ c ∈ u.cs, c.ns.length <= 1000 /\ c.bs.length <= 1000
 nl : ∀ u ∈ w, ∀ c ∈ u.cs, ∀ r ∈ c.ns, r.length <= 1000
 nw : ∀ u ∈ w, ∀ c ∈ u.cs, ∀ r ∈ c.ns, ∀ x ∈ r, Sm x.s.1 /\ Sm x.s.2
 bw : ∀ u ∈ w, ∀ c ∈ u.cs, ∀ x ∈ c.bs, Sm x.s.1 /\ Sm x.s.2
def QsY (s : QfM) (v : Vr) : Bool := QmH s v.a v.b v.c v.p v.q
def Qb3 (s : QfM) (l : List CandT) : Nat -> Int
 | 0 => 0
 | n + 1 => Qb3 s l n + match l[n]? with
  | some c => if QsY s c.v = true then 2 ^ (n + 1) else 0
  | none => 0
theorem QlR (s : QfM) (l : List CandT) : ∀ n, 0 <= Qb3 s l n /\ Qb3 s l n <= 2 ^ (n + 1) - 2
 | 0 => by simp [Qb3]
 | n + 1 => by
  obtain ⟨h1, h2⟩ := QlR s l n
  have h3 : (2 : Int) ^ (n + 1 + 1) = 2 ^ (n + 1) * 2 := Int.pow_succ ..
  have h4 : (0 : Int) < 2 ^ (n + 1) := Int.pow_pos (by omega)
  rw [Qb3, h3]
  generalize (2 : Int) ^ (n + 1) = z at *
  split
  ·split <;> omega
  ·omega
theorem Qod {s : QfM} {l : List CandT} {i : Nat} (h : i < l.length) (hp : QsY s l[i].v = true) : Qb3 s l (i + 1) = Qb3 s l i + 2 ^ (i + 1) := by
 rw [Qb3, List.getElem?_eq_getElem h]; simp only [hp, if_true]
theorem QpJ {s : QfM} {l : List CandT} {i : Nat} (h : i < l.length) (hp : QsY s l[i].v = false) : Qb3 s l (i + 1) = Qb3 s l i := by
 rw [Qb3, List.getElem?_eq_getElem h]; simp only [hp, Bool.false_eq_true, if_false, Int.add_zero]
def Qkf (w : Qq) (x : WantT) : Int := match uAt w x.u with
 | none => 0
 | some un => Qb3 x.s un.cs (min un.cs.length 16)
theorem Qn6 {w : Qq} {x : WantT} (h0 : 0 <= x.u) (h : x.u < w.length) : Qkf w x = Qb3 x.s (w[x.u.toNat]'(by omega)).cs (min (w[x.u.toNat]'(by omega)).cs.length 16) := by
 rw [Qkf, Qmd h0 h]
theorem QlM {w : Qq} {x : WantT} (h : x.u < 0 \/ (w.length : Int) <= x.u) : Qkf w x = 0 := by rw [Qkf, Qk4 h]
theorem QpR {n : Nat} (h : n <= 17) : 1 <= (2 : Int) ^ n /\ (2 : Int) ^ n <= 131072 := by
 have h1 : (2 : Nat) ^ n <= 2 ^ 17 := Nat.pow_le_pow_right (by omega) h
 have h2 : 1 <= (2 : Nat) ^ n := Nat.one_le_two_pow
 have h3 : ((2 ^ n : Nat) : Int) = (2 : Int) ^ n := by simp
 rw [<- h3]
 have h4 : (2 : Nat) ^ 17 = 131072 := by decide
 omega
theorem QlQ (s : QfM) (l : List CandT) {n : Nat} (h : n <= 16) : 0 <= Qb3 s l n /\ Qb3 s l n <= 131070 := by
 obtain ⟨h1, h2⟩ := QlR s l n
 have := QpR (n := n + 1) (by omega)
 omega
theorem Qrn (w : Qq) (x : WantT) : 0 <= Qkf w x /\ Qkf w x <= 131070 := by
 unfold Qkf
 split
 ·omega
 ·exact QlQ _ _ (by omega)
def Yf (m : Int) : Nat -> List Int
 | 0 => []
 | n + 1 => Yf m n ++ if XQ m (2 ^ n) = 0 then [] else [(n : Int) - 1]
def X5 (m : Int) : List Int := Yf m 17
theorem QeF (m : Int) : ∀ n, (Yf m n).length <= n
 | 0 => Nat.le_refl _
 | n + 1 => by
  have := QeF m n
  rw [Yf, List.length_append]
  split <;> simp <;> omega
def Qec (f : Int) (u : Int) : List TermT -> Int
 | [] => f
 | t :: r => if t.u = u then t.m else Qec f u r
def Qeb (w : Qq) (l : List TermT) (u : Int) : Int := Qec (YC w u) u l
theorem QmL {f u : Int} {l : List TermT} {i : Nat} (h : i < l.length) (hn : ¬ l[i].u = u) : Qec f u (l.drop i) = Qec f u (l.drop (i + 1)) := by
 rw [List.drop_eq_getElem_cons h, Qec, if_neg hn]
theorem Qob {f u : Int} {l : List TermT} {i : Nat} (h : i < l.length) (hn : l[i].u = u) : Qec f u (l.drop i) = l[i].m := by
 rw [List.drop_eq_getElem_cons h, Qec, if_pos hn]
def Qcj (w : Qq) : Nat -> List Int
 | 0 => []
 | n + 1 => Qcj w n ++ [YC w n]
theorem Qdt (w : Qq) : ∀ n, (Qcj w n).length = n
 | 0 => rfl
 | n + 1 => by rw [Qcj, List.length_append, Qdt w n]; rfl
def Qbj (w : Qq) : List Int := Qcj w w.length
def XN (w : Qq) (ms : List Int) : Nat -> List TermT
 | 0 => []
 | n + 1 => XN w ms n ++ if ms.getD n 0 = YC w n then [] else [⟨n, ms.getD n 0⟩]
theorem QhD (w : Qq) (ms : List Int) : ∀ n, (XN w ms n).length <= n
 | 0 => Nat.le_refl _
 | n + 1 => by
  have := QhD w ms n
  rw [XN, List.length_append]
  split <;> simp <;> omega
def QjD (w : Qq) (ms : List Int) : Option (List TermT) := if ms.all (fun m => !decide (m = 0)) = true then some (XN w ms ms.length) else none
def dOT (o : Option (List TermT)) : D := .tup [Zz (o.getD []), .bool o.isSome]
def XM (ms : List Int) (l : List TermT) : List Int := l.foldl (fun ms t => ms.set t.u.toNat (XQ (ms.getD t.u.toNat 0) t.m)) ms
def inW (w : Qq) (u : Int) : Bool := decide (0 <= u) && decide (u < w.length)
def Qdj (w : Qq) (l : List TermT) : Option (List TermT) := if l.all (fun t => inW w t.u) = true then QjD w (XM (Qbj w) l) else none
def Qhv (l : List TermT) (u : Int) : List TermT := l.filter fun t => !decide (t.u = u)
def Ys (l : List TermT) : Nat -> List TermT
 | 0 => []
 | n + 1 => Ys l n ++ l.filter fun t => decide (t.u = ((n : Nat) : Int))
def Qiz (l : List TermT) : List TermT := Ys l 48
def Yq (w : Qq) (u : Int) (p : Nat) (l : List WantT) (bar : Bool) : Option (List TermT) :=
 Qdj w (⟨u, XQ (YC w u) (2 * 2 ^ p)⟩ :: l.map fun x => ⟨x.u, if bar = true then Qkf w x else YC w x.u - Qkf w x⟩)
def QkD (r x : RowT) : Bool := decide (x.k = r.k) && decide (x.u = r.u) && decide (Qhv x.t r.u = Qhv r.t r.u)
def Qpx (w : Qq) (r x : RowT) : RowT := { x with t := Qiz (⟨r.u, bor (Qeb w x.t r.u) (Qeb w r.t r.u)⟩ :: Qhv x.t r.u) }
def Xt (w : Qq) (r : RowT) : List RowT -> List RowT
 | [] => [r]
 | x :: l => if QkD r x = true then Qpx w r x :: l else x :: Xt w r l
def YX (w : Qq) (u : Int) (p : Nat) (l : List (List WantT)) (rows : List RowT) : List RowT := l.foldl (fun rows n => match Yq w u p n false with
 | some t => Xt w ⟨2, u, 0, 0, t⟩ rows
 | none => rows) rows
def QbY (w : Qq) (u : Int) (p : Nat) (l : List WantT) (rows : List RowT) : List RowT := l.foldl (fun rows n => match Yq w u p [n] true with
 | some t => Xt w ⟨3, u, 0, 0, t⟩ rows
 | none => rows) rows
def YP (w : Qq) (u : Int) (cs : List CandT) : Nat -> List RowT -> List RowT
 | 0, rows => rows
 | n + 1, rows => match cs[n]? with
  | some c => QbY w u n c.bs (YX w u n c.ns (YP w u cs n rows))
  | none => YP w u cs n rows
def Yy (w : Qq) : Nat -> List RowT
 | 0 => [⟨1, 0, 0, 0, [⟨0, 1⟩]⟩]
 | n + 1 => match w[n]? with
  | some u => YP w n u.cs u.cs.length (Yy w n)
  | none => Yy w n
def Qd5 (w : Qq) : List RowT := Yy w w.length
def mDB (w : Qq) : List (List TermT) := (Qd5 w).map RowT.t
/-! ### Trails -/
def Zi (w : Qq) (l : List StepT) (u : Int) : Int := l.foldl (fun a s => if s.u = u /\ inW w u = true then s.m else a) (YC w u)
def Y4 (l : List StepT) : Int := match l.getLast? with
 | none => 0
 | some s => s.l
def XC (l : List StepT) (u : Int) : Bool := l.any fun s => decide (s.u = u) && decide (s.c = -1)
def QmM : List Int -> Int
 | [x] => x
 | _ => -1
def YN (m : Int) : Int := QmM (X5 m)
def Qa3 (w : Qq) (l : List StepT) (s : StepT) : Bool :=
 inW w s.u && decide (-1 <= s.c) && decide (XQ s.m (Zi w l s.u) = s.m) &&
  if s.c = -1 then decide (0 <= YN s.m) && !XC l s.u && decide (s.l = IntKind.i64.wrap (Y4 l + 1))
  else !decide (s.m = 0) && !decide (s.m = Zi w l s.u) && decide (s.l = Y4 l)
def Xb (w : Qq) (l : List StepT) : Bool := (List.range l.length).all fun i => match l[i]? with
 | some s => Qa3 w (l.take i) s
 | none => true
def Qb2 (w : Qq) (l : List StepT) (inc : List TermT) : Bool := inc.all fun t => decide (QaE (Zi w l t.u) t.m = 2)
def XD (have_ : Int -> Int) : List TermT -> Int -> Int
 | [], at_ => at_
 | t :: r, at_ => if QaE (have_ t.u) t.m = 0 then -1 else if QaE (have_ t.u) t.m = 1 then (if 0 <= at_ then -1 else XD have_ r t.u) else XD have_ r at_
def Qgs (w : Qq) (l : List StepT) (inc : List TermT) : Int := XD (Zi w l) inc (-1)
def Xj (w : Qq) (l : List StepT) : Nat -> List (List TermT) -> Int × Int
 | _, [] => (-1, -1)
 | i, x :: r => if Qb2 w l x = true then (i, -1) else if 0 <= Qgs w l x then (i, Qgs w l x) else Xj w l (i + 1) r
def Yv (w : Qq) (db : List (List TermT)) (l : List StepT) : Int × Int := Xj w l 0 db
def Yu (w : Qq) (l : List StepT) (t : TermT) (c : Int) : Option (List StepT) :=
 if c < 0 \/ inW w t.u = false then none
 else if IntKind.i64.wrap (Zi w l t.u - XQ (Zi w l t.u) t.m) = 0 \/ IntKind.i64.wrap (Zi w l t.u - XQ (Zi w l t.u) t.m) = Zi w l t.u then none
 else some (l ++ [⟨t.u, IntKind.i64.wrap (Zi w l t.u - XQ (Zi w l t.u) t.m), Y4 l, c⟩])
def YM (w : Qq) (l : List StepT) (u p : Int) : Option (List StepT) := match uAt w u with
 | none => none
 | some x => if p < 0 \/ (x.cs.length : Int) <= p then none
  else if Qa3 w l ⟨u, IntKind.i64.wrap (2 * 2 ^ min p.toNat 64), IntKind.i64.wrap (Y4 l + 1), -1⟩ = true then some (l ++ [⟨u, IntKind.i64.wrap (2 * 2 ^ min p.toNat 64), IntKind.i64.wrap (Y4 l + 1), -1⟩]) else none
def dOS (o : Option (List StepT)) : D := .tup [Zl (o.getD []), .bool o.isSome]
def Qfj (w : Qq) (db : List (List TermT)) : Nat -> List StepT -> List StepT × Int
 | 0, out => (out, -1)
 | n + 1, out => if (Yv w db out).2 < 0 then (out, (Yv w db out).1)
  else Qfj w db n ((Yu w out ⟨(Yv w db out).2, Qeb w (db.getD (Yv w db out).1.toNat []) (Yv w db out).2⟩ (Yv w db out).1).getD [])
def Qgu (w : Qq) (db : List (List TermT)) (l : List StepT) : List StepT × Int := Qfj w db (w.length * 18 + 1) l
end M25
namespace M25
open Go Go.Abs M3
section
variable {fr : List (Nat × D)} {H : List (Nat × Box)} {t u : Nat}
theorem Qlg {k n : Nat} {b : Box} {d : D} (hb : lk H k = some b) (hp : b.pr = true) (hn : n = b.rows.length) (hd : .sl b.rows = d) : Qbb ⟨fr, H⟩ (.osl k n) = d := by
 unfold Qbb; rw [QsX (S := QdC) rfl hb hp hn]; exact hd
theorem QaX {e : AExit} {k n : Nat} {b : Box} {d : D} (h : lk fr t = some (.osl k n)) (hb : lk H k = some b) (hp : b.pr = true) (hn : n = b.rows.length) (hd : .sl b.rows = d) (he : e = .ret \/ e = .normal := by first | exact .inl rfl | exact .inr rfl) : Post [.tmp t] d e ⟨fr, H⟩ :=
 Yg h (Qlg hb hp hn hd) he
theorem QgC {e : AExit} {k n : Nat} {b : Box} {q d d' : D} (h : lk fr t = some (.osl k n)) (hb : lk H k = some b) (hp : b.pr = true) (hn : n = b.rows.length) (hd : .sl b.rows = d) (h2 : lk fr u = some q) (hd2 : Qbb ⟨fr, H⟩ q = d') (he : e = .ret \/ e = .normal := by first | exact .inl rfl | exact .inr rfl) : Post [.tmp t, .tmp u] (.tup [d, d']) e ⟨fr, H⟩ :=
 QW h h2 ⟨Qlg hb hp hn hd, hd2⟩ he
end
theorem Qs1 (n : Nat) : (min (n : Int) 16 + 1).toNat = min n 16 + 1 := by omega
theorem Qkb {n : Nat} (h : n <= 62) : IntKind.i64.wrap ((2 : Int) ^ n - 1) = 2 ^ n - 1 := by
 have := QiG h; exact Qr (by omega) (by omega)
theorem Qss (i : Nat) : (2 : Int) ^ ((i : Int) + 1).toNat = 2 ^ (i + 1) := by rw [QoS]
theorem Qqb (s : QfM) (l : List CandT) {i : Nat} (h : i < 16) : IntKind.i64.wrap (Qb3 s l i + (2 : Int) ^ ((i : Int) + 1).toNat) = Qb3 s l i + 2 ^ (i + 1) := by
 rw [Qss]
 have h1 := QlQ s l (n := i) (by omega)
 have h2 := QpR (n := i + 1) (by omega)
 exact Qr (by omega) (by omega)
theorem XB {m : Int} {n : Nat} (h : ¬ XQ m (2 ^ n) = 0) : Yf m (n + 1) = Yf m n ++ [(n : Int) - 1] := by rw [Yf, if_neg h]
theorem QaA {m : Int} {n : Nat} (h : XQ m (2 ^ n) = 0) : Yf m (n + 1) = Yf m n := by rw [Yf, if_pos h, List.append_nil]
theorem Qqk {l : List TermT} {u : Int} {i : Nat} (h : i < l.length) : Qhv (l.take (i + 1)) u = Qhv (l.take i) u ++ if l[i].u = u then [] else [l[i]] := by
 rw [List.take_succ_eq_append_getElem h, Qhv, List.filter_append]
 congr 1
 simp only [List.filter_cons, List.filter_nil]
 by_cases hu : l[i].u = u <;> simp [hu]
theorem Qbt {l : List TermT} {u : Int} {i : Nat} (h : i < l.length) (hn : ¬ l[i].u = u) : Qhv (l.take (i + 1)) u = Qhv (l.take i) u ++ [l[i]] := by rw [Qqk h, if_neg hn]
theorem QdJ {l : List TermT} {u : Int} {i : Nat} (h : i < l.length) (hn : l[i].u = u) : Qhv (l.take (i + 1)) u = Qhv (l.take i) u := by rw [Qqk h, if_pos hn, List.append_nil]
theorem QfU (l : List TermT) (u : Int) : (Qhv l u).length <= l.length := List.length_filter_le ..
theorem Qo9 (l : List TermT) (u : Int) (i : Nat) : (Qhv (l.take i) u).length <= l.length := Nat.le_trans (QfU ..) (List.length_take_le' ..)
def QeV (l : List TermT) (u : Nat) (i : Nat) : List TermT := (l.take i).filter fun t => decide (t.u = ((u : Nat) : Int))
theorem QrA {l : List TermT} {u i : Nat} (h : i < l.length) (hn : l[i].u = ((u : Nat) : Int)) : QeV l u (i + 1) = QeV l u i ++ [l[i]] := by
 rw [QeV, List.take_succ_eq_append_getElem h, List.filter_append]; simp [hn, QeV]
theorem Qsu {l : List TermT} {u i : Nat} (h : i < l.length) (hn : ¬ l[i].u = ((u : Nat) : Int)) : QeV l u (i + 1) = QeV l u i := by
 rw [QeV, List.take_succ_eq_append_getElem h, List.filter_append]; simp [hn, QeV]
theorem QoG (l : List TermT) (u i : Nat) : (QeV l u i).length <= l.length := Nat.le_trans (List.length_filter_le ..) (List.length_take_le' ..)
theorem Qj5 (l : List TermT) (u : Nat) : Ys l (u + 1) = Ys l u ++ QeV l u l.length := by rw [Ys, QeV, List.take_length]
theorem QhN (l : List TermT) : ∀ n, (Ys l n).length <= n * l.length
 | 0 => by simp [Ys]
 | n + 1 => by
  have := QhN l n
  rw [Qj5, List.length_append, Nat.succ_mul]
  have := QoG l n l.length
  omega
theorem Qaj (w : Qq) (n : Nat) : Qcj w (n + 1) = Qcj w n ++ [YC w n] := rfl
theorem Qal {w : Qq} {ms : List Int} {n : Nat} (h : n < ms.length) (hn : ¬ ms[n] = YC w n) : XN w ms (n + 1) = XN w ms n ++ [⟨n, ms[n]⟩] := by
 rw [XN, List.getD_eq_getElem?_getD, List.getElem?_eq_getElem h]; simp [hn]
theorem QbL {w : Qq} {ms : List Int} {n : Nat} (h : n < ms.length) (hn : ms[n] = YC w n) : XN w ms (n + 1) = XN w ms n := by
 rw [XN, List.getD_eq_getElem?_getD, List.getElem?_eq_getElem h]; simp [hn]
theorem QmI {w : Qq} {ms : List Int} {i : Nat} (h : i < ms.length) (hz : ms[i] = 0) : QjD w ms = none := by
 rw [QjD, if_neg]
 rw [XY h (by simp [hz])]; simp
theorem Qn4 {w : Qq} {ms : List Int} {i : Nat} (hi : ms.length <= i) (h : (ms.take i).all (fun m => !decide (m = 0)) = true) : QjD w ms = some (XN w ms ms.length) := by
 rw [List.take_of_length_le hi] at h; rw [QjD, if_pos h]
theorem Qgc {w : Qq} {u : Int} (h0 : 0 <= u) (h : u < w.length) : inW w u = true := by simp [inW, h0, h]
theorem Qdu {w : Qq} {u : Int} (h : u < 0 \/ (w.length : Int) <= u) : inW w u = false := by
 simp only [inW, Bool.and_eq_false_iff, decide_eq_false_iff_not]; omega
theorem QbE {w : Qq} {u : Int} : inW w u = true ↔ 0 <= u /\ u < w.length := by simp [inW]
theorem QmJ (l : List TermT) : ∀ ms : List Int, (XM ms l).length = ms.length := by
 induction l with
 | nil => intro ms; rfl
 | cons t l ih => intro ms; rw [XM, List.foldl_cons]; exact (ih _).trans (List.length_set ..)
theorem QpH {ms : List Int} {l : List TermT} {i : Nat} (h : i < l.length) : XM ms (l.take (i + 1)) = (XM ms (l.take i)).set l[i].u.toNat (XQ ((XM ms (l.take i)).getD l[i].u.toNat 0) l[i].m) := by
 rw [List.take_succ_eq_append_getElem h, XM, List.foldl_append]; rfl
theorem QlO {ms : List Int} {l : List TermT} {i : Nat} (h : i < l.length) (hu : l[i].u.toNat < (XM ms (l.take i)).length) : XM ms (l.take (i + 1)) = (XM ms (l.take i)).set l[i].u.toNat (XQ ((XM ms (l.take i))[l[i].u.toNat]) l[i].m) := by
 rw [QpH h, List.getD_eq_getElem?_getD, List.getElem?_eq_getElem hu]; rfl
theorem QoR {x y : TermT} : QaS [0, 0] (Qch x) (Qch y) = some (decide (x = y)) := by
 obtain ⟨a, b⟩ := x
 obtain ⟨c, d⟩ := y
 simp only [Qch, QaS, if_true, Option.map_some, Bool.and_true, Option.some.injEq]
 rw [Bool.eq_iff_iff]
 simp only [Bool.and_eq_true, decide_eq_true_eq, TermT.mk.injEq]
theorem QoN {x y : StepT} : QaS [0, 0, 0, 0] (Qcg x) (Qcg y) = some (decide (x = y)) := by
 obtain ⟨a, b, e, f⟩ := x
 obtain ⟨c, d, g, h⟩ := y
 simp only [Qcg, QaS, if_true, Option.map_some, Bool.and_true, Option.some.injEq]
 rw [Bool.eq_iff_iff]
 simp only [Bool.and_eq_true, decide_eq_true_eq, StepT.mk.injEq]
theorem QgN {α : Type} {a b : List α} {i : Nat} (ha : i < a.length) (hb : i < b.length) (h : a.take i = b.take i) (he : a[i] = b[i]) : a.take (i + 1) = b.take (i + 1) := by
 rw [List.take_succ_eq_append_getElem ha, List.take_succ_eq_append_getElem hb, h, he]
theorem QkT {α : Type} [DecidableEq α] {a b : List α} {i : Nat} (ha : i < a.length) (hb : i < b.length) (he : ¬ a[i] = b[i]) : decide (a = b) = false := decide_eq_false fun e => he (by subst e; rfl)
theorem QfH {e : Int} (h1 : 0 <= e) (h2 : e <= 18446744073709551615) : IntKind.u64.wrap e = e := by
 unfold IntKind.wrap
 simp only [IntKind.bits, IntKind.signed, Bool.false_and, Bool.false_eq_true, if_false]
 omega
theorem QoU {p : Nat} (h : p <= 60) : IntKind.i64.wrap ((2 : Int) * 2 ^ min ((p : Nat) : Int).toNat IntKind.i64.bits) = 2 * 2 ^ p := by
 rw [show min ((p : Nat) : Int).toNat IntKind.i64.bits = p from by simp only [IntKind.bits, Int.toNat_natCast]; omega]
 have := QiG (i := p + 1) (by omega)
 rw [Int.pow_succ] at this
 exact Qr (by omega) (by omega)
theorem QrH (w : Qq) (u : Int) (x : WantT) : IntKind.i64.wrap (YC w u - Qkf w x) = YC w u - Qkf w x := by
 have h1 := Qd7 w u
 have h2 := Qrn w x
 exact Qr (by omega) (by omega)
def clF (w : Qq) (bar : Bool) (x : WantT) : TermT := ⟨x.u, if bar = true then Qkf w x else YC w x.u - Qkf w x⟩
def clT (w : Qq) (u : Int) (p : Nat) (bar : Bool) (l : List WantT) : List TermT := ⟨u, XQ (YC w u) (2 * 2 ^ p)⟩ :: l.map (clF w bar)
theorem Qby {w : Qq} {u : Int} {p : Nat} {bar : Bool} {l : List WantT} {i : Nat} (h : i < l.length) (hb : bar = false) : clT w u p bar (l.take (i + 1)) = clT w u p bar (l.take i) ++ [⟨l[i].u, YC w l[i].u - Qkf w l[i]⟩] := by
 rw [clT, List.take_succ_eq_append_getElem h, List.map_append, <- List.cons_append]; simp [clT, clF, hb]
theorem Qbx {w : Qq} {u : Int} {p : Nat} {bar : Bool} {l : List WantT} {i : Nat} (h : i < l.length) (hb : bar = true) : clT w u p bar (l.take (i + 1)) = clT w u p bar (l.take i) ++ [⟨l[i].u, Qkf w l[i]⟩] := by
 rw [clT, List.take_succ_eq_append_getElem h, List.map_append, <- List.cons_append]; simp [clT, clF, hb]
theorem Qni (w : Qq) (u : Int) (p : Nat) (bar : Bool) (l : List WantT) : (clT w u p bar l).length = l.length + 1 := by simp [clT]
theorem Qhz {w : Qq} {l : List TermT} {i : Nat} (h : i < l.length) (hu : inW w l[i].u = false) : Qdj w l = none := by
 rw [Qdj, XY h hu]; rfl
theorem Qn5 {w : Qq} {l : List TermT} (h : l.all (fun t => inW w t.u) = true) : Qdj w l = QjD w (XM (Qbj w) l) := by
 rw [Qdj, if_pos h]
theorem Qf6 (w : Qq) (l : List TermT) : (XM (Qbj w) l).length = w.length := by rw [QmJ, Qbj, Qdt]
def srt (l : List TermT) (u i : Nat) : List TermT := Ys l u ++ QeV l u i
theorem QbQ {l : List TermT} {u i : Nat} (h : i < l.length) (hn : l[i].u = ((u : Nat) : Int)) : srt l u (i + 1) = srt l u i ++ [l[i]] := by rw [srt, QrA h hn, <- List.append_assoc]; rfl
theorem Qeq {l : List TermT} {u i : Nat} (h : i < l.length) (hn : ¬ l[i].u = ((u : Nat) : Int)) : srt l u (i + 1) = srt l u i := by rw [srt, Qsu h hn]; rfl
theorem Qaq (l : List TermT) (u : Nat) : srt l u 0 = Ys l u := by simp [srt, QeV]
theorem QbP (l : List TermT) (u : Nat) {i : Nat} (h : l.length = i) : Ys l (u + 1) = srt l u i := by rw [Qj5, h]; rfl
theorem QrB (l : List TermT) (u i : Nat) : (srt l u i).length <= u * l.length + l.length := by
 have h1 := QhN l u
 have h2 := QoG l u i
 rw [srt, List.length_append]; omega
end M25
namespace Go.Proofs
open Go Go.Abs M3 M25
set_option linter.unusedVariables false
set_option linter.unusedSimpArgs false
theorem ZH {w : Qq} (hw : WSm w) {u : Int} : Ok Tryz.prog 48 [ZY w, .int .i64 u] (.int .i64 (YC w u)) := by
 refine Ok.ofT ZT Tryz.func48 Quo (Nat.le_of_ble_eq_true Z) ?_
 show TW _ _ tf48.body _ _
 refine Qf fun K hK => Zs Z Z Z (Qa Z (hK _ _ (Qb (kp2 Z Z) ?_)))
 refine QD ?_ -- 0
 refine Qf fun K hK => Qa Z (Yd Z Z (Qa Z ?_))
 refine QC (g := 7) Z (fun h1 => ?_) (fun h1 => ?_)
 ·try rw [h1]
  try simp only [qA] at h1
  refine Qs Z (Qs Z (Qs Z (Qs Z (Qs Z (Qm Z Z (hK _ _ (Qb (kp3 Z Z Z) ?_)))))))
  refine Zt Z (Qf fun K hK => Qa Z (hK _ _ (Qb (kp1 Z) ?_)))
  refine Qv (Qk (QE Z ?_))
  rw [Qd8 (by omega)]
 ·try rw [h1]
  try simp only [qA] at h1
  refine Qi Z (Qa Z (Qi Z (Qj Z Z (Qi Z (QB Z Z Z (Qi Z (QQ Z Z (Qi Z (Qfb Z Z (Qm Z Z (hK _ _ (Qb (kp3 Z Z Z) ?_))))))))))))
  refine Qx Z (fun h2 => ?_) (fun h2 => ?_)
  ·try rw [h2]
   try simp only [qA] at h2
   refine Qf fun K hK => Qa Z (hK _ _ (Qb (kp1 Z) ?_))
   refine Qv (Qk (QE Z ?_))
   rw [Qd8 (by omega)]
  ·try rw [h2]
   try simp only [qA] at h2
   refine Qw (Qe (kp2 Z Z) (Qf fun K hK => Qj Z Z (QB Z Z Z (Qa Z (QK Z Z Z (by omega) (ZE (by omega) (by omega)) Z (Q9 Z Z (QB Z Z Z (QQ Z Z (QsP Z Z (QX Z Z (by first | exact Qr (by omega) (by omega) | rfl) ?_))))))))))
   refine QG (Xl (by omega) (by omega)) Z Z (.inr Z) (X7 Z Z (Qkb (by omega)) (Qa Z (hK _ _ (Qb (kp1 Z) ?_))))
   refine Qv (QE Z ?_)
   rw [Qiu (by omega) (by omega), List.length_map, Qs1]
theorem Y6 {w : Qq} (hw : WSm w) {l : List TermT} (hl : l.length <= 1000000) {u : Int} : Ok Tryz.prog 76 [ZY w, Zz l, .int .i64 u] (.int .i64 (Qeb w l u)) := by
 refine Ok.ofT ZT Tryz.func76 QuN (Nat.le_of_ble_eq_true Z) ?_
 show TW _ _ tf76.body _ _
 refine Qf fun K hK => Zs Z Z Z (Qa Z (hK _ _ (Qb (kp3 Z Z Z) ?_)))
 refine QD ?_ -- 0
 refine Qf fun K hK => Qa Z (hK _ _ (Qb (kp4 Z Z Z Z) ?_))
 refine Qz ?_
 refine Zn (ι := Nat) (fun i => ⟨[(1, Zz l), (2, .int .i64 u), (3, .ref 3 0 0), (7, .int .i64 i)], [(3, ⟨[[.sl ((w).map YA)]], 1, 26, true⟩)]⟩) (fun i => i <= l.length /\ Qec (YC w u) u l = Qec (YC w u) u (l.drop i)) (fun i => l.length - i) 0 ?_ ?_ ?_
 ·exact Q3 (l := [1, 2, 3, 7]) (lH := [3]) (kp4 rfl rfl rfl rfl) (Qg rfl Qn) rfl rfl rfl
 ·exact ⟨Nat.zero_le _, by simp⟩
 intro i hI
 try dsimp only
 refine QD ?_ -- 1
 refine Qf fun K hK => Qa Z (Qa Z (QQ Z Z (Yd Z Z (hK _ _ (Qb (kp5 Z Z Z Z Z) ?_)))))
 refine Qx Z (fun h1 => ?_) (fun h1 => ?_)
 ·try rw [h1]
  try simp only [qA] at h1
  refine Qw (Qe (kp4 Z Z Z Z) ?_)
  refine QD ?_ -- 2
  refine Qz (Qf fun K hK => Qa Z (Qa Z (QK Z Z Z (by omega) (QT (by omega)) Z (Q9 Z Z (QB Z Z Z (Qa Z (ZD Z Z (hK _ _ (Qb (kp5 Z Z Z Z Z) ?_)))))))))
  refine Qx Z (fun h2 => ?_) (fun h2 => ?_)
  ·try rw [h2]
   try simp only [qA] at h2
   refine Qf fun K hK => Qa Z (Qa Z (QK Z Z Z (by omega) (QT (by omega)) Z (Q9 Z Z (QB Z Z Z (Qa Z (hK _ _ (Qb (kp1 Z) ?_)))))))
   refine Qv (Qu (Qk (Q2 (Qu (Qk (QE Z ?_))))))
   rw [Qeb, hI.2, Qob (by omega) h2]
  ·try rw [h2]
   try simp only [qA] at h2
   refine Qw (Qh (Qe (kp4 Z Z Z Z) (QO fun K hK => Qa Z (QX Z Z (by first | exact Qr (by omega) (by omega) | rfl) (Qa Z (hK _ ?_))))))
   refine Ql (i + 1) ?_ ?_ ?_
   ·exact Q3 (l := [1, 2, 3, 7]) (lH := [3]) (kp4 rfl rfl rfl rfl) (Qg rfl Qn) rfl rfl rfl
   ·exact ⟨by omega, by rw [hI.2, QmL (by omega) (by assumption)]⟩
   ·first | omega | (simp only; omega) | (dsimp only; omega)
 ·try rw [h1]
  try simp only [qA] at h1
  refine Zk (QN (Qy (QF (Qe (kp2 Z Z) (Qf fun K hK => QJ (cs := [_]) Z Z Z Z (Qa Z (QG (ZH hw) Z Z (.inr Z) (Qa Z (hK _ _ (Qb (kp1 Z) ?_))))))))))
  refine Qv (QE Z ?_)
  rw [Qeb, hI.2, List.drop_eq_nil_of_le (by omega)]; rfl
theorem Qdl {w : Qq} (hw : WSm w) {x : WantT} (hx : Sm x.s.1 /\ Sm x.s.2) : Ok Tryz.prog 101 [ZY w, .agg (Qff x)] (.int .i64 (Qkf w x)) := by
 refine Ok.ofT ZT Tryz.func101 Qs8 (Nat.le_of_ble_eq_true Z) ?_
 show TW _ _ tf101.body _ _
 refine Qf fun K hK => Zs Z Z Z (Zs Z Z Z (Qa Z (hK _ _ (Qb (kp2 Z Z) ?_))))
 refine QD ?_ -- 0
 refine Qf fun K hK => Qj Z Z (QB Z Z Z (Yd Z Z (Qa Z ?_)))
 refine QC (g := 11) Z (fun h1 => ?_) (fun h1 => ?_)
 ·try rw [h1]
  try simp only [qA] at h1
  refine Qs Z (Qs Z (Qs Z (Qs Z (Qs Z (Qs Z (Qm Z Z (hK _ _ (Qb (kp3 Z Z Z) ?_))))))))
  refine Zt Z (Qf fun K hK => Qa Z (hK _ _ (Qb (kp1 Z) ?_)))
  refine Qv (Qk (QE Z ?_))
  rw [QlM (by omega)]
 ·try rw [h1]
  try simp only [qA] at h1
  refine Qi Z (Qj Z Z (Qi Z (QB Z Z Z (Qi Z (Qj Z Z (Qi Z (QB Z Z Z (Qi Z (QQ Z Z (Qi Z (Qfb Z Z ?_)))))))))))
  refine Qm Z Z (hK _ _ (Qb (kp3 Z Z Z) ?_))
  refine Qx Z (fun h2 => ?_) (fun h2 => ?_)
  ·try rw [h2]
   try simp only [qA] at h2
   refine Qf fun K hK => Qa Z (hK _ _ (Qb (kp1 Z) ?_))
   refine Qv (Qk (QE Z ?_))
   rw [QlM (by omega)]
  ·try rw [h2]
   try simp only [qA] at h2
   refine Qw (Qe (kp2 Z Z) (Qf fun K hK => Qa Z (hK _ _ (Qb (kp3 Z Z Z) ?_))))
   refine Qf fun K hK => Qj Z Z (QB Z Z Z (Qj Z Z (QB Z Z Z (QK Z Z Z (by omega) (ZE (by omega) (by omega)) Z (Q9 Z Z (QB Z Z Z (Qa Z (hK _ _ (Qb (kp3 Z Z Z) ?_)))))))))
   refine QD ?_ -- 1
   refine Qf fun K hK => Qa Z (hK _ _ (Qb (kp4 Z Z Z Z) ?_))
   refine Qz ?_
   refine Zn (ι := Nat) (fun i => ⟨[(3, .ref 3 0 0), (5, .int .i64 (Qb3 x.s (w[x.u.toNat]'(by omega)).cs i)), (6, Qlo (w[x.u.toNat]'(by omega)).cs), (7, .int .i64 i)], [(3, ⟨[[.int .i64 (x).u, ZM (x).s.1, ZM (x).s.2]], 3, 81, true⟩)]⟩) (fun i => i <= (min (w[x.u.toNat]'(by omega)).cs.length 16)) (fun i => (min (w[x.u.toNat]'(by omega)).cs.length 16) - i) 0 ?_ ?_ ?_
   ·exact Q3 (l := [3, 5, 6, 7]) (lH := [3]) (kp4 rfl rfl rfl rfl) (Qg rfl Qn) rfl rfl rfl
   ·exact Nat.zero_le _
   intro i hI
   try dsimp only
   refine QD ?_ -- 2
   refine Qf fun K hK => Qa Z (Qa Z (QQ Z Z (Yd Z Z (Qa Z ?_))))
   refine QC (g := 30) Z (fun h3 => ?_) (fun h3 => ?_)
   ·try rw [h3]
    try simp only [qA] at h3
    refine Qi Z (Qa Z (Qi Z (Yd Z Z (Qm Z Z (hK _ _ (Qb (kp5 Z Z Z Z Z) ?_))))))
    refine Qx Z (fun h4 => ?_) (fun h4 => ?_)
    ·try rw [h4]
     try simp only [qA] at h4
     refine Qw (Qe (kp4 Z Z Z Z) ?_)
     refine QD ?_ -- 3
     refine Qz (Qf fun K hK => Qj Z Z (QM (ds0 := [0]) (cs := [_, _]) Z Z Z Z Z Z (Qa Z (Qa Z (QK Z Z Z (by omega) (QT (by omega)) Z (Q9 Z Z (QM (ds0 := [0]) (cs := [_, _, _, _, _]) Z Z Z Z Z Z (QP (ds0 := []) (QdP hx.1 hx.2 (hw.vs _ (List.getElem_mem _) _ (List.getElem_mem (by omega))).1 (hw.vs _ (List.getElem_mem _) _ (List.getElem_mem (by omega))).2) Z Z (.inr Z) Z Z (hK _ _ (Qb (kp5 Z Z Z Z Z) ?_))))))))))
     refine Qx Z (fun h5 => ?_) (fun h5 => ?_)
     ·try rw [h5]
      try simp only [qA] at h5
      refine QO fun K hK => Qa Z (Qa Z (QX Z Z (by first | exact Qr (by omega) (by omega) | rfl) (QG (Xl (by omega) (by omega)) Z Z (.inr Z) (QX Z Z (Qqb _ _ (by omega)) (Qa Z (hK _ ?_))))))
      refine Qh (Qe (kp4 Z Z Z Z) (QO fun K hK => Qa Z (QX Z Z (by first | exact Qr (by omega) (by omega) | rfl) (Qa Z (hK _ ?_)))))
      refine Ql (i + 1) ?_ ?_ ?_
      ·exact Q3 (l := [3, 5, 6, 7]) (lH := [3]) (kp4 rfl rfl rfl rfl) (Qg rfl Qn) (by rw [Qod (by omega) (by assumption)]; rfl) rfl rfl
      ·omega
      ·first | omega | (simp only; omega) | (dsimp only; omega)
     ·try rw [h5]
      try simp only [qA] at h5
      refine Qw (Qh (Qe (kp4 Z Z Z Z) (QO fun K hK => Qa Z (QX Z Z (by first | exact Qr (by omega) (by omega) | rfl) (Qa Z (hK _ ?_))))))
      refine Ql (i + 1) ?_ ?_ ?_
      ·exact Q3 (l := [3, 5, 6, 7]) (lH := [3]) (kp4 rfl rfl rfl rfl) (Qg rfl Qn) (by rw [QpJ (by omega) (by assumption)]; rfl) rfl rfl
      ·omega
      ·first | omega | (simp only; omega) | (dsimp only; omega)
    ·try rw [h4]
     try simp only [qA] at h4
     refine Zk (QN (Qy (QF (Qe (kp1 Z) (Qf fun K hK => Qa Z (Qa Z (hK _ _ (Qb (kp1 Z) ?_))))))))
     refine Qv (QE Z ?_)
     rw [Qn6 (by omega) (by omega), show i = min (w[x.u.toNat]'(by omega)).cs.length 16 by omega]
   ·try rw [h3]
    try simp only [qA] at h3
    refine Qs Z (Qs Z (Qm Z Z (hK _ _ (Qb (kp5 Z Z Z Z Z) ?_))))
    refine ZU Z (Zk (QN (Qy (QF (Qe (kp1 Z) (Qf fun K hK => Qa Z (Qa Z (hK _ _ (Qb (kp1 Z) ?_)))))))))
    refine Qv (QE Z ?_)
    rw [Qn6 (by omega) (by omega), show i = min (w[x.u.toNat]'(by omega)).cs.length 16 by omega]
theorem Qab {m : Int} : Ok Tryz.prog 45 [.int .i64 m] (ZB (X5 m)) := by
 refine Ok.ofT ZT Tryz.func45 Qul (Nat.le_of_ble_eq_true Z) ?_
 show TW _ _ tf45.body _ _
 refine Qf fun K hK => Qa Z (hK _ _ (Qb (kp1 Z) ?_))
 refine Qf fun K hK => Qa Z (hK _ _ (Qb (kp2 Z Z) ?_))
 refine QD ?_ -- 0
 refine Qf fun K hK => Qa Z (hK _ _ (Qb (kp3 Z Z Z) ?_))
 refine Qz ?_
 refine Zn (ι := Nat) (fun i => ⟨[(0, .int .i64 m), (3, .osl 3 (Yf m i).length), (4, .int .i64 i)], [(3, ⟨(Yf m i).map (fun x => [.int .i64 x]), 1, 3, true⟩)]⟩) (fun i => i <= 17) (fun i => 17 - i) 0 ?_ ?_ ?_
 ·exact le_trans (Yp 3 3 1 3 rfl rfl) (Q3 (l := [0, 3, 4]) (lH := [3]) (kp3 rfl rfl rfl) (Qg rfl Qn) rfl rfl rfl)
 ·exact Nat.zero_le _
 intro i hI
 have hlen := QeF m i
 try dsimp only
 refine QD ?_ -- 1
 refine Qf fun K hK => Qa Z (Qqe Z Z (hK _ _ (Qb (kp4 Z Z Z Z) ?_)))
 refine Qx Z (fun h1 => ?_) (fun h1 => ?_)
 ·try rw [h1]
  try simp only [qB] at h1
  refine Qw (Qe (kp3 Z Z Z) ?_)
  refine QD ?_ -- 2
  refine Qz (Qf fun K hK => Qa Z (Qa Z (QG (Xl (by omega) (by omega)) Z Z (.inr Z) (Qb6 Z Z (Xv Z Z (hK _ _ (Qb (kp4 Z Z Z Z) ?_)))))))
  refine Qx Z (fun h2 => ?_) (fun h2 => ?_)
  ·try rw [h2]
   try simp only [qB] at h2
   refine QO fun K hK => Qa Z (Qa Z (X7 Z Z (by first | exact Qr (by omega) (by omega) | rfl) (QI Z Z (XI Z Z (fun _ h => Xr Z Z Z h) Z (by simp) Z Z Z (by simp; omega) (by simp; omega) (Qa Z (hK _ ?_))))))
   refine Qh (Qe (kp3 Z Z Z) (QO fun K hK => Qa Z (QX Z Z (by first | exact Qr (by omega) (by omega) | rfl) (Qa Z (hK _ ?_)))))
   refine Ql (i + 1) ?_ ?_ ?_
   ·exact Q3 (l := [0, 3, 4]) (lH := [3]) (kp3 rfl rfl rfl) (Qg rfl Qn) (by first | (rw [XB (m := m) (n := i) h2]; done) | (rw [XB (m := m) (n := i) h2]; rfl) | (rw [XB (m := m) (n := i) h2, List.length_append]; rfl) | (simp [XB (m := m) (n := i) h2]; done) | (simp [XB (m := m) (n := i) h2]; omega) | rfl) (by first | (rw [XB (m := m) (n := i) h2]; done) | (rw [XB (m := m) (n := i) h2]; rfl) | (rw [XB (m := m) (n := i) h2, List.map_append]; rfl) | (simp [XB (m := m) (n := i) h2]; done) | rfl) rfl
   ·omega
   ·first | omega | (simp only; omega) | (dsimp only; omega)
  ·try rw [h2]
   try simp only [qB] at h2
   refine Qw (Qh (Qe (kp3 Z Z Z) (QO fun K hK => Qa Z (QX Z Z (by first | exact Qr (by omega) (by omega) | rfl) (Qa Z (hK _ ?_))))))
   refine Ql (i + 1) ?_ ?_ ?_
   ·exact Q3 (l := [0, 3, 4]) (lH := [3]) (kp3 rfl rfl rfl) (Qg rfl Qn) (by first | (rw [QaA (m := m) (n := i) h2]; done) | (rw [QaA (m := m) (n := i) h2]; rfl) | (rw [QaA (m := m) (n := i) h2, List.length_append]; rfl) | (simp [QaA (m := m) (n := i) h2]; done) | (simp [QaA (m := m) (n := i) h2]; omega) | rfl) (by first | (rw [QaA (m := m) (n := i) h2]; done) | (rw [QaA (m := m) (n := i) h2]; rfl) | (rw [QaA (m := m) (n := i) h2, List.map_append]; rfl) | (simp [QaA (m := m) (n := i) h2]; done) | rfl) rfl
   ·omega
   ·first | omega | (simp only; omega) | (dsimp only; omega)
 ·try rw [h1]
  try simp only [qB] at h1
  refine Zk (QN (Qy (QF (Qe (kp1 Z) (Qf fun K hK => Qa Z (Qa Z (hK _ _ (Qb (kp1 Z) ?_))))))))
  refine Qv ?_
  exact QaX rfl rfl rfl (by simp) (by rw [X5, show (17 : Nat) = i by omega]; rfl)
theorem Qc1 {a b : List TermT} (ha : a.length <= 1000000) : Ok Tryz.prog 102 [Zz a, Zz b] (.bool (decide (a = b))) := by
 refine Ok.ofT ZT Tryz.func102 Qs9 (Nat.le_of_ble_eq_true Z) ?_
 show TW _ _ tf102.body _ _
 refine Qf fun K hK => Qa Z (hK _ _ (Qb (kp2 Z Z) ?_))
 refine QD ?_ -- 0
 refine Qf fun K hK => Qa Z (QQ Z Z (Qa Z (QQ Z Z (Xv Z Z (hK _ _ (Qb (kp3 Z Z Z) ?_))))))
 refine Qx Z (fun h1 => ?_) (fun h1 => ?_)
 ·try rw [h1]
  try simp only [qA] at h1
  refine Qf fun K hK => Qa Z (hK _ _ (Qb (kp1 Z) ?_))
  refine Qv (Qk (Qt Z ?_))
  rw [decide_eq_false fun e => h1 (by rw [e])]
 ·try rw [h1]
  try simp only [qA] at h1
  refine Qw (Qe (kp2 Z Z) ?_)
  refine QD ?_ -- 1
  refine Qf fun K hK => Qa Z (hK _ _ (Qb (kp3 Z Z Z) ?_))
  refine Qz ?_
  refine Zn (ι := Nat) (fun i => ⟨[(0, Zz a), (1, Zz b), (5, .int .i64 i)], []⟩) (fun i => i <= a.length /\ a.take i = b.take i) (fun i => a.length - i) 0 ?_ ?_ ?_
  ·exact Zd (kp3 rfl rfl rfl)
  ·exact ⟨Nat.zero_le _, by simp⟩
  intro i hI
  try dsimp only
  refine QD ?_ -- 2
  refine Qf fun K hK => Qa Z (Qa Z (QQ Z Z (Yd Z Z (hK _ _ (Qb (kp4 Z Z Z Z) ?_)))))
  refine Qx Z (fun h2 => ?_) (fun h2 => ?_)
  ·try rw [h2]
   try simp only [qA] at h2
   refine Qw (Qe (kp3 Z Z Z) ?_)
   refine QD ?_ -- 3
   refine Qz (Qf fun K hK => Qa Z (Qa Z (QK Z Z Z (by omega) (QT (by omega)) Z (QM (ds0 := [0]) (cs := [_, _]) Z Z Z Z Z Z (Qa Z (Qa Z (QK Z Z Z (by omega) (QT (by omega)) Z (QM (ds0 := [0]) (cs := [_, _]) Z Z Z Z Z Z (Qqd Z Z QoR (hK _ _ (Qb (kp4 Z Z Z Z) ?_)))))))))))
   refine Qx Z (fun h3 => ?_) (fun h3 => ?_)
   ·try rw [h3]
    try simp only [qA] at h3
    refine Qf fun K hK => Qa Z (hK _ _ (Qb (kp1 Z) ?_))
    refine Qv (Qu (Qk (Q2 (Qu (Qk (Qt Z ?_))))))
    rw [QkT (i := i) (by omega) (by omega) h3]
   ·try rw [h3]
    try simp only [qA] at h3
    refine Qw (Qh (Qe (kp3 Z Z Z) (QO fun K hK => Qa Z (QX Z Z (by first | exact Qr (by omega) (by omega) | rfl) (Qa Z (hK _ ?_))))))
    refine Ql (i + 1) ?_ ?_ ?_
    ·exact Zd (kp3 rfl rfl rfl)
    ·exact ⟨by omega, QgN (by omega) (by omega) hI.2 h3⟩
    ·first | omega | (simp only; omega) | (dsimp only; omega)
  ·try rw [h2]
   try simp only [qA] at h2
   refine Zk (QN (Qy (QF (Qe (Q0) (Qf fun K hK => Qa Z (hK _ _ (Qb (kp1 Z) ?_)))))))
   refine Qv (Qt Z ?_)
   rw [List.take_of_length_le (by omega), List.take_of_length_le (by omega)] at hI; exact (decide_eq_true hI.2).symm
end Go.Proofs
namespace Go.Proofs
open Go Go.Abs M3 M25
set_option linter.unusedVariables false
set_option linter.unusedSimpArgs false
theorem Qca {w : Qq} (hw : WSm w) (et : Nat) (het : et = 3) : OkH Tryz.prog 79 [ZY w] [] (.osl 500000 (Qbj w).length) [(500000, ⟨(Qbj w).map (fun x => [.int .i64 x]), 1, et, true⟩)] := by
 subst het
 refine OkH.new ZT Tryz.func79 QuQ (Nat.le_of_ble_eq_true Z) Z ?_
 show TW _ _ tf79.body _ _
 have hn := hw.len
 refine Qf fun K hK => Zs Z Z Z (Qa Z (hK _ _ (Qb (kp1 Z) ?_)))
 refine Qf fun K hK => Qa Z (hK _ _ (Qb (kp2 Z Z) ?_))
 refine QD ?_ -- 0
 refine Qf fun K hK => Qa Z (hK _ _ (Qb (kp3 Z Z Z) ?_))
 refine Qz ?_
 refine Zn (ι := Nat) (fun i => ⟨[(1, .ref 1 0 0), (3, .osl 500000 (Qcj w i).length), (4, .int .i64 i)], [(1, ⟨[[.sl ((w).map YA)]], 1, 26, true⟩), (500000, ⟨(Qcj w i).map (fun x => [.int .i64 x]), 1, 3, true⟩)]⟩) (fun i => i <= w.length) (fun i => w.length - i) 0 ?_ ?_ ?_
 ·exact le_trans (Yp 3 500000 1 3 rfl rfl) (Q3 (l := [1, 3, 4]) (lH := [1, 500000]) (kp3 rfl rfl rfl) (Qg rfl (Qg rfl Qn)) rfl rfl rfl)
 ·exact Nat.zero_le _
 intro i hI
 have hlen := Qdt w i
 try dsimp only
 refine QD ?_ -- 1
 refine Qf fun K hK => Qa Z (Qj Z Z (QB Z Z Z (QQ Z Z (Yd Z Z (hK _ _ (Qb (kp4 Z Z Z Z) ?_))))))
 refine Qx Z (fun h1 => ?_) (fun h1 => ?_)
 ·try rw [h1]
  try simp only [qA] at h1
  refine Qw (Qe (kp3 Z Z Z) ?_)
  refine QD ?_ -- 2
  refine Qz (QO fun K hK => Qa Z (QJ (cs := [_]) Z Z Z Z (Qa Z (QG (ZH hw) Z Z (.inr Z) (QI Z Z (XI Z Z (fun _ h => Xr Z Z Z h) Z (by simp) Z Z Z (by simp; omega) (by simp; omega) (Qa Z (hK _ ?_))))))))
  refine Qh (Qe (kp3 Z Z Z) (QO fun K hK => Qa Z (QX Z Z (by first | exact Qr (by omega) (by omega) | rfl) (Qa Z (hK _ ?_)))))
  refine Ql (i + 1) ?_ ?_ ?_
  ·exact Q3 (l := [1, 3, 4]) (lH := [1, 500000]) (kp3 rfl rfl rfl) (Qg rfl (Qg rfl Qn)) (by first | (rw [Qaj]; done) | (rw [Qaj]; rfl) | (rw [Qaj, List.length_append]; rfl) | (simp [Qaj]; done) | (simp [Qaj]; omega) | rfl) (by first | (rw [Qaj]; done) | (rw [Qaj]; rfl) | (rw [Qaj, List.map_append]; rfl) | (simp [Qaj]; done) | rfl) rfl
  ·omega
  ·first | omega | (simp only; omega) | (dsimp only; omega)
 ·try rw [h1]
  try simp only [qA] at h1
  refine Zk (QN (Qy (QF (Qe (kp1 Z) (Qf fun K hK => Qa Z (Qa Z (hK _ _ (Qb (kp1 Z) ?_))))))))
  refine Qv ?_
  refine Xc Z ?_ (QeY ?_)
  ·rw [Qbj, show w.length = i by omega]; rfl
  ·rw [Qbj, show w.length = i by omega]; rfl
theorem Qc2 {w : Qq} (hw : WSm w) {ms : List Int} (hm : ms.length <= 1000000) : Ok Tryz.prog 80 [ZY w, ZB ms] (dOT (QjD w ms)) := by
 refine Ok.ofT ZT Tryz.func80 QuR (Nat.le_of_ble_eq_true Z) ?_
 show TW _ _ tf80.body _ _
 refine Qf fun K hK => Zs Z Z Z (Qa Z (Qa Z (hK _ _ (Qb (kp2 Z Z) ?_))))
 refine Qf fun K hK => Qa Z (hK _ _ (Qb (kp3 Z Z Z) ?_))
 refine QD ?_ -- 0
 refine Qf fun K hK => Qa Z (hK _ _ (Qb (kp4 Z Z Z Z) ?_))
 refine Qz ?_
 refine Zn (ι := Nat) (fun i => ⟨[(1, ZB ms), (2, .ref 2 0 0), (6, .osl 6 (XN w ms i).length), (7, .int .i64 i)], [(2, ⟨[[.sl ((w).map YA)]], 1, 26, true⟩), (6, ⟨(XN w ms i).map Qch, 2, 35, true⟩)]⟩) (fun i => i <= ms.length /\ (ms.take i).all (fun m => !decide (m = 0)) = true) (fun i => ms.length - i) 0 ?_ ?_ ?_
 ·exact le_trans (Yp 6 6 2 35 rfl rfl) (Q3 (l := [1, 2, 6, 7]) (lH := [2, 6]) (kp4 rfl rfl rfl rfl) (Qg rfl (Qg rfl Qn)) rfl rfl rfl)
 ·exact ⟨Nat.zero_le _, by simp⟩
 intro i hI
 have hlen := QhD w ms i
 try dsimp only
 refine QD ?_ -- 1
 refine Qf fun K hK => Qa Z (Qa Z (QQ Z Z (Yd Z Z (hK _ _ (Qb (kp5 Z Z Z Z Z) ?_)))))
 refine Qx Z (fun h1 => ?_) (fun h1 => ?_)
 ·try rw [h1]
  try simp only [qA] at h1
  refine Qw (Qe (kp4 Z Z Z Z) ?_)
  refine QD ?_ -- 2
  refine Qz ?_
  refine QD ?_ -- 3
  refine Qf fun K hK => Qa Z (Qa Z (QK Z Z Z (by omega) (QT (by omega)) Z (QB Z Z Z (ZD Z Z (hK _ _ (Qb (kp5 Z Z Z Z Z) ?_))))))
  refine Qx Z (fun h2 => ?_) (fun h2 => ?_)
  ·try rw [h2]
   try simp only [qA] at h2
   refine Qf fun K hK => Qa Z (Qa Z (hK _ _ (Qb (kp2 Z Z) ?_)))
   refine Qv (Qk (Qu (Qk (Q2 (Qu (Qk ?_))))))
   rw [QmI (i := i) (by omega) h2]
   exact QW rfl rfl ⟨rfl, rfl⟩
  ·try rw [h2]
   try simp only [qA] at h2
   refine Qw (Qe (kp4 Z Z Z Z) (Qf fun K hK => Qa Z (Qa Z (QK Z Z Z (by omega) (QT (by omega)) Z (QR (ds0 := [0]) Z Z Z Z Z (QM (ds0 := [1, 0]) (cs := [_]) Z Z Z Z Z Z (Qa Z (QP (ds0 := [0]) (ZH hw) Z Z (.inr Z) Z Z (Xv Z Z (hK _ _ (Qb (kp5 Z Z Z Z Z) ?_)))))))))))
   refine Qx Z (fun h3 => ?_) (fun h3 => ?_)
   ·try rw [h3]
    try simp only [qA] at h3
    refine QO fun K hK => Qa Z (Qa Z (Qa Z (Qa Z (QK Z Z Z (by omega) (QT (by omega)) Z (QB Z Z Z (QV Z Z (QI Z Z (XI Z Z (fun _ h => Xr Z Z Z h) Z (by simp) Z Z Z (by simp; omega) (by simp; omega) (Qa Z (hK _ ?_))))))))))
    refine Qh (Qe (kp4 Z Z Z Z) (QO fun K hK => Qa Z (QX Z Z (by first | exact Qr (by omega) (by omega) | rfl) (Qa Z (hK _ ?_)))))
    refine Ql (i + 1) ?_ ?_ ?_
    ·exact Q3 (l := [1, 2, 6, 7]) (lH := [2, 6]) (kp4 rfl rfl rfl rfl) (Qg rfl (Qg rfl Qn)) (by first | (rw [Qal (by omega) h3]; done) | (rw [Qal (by omega) h3]; rfl) | (rw [Qal (by omega) h3, List.length_append]; rfl) | (simp [Qal (by omega) h3]; done) | (simp [Qal (by omega) h3]; omega) | rfl) (by first | (rw [Qal (by omega) h3]; done) | (rw [Qal (by omega) h3]; rfl) | (rw [Qal (by omega) h3, List.map_append]; rfl) | (simp [Qal (by omega) h3]; done) | rfl) rfl
    ·exact ⟨by omega, Yj (by omega) hI.2 (by simpa using h2)⟩
    ·first | omega | (simp only; omega) | (dsimp only; omega)
   ·try rw [h3]
    try simp only [qA] at h3
    refine Qw (Qh (Qe (kp4 Z Z Z Z) (QO fun K hK => Qa Z (QX Z Z (by first | exact Qr (by omega) (by omega) | rfl) (Qa Z (hK _ ?_))))))
    refine Ql (i + 1) ?_ ?_ ?_
    ·exact Q3 (l := [1, 2, 6, 7]) (lH := [2, 6]) (kp4 rfl rfl rfl rfl) (Qg rfl (Qg rfl Qn)) (by first | (rw [QbL (by omega) h3]; done) | (rw [QbL (by omega) h3]; rfl) | (rw [QbL (by omega) h3, List.length_append]; rfl) | (simp [QbL (by omega) h3]; done) | (simp [QbL (by omega) h3]; omega) | rfl) (by first | (rw [QbL (by omega) h3]; done) | (rw [QbL (by omega) h3]; rfl) | (rw [QbL (by omega) h3, List.map_append]; rfl) | (simp [QbL (by omega) h3]; done) | rfl) rfl
    ·exact ⟨by omega, Yj (by omega) hI.2 (by simpa using h2)⟩
    ·first | omega | (simp only; omega) | (dsimp only; omega)
 ·try rw [h1]
  try simp only [qA] at h1
  refine Zk (QN (Qy (QF (Qe (kp1 Z) (Qf fun K hK => Qa Z (Qa Z (Qa Z (hK _ _ (Qb (kp2 Z Z) ?_)))))))))
  refine Qv ?_
  rw [Qn4 (i := i) (by omega) hI.2]
  exact QgC rfl rfl rfl (by simp) (by show D.sl _ = Zz (XN w ms ms.length); rw [show ms.length = i by omega]; rfl) rfl rfl
theorem Qac {w : Qq} (hw : WSm w) {l : List TermT} (hl : l.length <= 2000000) : Ok Tryz.prog 47 [ZY w, Zz l] (dOT (Qdj w l)) := by
 refine Ok.ofT ZT Tryz.func47 Qun (Nat.le_of_ble_eq_true Z) ?_
 show TW _ _ tf47.body _ _
 have hn := hw.len
 refine Qf fun K hK => Zs Z Z Z (Qa Z (Qa Z (hK _ _ (Qb (kp2 Z Z) ?_))))
 refine Qf fun K hK => QJ (cs := [_]) rfl rfl rfl rfl (YJ (Qr6 rfl (by intro x hx; simp at hx; subst hx; rfl) rfl rfl rfl (Qca hw _ rfl)) (Qa rfl (hK _ _ (Qb (kp3 rfl rfl rfl) ?_))))
 refine Qg5 (ι := Unit) (fun _ => ⟨[(2, .ref 2 0 0), (6, ZB (XM (Qbj w) l))], [(2, ⟨[[.sl ((w).map YA)]], 1, 26, true⟩)]⟩) (fun _ => l.all (fun t => inW w t.u) = true) ?_ ?_
 ·skip
  refine Qf fun K hK => Qa Z (hK _ _ (Qb (kp4 Z Z Z Z) ?_))
  refine Qz ?_
  refine Zn (ι := Nat) (fun i => ⟨[(1, Zz l), (2, .ref 2 0 0), (6, .osl 500000 (XM (Qbj w) (l.take i)).length), (7, .int .i64 i)], [(2, ⟨[[.sl ((w).map YA)]], 1, 26, true⟩), (500000, ⟨(XM (Qbj w) (l.take i)).map (fun x => [.int .i64 x]), 1, 3, true⟩)]⟩) (fun i => i <= l.length /\ (l.take i).all (fun t => inW w t.u) = true) (fun i => l.length - i) 0 ?_ ?_ ?_
  ·exact Q3 (l := [1, 2, 6, 7]) (lH := [2, 500000]) (kp4 rfl rfl rfl rfl) (Qg rfl (Qg rfl Qn)) rfl rfl rfl
  ·exact ⟨Nat.zero_le _, by simp⟩
  intro i hI
  have hlen := Qf6 w (l.take i)
  try dsimp only
  refine QD ?_ -- 1
  refine Qf fun K hK => Qa Z (Qa Z (QQ Z Z (Yd Z Z (hK _ _ (Qb (kp5 Z Z Z Z Z) ?_)))))
  refine Qx Z (fun h1 => ?_) (fun h1 => ?_)
  ·try rw [h1]
   try simp only [qA] at h1
   refine Qw (Qe (kp4 Z Z Z Z) ?_)
   refine QD ?_ -- 2
   refine Qz ?_
   refine QD ?_ -- 3
   refine Qf fun K hK => Qa Z (Qa Z (QK Z Z Z (by omega) (QT (by omega)) Z (Q9 Z Z (QB Z Z Z (Yd Z Z (Qa Z ?_))))))
   refine QC (g := 22) Z (fun h2 => ?_) (fun h2 => ?_)
   ·try rw [h2]
    try simp only [qA] at h2
    refine Qs Z (Qs Z (Qs Z (Qs Z (Qs Z (Qs Z (Qs Z (Qs Z (Qm Z Z (hK _ _ (Qb (kp5 Z Z Z Z Z) ?_))))))))))
    refine Zt Z (Qf fun K hK => Qa Z (Qa Z (hK _ _ (Qb (kp2 Z Z) ?_))))
    refine Qv (Qk (Qu (Qk (Q2 (Qu (Qd2 ?_))))))
    rw [Qhz (i := i) (by omega) (Qdu (by omega))]
    exact QW rfl rfl ⟨rfl, rfl⟩
   ·try rw [h2]
    try simp only [qA] at h2
    refine Qi Z (Qa Z (Qi Z (Qa Z (Qi Z (QK Z Z Z (by omega) (QT (by omega)) Z (Qi Z (Q9 Z Z (Qi Z (QB Z Z Z (Qi Z (Qa Z ?_)))))))))))
    refine Qi Z (QQ Z Z (Qi Z (Qfb Z Z (Qm Z Z (hK _ _ (Qb (kp5 Z Z Z Z Z) ?_))))))
    refine Qx Z (fun h3 => ?_) (fun h3 => ?_)
    ·try rw [h3]
     try simp only [qA] at h3
     refine Qf fun K hK => Qa Z (Qa Z (hK _ _ (Qb (kp2 Z Z) ?_)))
     refine Qv (Qk (Qu (Qk (Q2 (Qu (Qd2 ?_))))))
     rw [Qhz (i := i) (by omega) (Qdu (by omega))]
     exact QW rfl rfl ⟨rfl, rfl⟩
    ·try rw [h3]
     try simp only [qA] at h3
     refine Qw (Qe (kp4 Z Z Z Z) (QO fun K hK => Qa Z (Qa Z (Qa Z (QK Z Z Z (by omega) (QT (by omega)) Z (Q9 Z Z (QR (ds0 := [1, 0]) Z Z Z Z Z (Qa Z (Qa Z (Qa Z ?_))))))))))
     refine QK Z Z Z (by omega) (QT (by omega)) Z (Q9 Z Z (QR (ds0 := [9, 8, 2, 0]) Z Z Z Z Z (Xu (ds0 := [8, 2, 0]) Z Z Z (by simp) (by omega) (by omega) Z Z Z (QR (ds0 := [2, 0]) Z (Yb Z (ZE (by omega) (by omega))) Z Z Z (Qa Z (Qa Z (QK Z Z Z (by omega) (QT (by omega)) Z (Q9 Z Z (QR (ds0 := [2, 0]) Z Z Z Z Z (Qb6 Z Z (Xu (ds0 := [0]) Z Z Z (by simp) (by omega) (by omega) Z Z Z ?_)))))))))))
     refine Xd (ds0 := []) Z Z (ZE (by omega) (by omega)) Z Z Z Z Z Z Z (hK _ ?_)
     refine Qh (Qe (kp4 Z Z Z Z) (QO fun K hK => Qa Z (QX Z Z (by first | exact Qr (by omega) (by omega) | rfl) (Qa Z (hK _ ?_)))))
     refine Ql (i + 1) ?_ ?_ ?_
     ·exact Q3 (l := [1, 2, 6, 7]) (lH := [2, 500000]) (kp4 rfl rfl rfl rfl) (Qg rfl (Qg rfl Qn)) (by rw [QlO (by omega) (by omega), List.length_set]; rfl) (by rw [QlO (by omega) (by omega), List.map_set]; rfl) rfl
     ·exact ⟨by omega, Yj (by omega) hI.2 (Qgc (by omega) (by omega))⟩
     ·first | omega | (simp only; omega) | (dsimp only; omega)
  ·try rw [h1]
   try simp only [qA] at h1
   refine Zk (QN (Qy (QF ?_)))
   refine Z5 () ?_ ?_
   ·exact le_trans (Qge (l := [2]) (lH := [2]) 500000 6 (kp1 rfl) (Qg rfl Qn) rfl rfl rfl (by first | (simp; done) | (simp; omega)) rfl rfl rfl rfl) (Q3 (l := [2, 6]) (lH := [2]) (kp2 rfl rfl) (Qg rfl Qn) (by rw [List.take_of_length_le (show l.length <= i by omega)]; rfl) rfl rfl)
   ·exact XP (by omega) hI.2
 intro _ hJ
 try dsimp only
 refine Qf fun K hK => QJ (cs := [_]) Z Z Z Z (Qa Z (QG (Qc2 hw (by rw [Qf6]; omega)) Z Z (.inl Z) (Zc Z Z (Zc Z Z (Qa Z (Qa Z (hK _ _ (Qb (kp2 Z Z) ?_))))))))
 refine Qv ?_
 rw [Qn5 hJ]
 exact QW rfl rfl ⟨rfl, rfl⟩
theorem Xm {l : List TermT} (hl : l.length <= 2000000) {u : Int} : Ok Tryz.prog 103 [Zz l, .int .i64 u] (Zz (Qhv l u)) := by
 refine Ok.ofT ZT Tryz.func103 Qta (Nat.le_of_ble_eq_true Z) ?_
 show TW _ _ tf103.body _ _
 refine Qf fun K hK => Qa Z (hK _ _ (Qb (kp2 Z Z) ?_))
 refine Qf fun K hK => Qa Z (hK _ _ (Qb (kp3 Z Z Z) ?_))
 refine QD ?_ -- 0
 refine Qf fun K hK => Qa Z (hK _ _ (Qb (kp4 Z Z Z Z) ?_))
 refine Qz ?_
 refine Zn (ι := Nat) (fun i => ⟨[(0, Zz l), (1, .int .i64 u), (5, .osl 5 (Qhv (l.take i) u).length), (6, .int .i64 i)], [(5, ⟨(Qhv (l.take i) u).map Qch, 2, 35, true⟩)]⟩) (fun i => i <= l.length) (fun i => l.length - i) 0 ?_ ?_ ?_
 ·exact le_trans (Yp 5 5 2 35 rfl rfl) (Q3 (l := [0, 1, 5, 6]) (lH := [5]) (kp4 rfl rfl rfl rfl) (Qg rfl Qn) rfl rfl rfl)
 ·exact Nat.zero_le _
 intro i hI
 have hlen := Qo9 l u i
 try dsimp only
 refine QD ?_ -- 1
 refine Qf fun K hK => Qa Z (Qa Z (QQ Z Z (Yd Z Z (hK _ _ (Qb (kp5 Z Z Z Z Z) ?_)))))
 refine Qx Z (fun h1 => ?_) (fun h1 => ?_)
 ·try rw [h1]
  try simp only [qA] at h1
  refine Qw (Qe (kp4 Z Z Z Z) ?_)
  refine QD ?_ -- 2
  refine Qz (Qf fun K hK => Qa Z (Qa Z (QK Z Z Z (by omega) (QT (by omega)) Z (Q9 Z Z (QB Z Z Z (Qa Z (Xv Z Z (hK _ _ (Qb (kp5 Z Z Z Z Z) ?_)))))))))
  refine Qx Z (fun h2 => ?_) (fun h2 => ?_)
  ·try rw [h2]
   try simp only [qA] at h2
   refine QO fun K hK => Qa Z (Qa Z (Qa Z (QK Z Z Z (by omega) (QT (by omega)) Z (QJ (cs := [_, _]) Z Z Z Z (QI Z Z (XI Z Z (fun _ h => Xr Z Z Z h) Z (by simp) Z Z Z (by simp; omega) (by simp; omega) (Qa Z (hK _ ?_))))))))
   refine Qh (Qe (kp4 Z Z Z Z) (QO fun K hK => Qa Z (QX Z Z (by first | exact Qr (by omega) (by omega) | rfl) (Qa Z (hK _ ?_)))))
   refine Ql (i + 1) ?_ ?_ ?_
   ·exact Q3 (l := [0, 1, 5, 6]) (lH := [5]) (kp4 rfl rfl rfl rfl) (Qg rfl Qn) (by first | (rw [Qbt (by omega) h2]; done) | (rw [Qbt (by omega) h2]; rfl) | (rw [Qbt (by omega) h2, List.length_append]; rfl) | (simp [Qbt (by omega) h2]; done) | (simp [Qbt (by omega) h2]; omega) | rfl) (by first | (rw [Qbt (by omega) h2]; done) | (rw [Qbt (by omega) h2]; rfl) | (rw [Qbt (by omega) h2, List.map_append]; rfl) | (simp [Qbt (by omega) h2]; done) | rfl) rfl
   ·omega
   ·first | omega | (simp only; omega) | (dsimp only; omega)
  ·try rw [h2]
   try simp only [qA] at h2
   refine Qw (Qh (Qe (kp4 Z Z Z Z) (QO fun K hK => Qa Z (QX Z Z (by first | exact Qr (by omega) (by omega) | rfl) (Qa Z (hK _ ?_))))))
   refine Ql (i + 1) ?_ ?_ ?_
   ·exact Q3 (l := [0, 1, 5, 6]) (lH := [5]) (kp4 rfl rfl rfl rfl) (Qg rfl Qn) (by first | (rw [QdJ (by omega) h2]; done) | (rw [QdJ (by omega) h2]; rfl) | (rw [QdJ (by omega) h2, List.length_append]; rfl) | (simp [QdJ (by omega) h2]; done) | (simp [QdJ (by omega) h2]; omega) | rfl) (by first | (rw [QdJ (by omega) h2]; done) | (rw [QdJ (by omega) h2]; rfl) | (rw [QdJ (by omega) h2, List.map_append]; rfl) | (simp [QdJ (by omega) h2]; done) | rfl) rfl
   ·omega
   ·first | omega | (simp only; omega) | (dsimp only; omega)
 ·try rw [h1]
  try simp only [qA] at h1
  refine Zk (QN (Qy (QF (Qe (kp1 Z) (Qf fun K hK => Qa Z (Qa Z (hK _ _ (Qb (kp1 Z) ?_))))))))
  refine Qv ?_
  exact QaX rfl rfl rfl (by simp) (by rw [List.take_of_length_le (show l.length <= i by omega)]; rfl)
theorem QbZ {l : List TermT} (hl : l.length <= 3000000) : Ok Tryz.prog 104 [Zz l] (Zz (Qiz l)) := by
 refine Ok.ofT ZT Tryz.func104 Qtb (Nat.le_of_ble_eq_true Z) ?_
 show TW _ _ tf104.body _ _
 refine Qf fun K hK => Qa Z (hK _ _ (Qb (kp1 Z) ?_))
 refine Qf fun K hK => Qa Z (hK _ _ (Qb (kp2 Z Z) ?_))
 refine QD ?_ -- 0
 refine Qf fun K hK => Qa Z (hK _ _ (Qb (kp3 Z Z Z) ?_))
 refine Qz ?_
 refine Zn (ι := Nat) (fun u => ⟨[(0, Zz l), (3, .osl 3 (Ys l u).length), (4, .int .i64 u)], [(3, ⟨(Ys l u).map Qch, 2, 35, true⟩)]⟩) (fun u => u <= 48) (fun u => 48 - u) 0 ?_ ?_ ?_
 ·exact le_trans (Yp 3 3 2 35 rfl rfl) (Q3 (l := [0, 3, 4]) (lH := [3]) (kp3 rfl rfl rfl) (Qg rfl Qn) rfl rfl rfl)
 ·exact Nat.zero_le _
 intro u hU
 have hlen2 : u * l.length <= 48 * 3000000 := Nat.mul_le_mul (by omega) hl
 try dsimp only
 refine QD ?_ -- 1
 refine Qf fun K hK => Qa Z (Yd Z Z (hK _ _ (Qb (kp4 Z Z Z Z) ?_)))
 refine Qx Z (fun h1 => ?_) (fun h1 => ?_)
 ·try rw [h1]
  try simp only [qA] at h1
  refine Qw (Qe (kp3 Z Z Z) ?_)
  refine QD ?_ -- 2
  refine Qz (Qf fun K hK => Qa Z (hK _ _ (Qb (kp4 Z Z Z Z) ?_)))
  refine Qz ?_
  refine Zn (ι := Nat) (fun i => ⟨[(0, Zz l), (3, .osl 3 (srt l u i).length), (4, .int .i64 u), (5, .int .i64 i)], [(3, ⟨(srt l u i).map Qch, 2, 35, true⟩)]⟩) (fun i => i <= l.length) (fun i => l.length - i) 0 ?_ ?_ ?_
  ·exact Q3 (l := [0, 3, 4, 5]) (lH := [3]) (kp4 rfl rfl rfl rfl) (Qg rfl Qn) (by first | (rw [Qaq]; done) | (rw [Qaq]; rfl) | (rw [Qaq, List.length_append]; rfl) | (simp [Qaq]; done) | (simp [Qaq]; omega) | rfl) (by first | (rw [Qaq]; done) | (rw [Qaq]; rfl) | (rw [Qaq, List.map_append]; rfl) | (simp [Qaq]; done) | rfl) rfl
  ·exact Nat.zero_le _
  intro i hI
  have hlen3 := QrB l u i
  try dsimp only
  refine QD ?_ -- 3
  refine Qf fun K hK => Qa Z (Qa Z (QQ Z Z (Yd Z Z (hK _ _ (Qb (kp5 Z Z Z Z Z) ?_)))))
  refine Qx Z (fun h2 => ?_) (fun h2 => ?_)
  ·try rw [h2]
   try simp only [qA] at h2
   refine Qw (Qe (kp4 Z Z Z Z) ?_)
   refine QD ?_ -- 4
   refine Qz (Qf fun K hK => Qa Z (Qa Z (QK Z Z Z (by omega) (QT (by omega)) Z (Q9 Z Z (QB Z Z Z (Qa Z (ZD Z Z (hK _ _ (Qb (kp5 Z Z Z Z Z) ?_)))))))))
   refine Qx Z (fun h3 => ?_) (fun h3 => ?_)
   ·try rw [h3]
    try simp only [qA] at h3
    refine QO fun K hK => Qa Z (Qa Z (Qa Z (QK Z Z Z (by omega) (QT (by omega)) Z (QJ (cs := [_, _]) Z Z Z Z (QI Z Z (XI Z Z (fun _ h => Xr Z Z Z h) Z (by simp) Z Z Z (by simp; omega) (by simp; omega) (Qa Z (hK _ ?_))))))))
    refine Qh (Qe (kp4 Z Z Z Z) (QO fun K hK => Qa Z (QX Z Z (by first | exact Qr (by omega) (by omega) | rfl) (Qa Z (hK _ ?_)))))
    refine Ql (i + 1) ?_ ?_ ?_
    ·exact Q3 (l := [0, 3, 4, 5]) (lH := [3]) (kp4 rfl rfl rfl rfl) (Qg rfl Qn) (by first | (rw [QbQ (by omega) h3]; done) | (rw [QbQ (by omega) h3]; rfl) | (rw [QbQ (by omega) h3, List.length_append]; rfl) | (simp [QbQ (by omega) h3]; done) | (simp [QbQ (by omega) h3]; omega) | rfl) (by first | (rw [QbQ (by omega) h3]; done) | (rw [QbQ (by omega) h3]; rfl) | (rw [QbQ (by omega) h3, List.map_append]; rfl) | (simp [QbQ (by omega) h3]; done) | rfl) rfl
    ·omega
    ·first | omega | (simp only; omega) | (dsimp only; omega)
   ·try rw [h3]
    try simp only [qA] at h3
    refine Qw (Qh (Qe (kp4 Z Z Z Z) (QO fun K hK => Qa Z (QX Z Z (by first | exact Qr (by omega) (by omega) | rfl) (Qa Z (hK _ ?_))))))
    refine Ql (i + 1) ?_ ?_ ?_
    ·exact Q3 (l := [0, 3, 4, 5]) (lH := [3]) (kp4 rfl rfl rfl rfl) (Qg rfl Qn) (by first | (rw [Qeq (by omega) h3]; done) | (rw [Qeq (by omega) h3]; rfl) | (rw [Qeq (by omega) h3, List.length_append]; rfl) | (simp [Qeq (by omega) h3]; done) | (simp [Qeq (by omega) h3]; omega) | rfl) (by first | (rw [Qeq (by omega) h3]; done) | (rw [Qeq (by omega) h3]; rfl) | (rw [Qeq (by omega) h3, List.map_append]; rfl) | (simp [Qeq (by omega) h3]; done) | rfl) rfl
    ·omega
    ·first | omega | (simp only; omega) | (dsimp only; omega)
  ·try rw [h2]
   try simp only [qA] at h2
   refine Zk (QN (Qy (QF (Qh (Qe (kp3 Z Z Z) (QO fun K hK => Qa Z (QX Z Z (by first | exact Qr (by omega) (by omega) | rfl) (Qa Z (hK _ ?_)))))))))
   refine Ql (u + 1) ?_ ?_ ?_
   ·exact Q3 (l := [0, 3, 4]) (lH := [3]) (kp3 rfl rfl rfl) (Qg rfl Qn) (by first | (rw [QbP l u (show l.length = i by omega)]; done) | (rw [QbP l u (show l.length = i by omega)]; rfl) | (rw [QbP l u (show l.length = i by omega), List.length_append]; rfl) | (simp [QbP l u (show l.length = i by omega)]; done) | (simp [QbP l u (show l.length = i by omega)]; omega) | rfl) (by first | (rw [QbP l u (show l.length = i by omega)]; done) | (rw [QbP l u (show l.length = i by omega)]; rfl) | (rw [QbP l u (show l.length = i by omega), List.map_append]; rfl) | (simp [QbP l u (show l.length = i by omega)]; done) | rfl) rfl
   ·omega
   ·first | omega | (simp only; omega) | (dsimp only; omega)
 ·try rw [h1]
  try simp only [qA] at h1
  refine Zk (QN (Qy (QF (Qe (kp1 Z) (Qf fun K hK => Qa Z (Qa Z (hK _ _ (Qb (kp1 Z) ?_))))))))
  refine Qv ?_
  exact QaX rfl rfl rfl (by simp) (by rw [Qiz, show (48 : Nat) = u by omega]; rfl)
theorem XJ {w : Qq} (hw : WSm w) {u : Int} {p : Nat} (hp : p <= 60) {l : List WantT} (hl : l.length <= 1000000) (hx : ∀ x ∈ l, Sm x.s.1 /\ Sm x.s.2) {bar : Bool} : Ok Tryz.prog 77 [ZY w, .int .i64 u, .int .i64 (p : Nat), Ze l, .bool bar] (dOT (Yq w u p l bar)) := by
 refine Ok.ofT ZT Tryz.func77 QuO (Nat.le_of_ble_eq_true Z) ?_
 show TW _ _ tf77.body _ _
 refine Qf fun K hK => Zs Z Z Z (Qa Z (Qa Z (hK _ _ (Qb (kp5 Z Z Z Z Z) ?_))))
 refine Qf fun K hK => Qa Z (QJ (cs := [_]) Z Z Z Z (Qa Z (QG (ZH hw) Z Z (.inr Z) (Qa Z (Qi2 Z (QfH (by omega) (by omega)) (Qo0 Z Z (by omega) (QoU hp) (Qb6 Z Z (QV Z Z (QI Z Z (Qa Z ?_))))))))))
 refine hK _ _ (Qb (kp4 Z Z Z Z) ?_)
 refine Qg5 (ι := Unit) (fun _ => ⟨[(5, .ref 5 0 0), (12, Zz (clT w u p bar l))], [(5, ⟨[[.sl ((w).map YA)]], 1, 26, true⟩)]⟩) (fun _ => True) ?_ ?_
 ·skip
  refine Qf fun K hK => Qa Z (hK _ _ (Qb (kp5 Z Z Z Z Z) ?_))
  refine Qz ?_
  refine Zn (ι := Nat) (fun i => ⟨[(3, Ze l), (4, .bool bar), (5, .ref 5 0 0), (12, .osl 24 (clT w u p bar (l.take i)).length), (13, .int .i64 i)], [(5, ⟨[[.sl ((w).map YA)]], 1, 26, true⟩), (24, ⟨(clT w u p bar (l.take i)).map Qch, 2, 35, true⟩)]⟩) (fun i => i <= l.length) (fun i => l.length - i) 0 ?_ ?_ ?_
  ·exact Q3 (l := [3, 4, 5, 12, 13]) (lH := [5, 24]) (kp5 rfl rfl rfl rfl rfl) (Qg rfl (Qg rfl Qn)) rfl rfl rfl
  ·exact Nat.zero_le _
  intro i hI
  have hlen := Qni w u p bar (l.take i)
  have hlen2 : (l.take i).length <= l.length := List.length_take_le' ..
  try dsimp only
  refine QD ?_ -- 1
  refine Qf fun K hK => Qa Z (Qa Z (QQ Z Z (Yd Z Z (hK _ _ (Qb (kp6 Z Z Z Z Z Z) ?_)))))
  refine Qx Z (fun h1 => ?_) (fun h1 => ?_)
  ·try rw [h1]
   try simp only [qA] at h1
   refine Qw (Qe (kp5 Z Z Z Z Z) ?_)
   refine QD ?_ -- 2
   refine Qz (Qf fun K hK => QM (ds0 := [1, 0]) (cs := [_]) Z Z Z Z Z Z (Qa Z (Qa Z (QK Z Z Z (by omega) (QT (by omega)) Z (QM (ds0 := [1, 0]) (cs := [_, _, _]) Z Z Z Z Z Z (QP (ds0 := [0]) (Qdl hw (hx _ (List.getElem_mem (by omega)))) Z Z (.inr Z) Z Z (Qa Z (hK _ _ (Qb (kp6 Z Z Z Z Z Z) ?_)))))))))
   refine QD ?_ -- 3
   refine Qf fun K hK => Qa Z (Yk Z (hK _ _ (Qb (kp7 Z Z Z Z Z Z Z) ?_)))
   refine Qx Z (fun h2 => ?_) (fun h2 => ?_)
   ·try rw [h2]
    try simp only [qA] at h2
    refine QO fun K hK => QM (ds0 := [3, 1, 0]) (cs := [_]) Z Z Z Z Z Z (Qa Z (Qa Z (QK Z Z Z (by omega) (QT (by omega)) Z (Q9 Z Z (QR (ds0 := [3, 1, 0]) Z Z Z Z Z (QP (ds0 := [1, 0]) (ZH hw) Z Z (.inr Z) Z Z (Qa Z (X7 Z Z (QrH w _ _) (Qa Z (hK _ ?_))))))))))
    refine Qe (kp6 Z Z Z Z Z Z) (QO fun K hK => Qa Z (Qa Z (Qa Z (QK Z Z Z (by omega) (QT (by omega)) Z (Q9 Z Z (QB Z Z Z (Qa Z (QV Z Z (QI Z Z (XI Z Z (fun _ h => Xr Z Z Z h) Z (by simp) Z Z Z (by simp; omega) (by simp; omega) ?_))))))))))
    refine Qa Z (hK _ ?_)
    refine Qh (Qe (kp5 Z Z Z Z Z) (QO fun K hK => Qa Z (QX Z Z (by first | exact Qr (by omega) (by omega) | rfl) (Qa Z (hK _ ?_)))))
    refine Ql (i + 1) ?_ ?_ ?_
    ·exact Q3 (l := [3, 4, 5, 12, 13]) (lH := [5, 24]) (kp5 rfl rfl rfl rfl rfl) (Qg rfl (Qg rfl Qn)) (by first | (rw [Qby (by omega) h2]; done) | (rw [Qby (by omega) h2]; rfl) | (rw [Qby (by omega) h2, List.length_append]; rfl) | (simp [Qby (by omega) h2]; done) | (simp [Qby (by omega) h2]; omega) | rfl) (by first | (rw [Qby (by omega) h2]; done) | (rw [Qby (by omega) h2]; rfl) | (rw [Qby (by omega) h2, List.map_append]; rfl) | (simp [Qby (by omega) h2]; done) | rfl) rfl
    ·omega
    ·first | omega | (simp only; omega) | (dsimp only; omega)
   ·try rw [h2]
    try simp only [qA] at h2
    refine Qw (Qe (kp6 Z Z Z Z Z Z) (QO fun K hK => Qa Z (Qa Z (Qa Z (QK Z Z Z (by omega) (QT (by omega)) Z (Q9 Z Z (QB Z Z Z (Qa Z (QV Z Z (QI Z Z ?_))))))))))
    refine XI Z Z (fun _ h => Xr Z Z Z h) Z (by simp) Z Z Z (by simp; omega) (by simp; omega) (Qa Z (hK _ ?_))
    refine Qh (Qe (kp5 Z Z Z Z Z) (QO fun K hK => Qa Z (QX Z Z (by first | exact Qr (by omega) (by omega) | rfl) (Qa Z (hK _ ?_)))))
    refine Ql (i + 1) ?_ ?_ ?_
    ·exact Q3 (l := [3, 4, 5, 12, 13]) (lH := [5, 24]) (kp5 rfl rfl rfl rfl rfl) (Qg rfl (Qg rfl Qn)) (by first | (rw [Qbx (by omega) h2]; done) | (rw [Qbx (by omega) h2]; rfl) | (rw [Qbx (by omega) h2, List.length_append]; rfl) | (simp [Qbx (by omega) h2]; done) | (simp [Qbx (by omega) h2]; omega) | rfl) (by first | (rw [Qbx (by omega) h2]; done) | (rw [Qbx (by omega) h2]; rfl) | (rw [Qbx (by omega) h2, List.map_append]; rfl) | (simp [Qbx (by omega) h2]; done) | rfl) rfl
    ·omega
    ·first | omega | (simp only; omega) | (dsimp only; omega)
  ·try rw [h1]
   try simp only [qA] at h1
   refine Zk (QN (Qy (QF ?_)))
   refine Z5 () ?_ ?_
   ·exact le_trans (Qge (l := [5]) (lH := [5]) 24 12 (kp1 rfl) (Qg rfl Qn) rfl rfl rfl (by first | (simp; done) | (simp; omega)) rfl rfl rfl rfl) (Q3 (l := [5, 12]) (lH := [5]) (kp2 rfl rfl) (Qg rfl Qn) (by rw [List.take_of_length_le (show l.length <= i by omega)]; rfl) rfl rfl)
   ·exact trivial
 intro _ hJ
 try dsimp only
 refine Qf fun K hK => QJ (cs := [_]) Z Z Z Z (Qa Z (QG (Qac hw (by rw [Qni]; omega)) Z Z (.inl Z) (Zc Z Z (Zc Z Z (Qa Z (Qa Z (hK _ _ (Qb (kp2 Z Z) ?_))))))))
 refine Qv ?_
 exact QW rfl rfl ⟨rfl, rfl⟩
end Go.Proofs
namespace M25
open Go Go.Abs M3
def IncOk (w : Qq) (l : List TermT) : Prop := l.Pairwise (fun a b => a.u < b.u) /\ ∀ t ∈ l, 0 <= t.u /\ t.u < w.length
theorem QhK : ∀ (l : List TermT) (a b : Int), l.Pairwise (fun x y => x.u < y.u) -> (∀ t ∈ l, a <= t.u /\ t.u < b) -> a <= b -> (l.length : Int) <= b - a
 | [], a, b, _, _, h => by simp; omega
 | t :: l, a, b, hp, hb, h => by
  rw [List.pairwise_cons] at hp
  have h1 := hb t (by simp)
  have := QhK l (t.u + 1) b hp.2 (fun s hs => ⟨by have := hp.1 s hs; omega, (hb s (by simp [hs])).2⟩) (by omega)
  simp only [List.length_cons]; omega
theorem IncOk.len {w : Qq} {l : List TermT} (h : IncOk w l) : l.length <= w.length := by
 have := QhK l 0 w.length h.1 h.2 (by omega)
 omega
theorem IncOk.nil (w : Qq) : IncOk w [] := ⟨List.Pairwise.nil, by simp⟩
theorem QjG (w : Qq) (ms : List Int) : ∀ n, (XN w ms n).Pairwise (fun a b => a.u < b.u) /\ ∀ t ∈ XN w ms n, 0 <= t.u /\ t.u < n
 | 0 => ⟨List.Pairwise.nil, by simp [XN]⟩
 | n + 1 => by
  obtain ⟨h1, h2⟩ := QjG w ms n
  rw [XN]
  split
  ·rw [List.append_nil]; exact ⟨h1, fun t ht => by have := h2 t ht; omega⟩
  ·refine ⟨List.pairwise_append.2 ⟨h1, List.pairwise_singleton _ _, fun a ha b hb => ?_⟩, fun t ht => ?_⟩
   ·simp only [List.mem_singleton] at hb; subst hb; exact (h2 a ha).2
   ·rcases List.mem_append.1 ht with ht | ht
    ·have := h2 t ht; omega
    ·simp only [List.mem_singleton] at ht; subst ht; simp only; omega
theorem Qea {w : Qq} {l t : List TermT} (h : Qdj w l = some t) : IncOk w t := by
 unfold Qdj at h
 split at h
 ·unfold QjD at h
  split at h
  ·cases h
   obtain ⟨h1, h2⟩ := QjG w (XM (Qbj w) l) (XM (Qbj w) l).length
   refine ⟨h1, fun t ht => ?_⟩
   have := h2 t ht
   rw [Qf6] at this
   exact this
  ·cases h
 ·cases h
theorem IncOk.ne {w : Qq} {l : List TermT} (h : IncOk w l) : l.Pairwise (fun a b => a.u ≠ b.u) := h.1.imp fun h => by omega
theorem QgL {l : List TermT} (hl : l.Pairwise (fun a b => a.u ≠ b.u)) : ∀ n, (Ys l n).Pairwise (fun a b => a.u < b.u) /\ ∀ t ∈ Ys l n, t ∈ l /\ 0 <= t.u /\ t.u < n
 | 0 => ⟨List.Pairwise.nil, by simp [Ys]⟩
 | n + 1 => by
  obtain ⟨h1, h2⟩ := QgL hl n
  rw [Ys]
  have hf : ∀ t ∈ l.filter (fun t => decide (t.u = ((n : Nat) : Int))), t ∈ l /\ t.u = n := fun t ht => by
   simpa using List.mem_filter.1 ht
  refine ⟨List.pairwise_append.2 ⟨h1, ?_, fun a ha b hb => ?_⟩, fun t ht => ?_⟩
  ·refine List.Pairwise.imp_of_mem (fun {a b} ha hb hab => ?_) (hl.filter _)
   have := (hf a ha).2
   have := (hf b hb).2
   omega
  ·rw [(hf b hb).2]; exact (h2 a ha).2.2
  ·rcases List.mem_append.1 ht with ht | ht
   ·have := h2 t ht; exact ⟨this.1, by omega, by omega⟩
   ·have := hf t ht; exact ⟨this.1, by omega, by omega⟩
theorem QmK {w : Qq} {l : List TermT} (hl : l.Pairwise (fun a b => a.u ≠ b.u)) (hb : ∀ t ∈ l, 0 <= t.u /\ t.u < w.length) : IncOk w (Qiz l) := by
 obtain ⟨h1, h2⟩ := QgL hl 48
 exact ⟨h1, fun t ht => hb t (h2 t ht).1⟩
theorem Qpy {w : Qq} {r x : RowT} (hx : IncOk w x.t) (h0 : 0 <= r.u) (h1 : r.u < w.length) : IncOk w (Qpx w r x).t := by
 refine QmK (List.pairwise_cons.2 ⟨fun t ht => ?_, hx.ne.filter _⟩) fun t ht => ?_
 ·have := (List.mem_filter.1 ht).2
  simp only [Bool.not_eq_true', decide_eq_false_iff_not] at this
  exact fun e => this e.symm
 ·rcases List.mem_cons.1 ht with rfl | ht
  ·exact ⟨h0, h1⟩
  ·exact hx.2 t (List.mem_filter.1 ht).1
def Qba (w : Qq) (rows : List RowT) : Prop := ∀ x ∈ rows, IncOk w x.t
theorem QkN {w : Qq} {r : RowT} (hr : IncOk w r.t) (h0 : 0 <= r.u) (h1 : r.u < w.length) : ∀ {rows : List RowT}, Qba w rows -> Qba w (Xt w r rows)
 | [], _ => fun x hx => by
  simp only [Xt, List.mem_singleton] at hx; subst hx; exact hr
 | y :: rows, h => fun x hx => by
  rw [Xt] at hx
  split at hx
  ·rcases List.mem_cons.1 hx with rfl | hx
   ·exact Qpy (h y (by simp)) h0 h1
   ·exact h x (by simp [hx])
  ·rcases List.mem_cons.1 hx with rfl | hx
   ·exact h x (by simp)
   ·exact QkN hr h0 h1 (fun z hz => h z (by simp [hz])) x hx
theorem QiH (w : Qq) (r : RowT) : ∀ rows : List RowT, (Xt w r rows).length <= rows.length + 1
 | [] => by simp [Xt]
 | x :: rows => by
  have := QiH w r rows
  rw [Xt]; split <;> simp <;> omega
theorem QkE {r x : RowT} (h : ¬ x.k = r.k \/ ¬ x.u = r.u \/ ¬ Qhv x.t r.u = Qhv r.t r.u) : QkD r x = false := by
 simp only [QkD, Bool.and_eq_false_iff, decide_eq_false_iff_not]
 rcases h with h | h | h
 ·exact .inl (.inl h)
 ·exact .inl (.inr h)
 ·exact .inr h
theorem QnZ {r x : RowT} (h1 : x.k = r.k) (h2 : x.u = r.u) (h3 : Qhv x.t r.u = Qhv r.t r.u) : QkD r x = true := by simp [QkD, h1, h2, h3]
theorem QgD {w : Qq} {r : RowT} {rows : List RowT} {i : Nat} (h : i < rows.length) (hn : QkD r rows[i] = false) (hi : Xt w r rows = rows.take i ++ Xt w r (rows.drop i)) : Xt w r rows = rows.take (i + 1) ++ Xt w r (rows.drop (i + 1)) := by
 rw [hi, List.drop_eq_getElem_cons h, Xt, if_neg (by rw [hn]; simp), List.take_succ_eq_append_getElem h, List.append_assoc]; rfl
theorem Ql1 {w : Qq} {r : RowT} {rows : List RowT} {i : Nat} (h : i < rows.length) (hn : QkD r rows[i] = true) (hi : Xt w r rows = rows.take i ++ Xt w r (rows.drop i)) : Xt w r rows = rows.set i (Qpx w r rows[i]) := by
 rw [hi, List.drop_eq_getElem_cons h, Xt, if_pos hn, List.set_eq_take_append_cons_drop, if_pos h]
theorem Ql2 {w : Qq} {r : RowT} {rows : List RowT} {i : Nat} (h : rows.length <= i) (hi : Xt w r rows = rows.take i ++ Xt w r (rows.drop i)) : Xt w r rows = rows ++ [r] := by
 rw [hi, List.drop_eq_nil_of_le h, List.take_of_length_le h, Xt]
theorem QlW {w : Qq} {u : Int} {p : Nat} {l : List (List WantT)} {rows : List RowT} {i : Nat} (h : i < l.length) : YX w u p (l.take (i + 1)) rows = match Yq w u p l[i] false with
  | some t => Xt w ⟨2, u, 0, 0, t⟩ (YX w u p (l.take i) rows)
  | none => YX w u p (l.take i) rows := by
 rw [List.take_succ_eq_append_getElem h, YX, List.foldl_append]; rfl
theorem QjK {w : Qq} {u : Int} {p : Nat} {l : List (List WantT)} {rows : List RowT} {i : Nat} (h : i < l.length) (ho : (Yq w u p l[i] false).isSome = true) : YX w u p (l.take (i + 1)) rows = Xt w ⟨2, u, 0, 0, (Yq w u p l[i] false).getD []⟩ (YX w u p (l.take i) rows) := by
 rw [QlW h]
 cases hc : Yq w u p l[i] false with
 | none => rw [hc] at ho; cases ho
 | some t => rfl
theorem QlV {w : Qq} {u : Int} {p : Nat} {l : List (List WantT)} {rows : List RowT} {i : Nat} (h : i < l.length) (ho : (Yq w u p l[i] false).isSome = false) : YX w u p (l.take (i + 1)) rows = YX w u p (l.take i) rows := by
 rw [QlW h]
 cases hc : Yq w u p l[i] false with
 | none => rfl
 | some t => rw [hc] at ho; cases ho
theorem Qnd {w : Qq} {u : Int} {p : Nat} {l : List WantT} {rows : List RowT} {i : Nat} (h : i < l.length) : QbY w u p (l.take (i + 1)) rows = match Yq w u p [l[i]] true with
  | some t => Xt w ⟨3, u, 0, 0, t⟩ (QbY w u p (l.take i) rows)
  | none => QbY w u p (l.take i) rows := by
 rw [List.take_succ_eq_append_getElem h, QbY, List.foldl_append]; rfl
theorem Qlj {w : Qq} {u : Int} {p : Nat} {l : List WantT} {rows : List RowT} {i : Nat} (h : i < l.length) (ho : (Yq w u p [l[i]] true).isSome = true) : QbY w u p (l.take (i + 1)) rows = Xt w ⟨3, u, 0, 0, (Yq w u p [l[i]] true).getD []⟩ (QbY w u p (l.take i) rows) := by
 rw [Qnd h]
 cases hc : Yq w u p [l[i]] true with
 | none => rw [hc] at ho; cases ho
 | some t => rfl
theorem Qnc {w : Qq} {u : Int} {p : Nat} {l : List WantT} {rows : List RowT} {i : Nat} (h : i < l.length) (ho : (Yq w u p [l[i]] true).isSome = false) : QbY w u p (l.take (i + 1)) rows = QbY w u p (l.take i) rows := by
 rw [Qnd h]
 cases hc : Yq w u p [l[i]] true with
 | none => rfl
 | some t => rw [hc] at ho; cases ho
theorem QnF {w : Qq} {u : Int} {p : Nat} {l : List WantT} {b : Bool} : IncOk w ((Yq w u p l b).getD []) := by
 cases hc : Yq w u p l b with
 | none => exact IncOk.nil w
 | some t => exact Qea hc
theorem Qeh {w : Qq} {u : Int} {p : Nat} (h0 : 0 <= u) (h1 : u < w.length) : ∀ {l : List (List WantT)} {rows : List RowT}, Qba w rows -> Qba w (YX w u p l rows) /\ (YX w u p l rows).length <= rows.length + l.length
 | [], rows, h => ⟨h, Nat.le_refl _⟩
 | x :: l, rows, h => by
  rw [YX, List.foldl_cons]
  cases hc : Yq w u p x false with
  | none =>
   obtain ⟨q1, q2⟩ := Qeh h0 h1 (l := l) h
   exact ⟨q1, Nat.le_trans q2 (by simp)⟩
  | some t =>
   obtain ⟨q1, q2⟩ := Qeh (p := p) h0 h1 (l := l) (QkN (r := ⟨2, u, 0, 0, t⟩) (Qea hc) h0 h1 h)
   have := QiH w ⟨2, u, 0, 0, t⟩ rows
   exact ⟨q1, Nat.le_trans q2 (by simp only [List.length_cons]; omega)⟩
theorem Qfp {w : Qq} {u : Int} {p : Nat} (h0 : 0 <= u) (h1 : u < w.length) : ∀ {l : List WantT} {rows : List RowT}, Qba w rows -> Qba w (QbY w u p l rows) /\ (QbY w u p l rows).length <= rows.length + l.length
 | [], rows, h => ⟨h, Nat.le_refl _⟩
 | x :: l, rows, h => by
  rw [QbY, List.foldl_cons]
  cases hc : Yq w u p [x] true with
  | none =>
   obtain ⟨q1, q2⟩ := Qfp h0 h1 (l := l) h
   exact ⟨q1, Nat.le_trans q2 (by simp)⟩
  | some t =>
   obtain ⟨q1, q2⟩ := Qfp (p := p) h0 h1 (l := l) (QkN (r := ⟨3, u, 0, 0, t⟩) (Qea hc) h0 h1 h)
   have := QiH w ⟨3, u, 0, 0, t⟩ rows
   exact ⟨q1, Nat.le_trans q2 (by simp only [List.length_cons]; omega)⟩
theorem Qh1 {w : Qq} {u : Int} {cs : List CandT} {n : Nat} {rows : List RowT} (h : n < cs.length) : YP w u cs (n + 1) rows = QbY w u n cs[n].bs (YX w u n cs[n].ns (YP w u cs n rows)) := by
 rw [YP, List.getElem?_eq_getElem h]
theorem QfX {w : Qq} {u : Int} {cs : List CandT} (h0 : 0 <= u) (h1 : u < w.length) (hc : ∀ c ∈ cs, c.ns.length <= 1000 /\ c.bs.length <= 1000) {rows : List RowT} (h : Qba w rows) : ∀ n, n <= cs.length -> Qba w (YP w u cs n rows) /\ (YP w u cs n rows).length <= rows.length + n * 2000
 | 0, _ => ⟨h, by simp [YP]⟩
 | n + 1, hn => by
  obtain ⟨q1, q2⟩ := QfX h0 h1 hc h n (by omega)
  rw [Qh1 (by omega)]
  obtain ⟨q3, q4⟩ := Qeh (p := n) h0 h1 (l := cs[n].ns) q1
  obtain ⟨q5, q6⟩ := Qfp (p := n) h0 h1 (l := cs[n].bs) q3
  have := hc cs[n] (List.getElem_mem _)
  exact ⟨q5, by omega⟩
theorem QkS {w : Qq} {n : Nat} (h : n < w.length) : Yy w (n + 1) = YP w n w[n].cs w[n].cs.length (Yy w n) := by
 rw [Yy, List.getElem?_eq_getElem h]
theorem QcB {w : Qq} (hw : WSm w) (h0 : 0 < w.length) : ∀ n, n <= w.length -> Qba w (Yy w n) /\ (Yy w n).length <= 1 + n * 32000
 | 0, _ => ⟨fun x hx => by
   simp only [Yy, List.mem_singleton] at hx; subst hx
   exact ⟨List.pairwise_singleton _ _, fun t ht => by simp only [List.mem_singleton] at ht; subst ht; exact ⟨Int.le_refl _, by simp only; omega⟩⟩, by simp [Yy]⟩
 | n + 1, hn => by
  obtain ⟨q1, q2⟩ := QcB hw h0 n (by omega)
  rw [QkS (by omega)]
  obtain ⟨q3, q4⟩ := QfX (u := n) (by omega) (by omega) (fun c hc => hw.ns w[n] (List.getElem_mem _) c hc) q1 w[n].cs.length (Nat.le_refl _)
  have := hw.cs w[n] (List.getElem_mem _)
  refine ⟨q3, ?_⟩
  have h5 : w[n].cs.length * 2000 <= 16 * 2000 := Nat.mul_le_mul_right _ this
  omega
theorem Qsn {w : Qq} (hw : WSm w) (h0 : 0 < w.length) : ∀ t ∈ mDB w, IncOk w t := fun t ht => by
 obtain ⟨r, hr, rfl⟩ := List.mem_map.1 ht
 exact (QcB hw h0 w.length (Nat.le_refl _)).1 r hr
theorem Qrk {w : Qq} (hw : WSm w) (h0 : 0 < w.length) : (mDB w).length <= 1600000 := by
 have := (QcB hw h0 w.length (Nat.le_refl _)).2
 have := hw.len
 rw [mDB, List.length_map, Qd5]; omega
theorem Qs4 {l : List TermT} : ∀ r ∈ l.map Qch, r.length = 2 := fun r hr => by obtain ⟨x, _, rfl⟩ := List.mem_map.1 hr; rfl
theorem Qs5 {l : List WantT} : ∀ r ∈ l.map Qff, r.length = 3 := fun r hr => by obtain ⟨x, _, rfl⟩ := List.mem_map.1 hr; rfl
theorem QjV {l : List StepT} : ∀ r ∈ l.map Qcg, r.length = 4 := fun r hr => by obtain ⟨x, _, rfl⟩ := List.mem_map.1 hr; rfl
theorem QoJ {α : Type} {f : α -> List D} {l : List α} {i : Nat} (h : i < l.length) : ((l.map f).take ((i : Int) + 1).toNat).drop ((i : Nat) : Int).toNat = [l[i]].map f := by
 rw [QoS, Int.toNat_natCast, List.drop_take, show i + 1 - i = 1 by omega, List.drop_eq_getElem_cons (by simpa using h)]
 simp
theorem WSm.nsLen {w : Qq} (hw : WSm w) {u i : Nat} (hu : u < w.length) (hi : i < w[u].cs.length) : w[u].cs[i].ns.length <= 1000 := (hw.ns _ (List.getElem_mem _) _ (List.getElem_mem _)).1
theorem WSm.bsLen {w : Qq} (hw : WSm w) {u i : Nat} (hu : u < w.length) (hi : i < w[u].cs.length) : w[u].cs[i].bs.length <= 1000 := (hw.ns _ (List.getElem_mem _) _ (List.getElem_mem _)).2
theorem WSm.csLen {w : Qq} (hw : WSm w) {u : Nat} (hu : u < w.length) : w[u].cs.length <= 16 := hw.cs _ (List.getElem_mem _)
theorem Qrj {w : Qq} (hw : WSm w) {u i : Nat} (hu : u < w.length) (hi : i <= w[u].cs.length) : Qba w (YP w u w[u].cs i (Yy w u)) /\ (YP w u w[u].cs i (Yy w u)).length <= 10000000 := by
 obtain ⟨q1, q2⟩ := QcB hw (by omega) u (by omega)
 obtain ⟨q3, q4⟩ := QfX (u := u) (by omega) (by omega) (fun c hc => hw.ns w[u] (List.getElem_mem _) c hc) q1 i hi
 have := hw.csLen hu
 have := hw.len
 have h5 : i * 2000 <= 16 * 2000 := Nat.mul_le_mul_right _ (by omega)
 have h6 : u * 32000 <= 48 * 32000 := Nat.mul_le_mul_right _ (by omega)
 exact ⟨q3, by omega⟩
theorem Qit {w : Qq} (hw : WSm w) {u i : Nat} (hu : u < w.length) (hi : i < w[u].cs.length) (k : Nat) : Qba w (YX w u i (w[u].cs[i].ns.take k) (YP w u w[u].cs i (Yy w u))) /\ (YX w u i (w[u].cs[i].ns.take k) (YP w u w[u].cs i (Yy w u))).length <= 20000000 := by
 obtain ⟨q1, q2⟩ := Qrj hw hu (Nat.le_of_lt hi)
 obtain ⟨q3, q4⟩ := Qeh (u := u) (p := i) (by omega) (by omega) (l := w[u].cs[i].ns.take k) q1
 have := hw.nsLen hu hi
 have h2 : (w[u].cs[i].ns.take k).length <= w[u].cs[i].ns.length := List.length_take_le' ..
 exact ⟨q3, by omega⟩
theorem QlI {w : Qq} (hw : WSm w) {u i : Nat} (hu : u < w.length) (hi : i < w[u].cs.length) (k : Nat) : Qba w (QbY w u i (w[u].cs[i].bs.take k) (YX w u i w[u].cs[i].ns (YP w u w[u].cs i (Yy w u)))) /\ (QbY w u i (w[u].cs[i].bs.take k) (YX w u i w[u].cs[i].ns (YP w u w[u].cs i (Yy w u)))).length <= 30000000 := by
 obtain ⟨q1, q2⟩ := Qit hw hu hi w[u].cs[i].ns.length
 rw [List.take_length] at q1 q2
 obtain ⟨q3, q4⟩ := Qfp (u := u) (p := i) (by omega) (by omega) (l := w[u].cs[i].bs.take k) q1
 have := hw.bsLen hu hi
 have h2 : (w[u].cs[i].bs.take k).length <= w[u].cs[i].bs.length := List.length_take_le' ..
 exact ⟨q3, by omega⟩
end M25
namespace Go.Proofs
open Go Go.Abs M3 M25
set_option linter.unusedVariables false
set_option linter.unusedSimpArgs false
theorem Qau {w : Qq} (hw : WSm w) {r : RowT} {rows : List RowT} (hr : Qba w rows) (hrr : IncOk w r.t) (hl : rows.length <= 100000000) : OkH Tryz.prog 78 [ZY w, .osl 500000 rows.length, .agg (Qnk r)] [(500000, ⟨(rows).map Qnk, 5, 89, true⟩)] (.osl 500000 (Xt w r rows).length) [(500000, ⟨(Xt w r rows).map Qnk, 5, 89, true⟩)] := by
 refine OkH.mv ZT Tryz.func78 QuP (Nat.le_of_ble_eq_true Z) Z ?_
 show TW _ _ tf78.body _ _
 have hn := hw.len
 refine Qf fun K hK => Zs Z Z Z (Zs Z Z Z (Qa Z (hK _ _ (Qb (kp3 Z Z Z) ?_))))
 refine QD ?_ -- 0
 refine Qf fun K hK => Qa Z (hK _ _ (Qb (kp4 Z Z Z Z) ?_))
 refine Qz ?_
 refine Zn (ι := Nat) (fun i => ⟨[(1, .osl 500000 rows.length), (3, .ref 3 0 0), (5, .ref 5 0 0), (7, .int .i64 i)], [(3, ⟨[[.sl ((w).map YA)]], 1, 26, true⟩), (5, ⟨[[.int .i64 (r).k, .int .i64 (r).u, .int .i64 (r).a, .int .i64 (r).b, Zz (r).t]], 5, 89, true⟩), (500000, ⟨(rows).map Qnk, 5, 89, true⟩)]⟩) (fun i => i <= rows.length /\ Xt w r rows = rows.take i ++ Xt w r (rows.drop i)) (fun i => rows.length - i) 0 ?_ ?_ ?_
 ·exact Q3 (l := [1, 3, 5, 7]) (lH := [3, 5, 500000]) (kp4 rfl rfl rfl rfl) (Qg rfl (Qg rfl (Qg rfl Qn))) rfl rfl rfl
 ·exact ⟨Nat.zero_le _, by simp⟩
 intro i hI
 try dsimp only
 refine QD ?_ -- 1
 refine Qf fun K hK => Qa Z (Qa Z (QQ Z Z (Yd Z Z (hK _ _ (Qb (kp5 Z Z Z Z Z) ?_)))))
 refine Qx Z (fun h1 => ?_) (fun h1 => ?_)
 ·try rw [h1]
  try simp only [qA] at h1
  refine Qw (Qe (kp4 Z Z Z Z) ?_)
  refine QD ?_ -- 2
  refine Qz (Qf fun K hK => Qa Z (Qa Z (YY Z Z Z (by simp) (by omega) (by omega) Z (QJ (cs := [_, _, _, _, _]) Z (Yb Z (QT (by omega))) Z Z (ZG Z (Q7 Z Z Z Z Z Z Z Z (hK _ _ (Qb (kp5 Z Z Z Z Z) ?_))))))))
  refine Qf fun K hK => Qj Z Z (QR (ds0 := [20, 19, 18, 17, 16, 15, 14, 13, 12, 11, 10, 9, 8, 7, 6, 5, 4, 3, 2, 1, 0]) Z Z Z Z Z (Qj Z Z (QR (ds0 := [20, 19, 18, 17, 16, 15, 14, 13, 12, 11, 10, 9, 8, 7, 6, 5, 4, 3, 2, 1, 0]) Z Z Z Z Z ?_)))
  first | refine ZD rfl rfl ?_ | refine QfL rfl rfl ?_
  refine Qa Z ?_
  refine QC (g := 25) Z (fun h2 => ?_) (fun h2 => ?_)
  ·try rw [h2]
   try simp only [qA] at h2
   refine Qi Z (Qj Z Z (Qi Z (QR (ds0 := [14, 13, 12, 11, 10, 9, 8, 7, 6, 5, 4, 3, 2, 1, 0]) Z Z Z Z Z (Qi Z (Qj Z Z (Qi Z (QR (ds0 := [14, 13, 12, 11, 10, 9, 8, 7, 6, 5, 4, 3, 2, 1, 0]) Z Z Z Z Z (Qi Z ?_))))))))
   first | refine ZD rfl rfl ?_ | refine QfL rfl rfl ?_
   refine Qm Z Z (Qa Z ?_)
   refine QC (g := 32) Z (fun h3 => ?_) (fun h3 => ?_)
   ·try rw [h3]
    try simp only [qA] at h3
    refine Qi Z (Qj Z Z (Qi Z (QR (ds0 := [7, 1, 0]) Z Z Z Z Z (Qi Z (Qj Z Z (Qi Z (QR (ds0 := [7, 1, 0]) Z Z Z Z Z (Qi Z (QP (ds0 := [1, 0]) (Xm (Nat.le_trans (hr _ (List.getElem_mem (by omega))).len (by omega))) Z Z (.inl Z) Z Z (Qi Z (Qj Z Z ?_)))))))))))
    refine Qi Z (QR (ds0 := [2, 1, 0]) Z Z Z Z Z (Qi Z (Qj Z Z (Qi Z (QR (ds0 := [2, 1, 0]) Z Z Z Z Z (Qi Z (QP (ds0 := [1, 0]) (Xm (Nat.le_trans hrr.len (by omega))) Z Z (.inl Z) Z Z (Qi Z (QP (ds0 := [0]) (Qc1 (Nat.le_trans (QfU _ _) (Nat.le_trans (hr _ (List.getElem_mem (by omega))).len (by omega)))) Z Z (.inr Z) Z Z (Qm Z Z (hK _ _ (Qb (kp6 Z Z Z Z Z Z) ?_))))))))))))
    refine Qx Z (fun h4 => ?_) (fun h4 => ?_)
    ·try rw [h4]
     try simp only [qA] at h4
     refine Qf fun K hK => Qj Z Z (QR (ds0 := [8, 7, 1, 0]) Z Z Z Z Z (QM (ds0 := [16, 9, 8, 7, 1, 0]) (cs := [_]) Z Z Z Z Z Z (Qj Z Z (QR (ds0 := [16, 9, 8, 7, 1, 0]) Z Z Z Z Z (Qj Z Z (QR (ds0 := [16, 9, 8, 7, 1, 0]) Z Z Z Z Z (QP (ds0 := [9, 8, 7, 1, 0]) (Y6 hw (Nat.le_trans (hr _ (List.getElem_mem (by omega))).len (by omega))) Z Z (.inr Z) Z Z (QM (ds0 := [10, 9, 8, 7, 1, 0]) (cs := [_]) Z Z Z Z Z Z (Qj Z Z (QR (ds0 := [10, 9, 8, 7, 1, 0]) Z Z Z Z Z ?_))))))))))
     refine Qj Z Z (QR (ds0 := [10, 9, 8, 7, 1, 0]) Z Z Z Z Z (QP (ds0 := [9, 8, 7, 1, 0]) (Y6 hw (Nat.le_trans hrr.len (by omega))) Z Z (.inr Z) Z Z (QtM Z Z (QV Z Z (QI Z Z (Qj Z Z (QR (ds0 := [2, 1, 0]) Z Z Z Z Z (Qj Z Z (QR (ds0 := [2, 1, 0]) Z Z Z Z Z (QP (ds0 := [1, 0]) (Xm (Nat.le_trans (hr _ (List.getElem_mem (by omega))).len (by omega))) Z Z (.inl Z) Z Z (Qbr (ds0 := [0]) Z Z (by simp [D.ids, D.sid, Zz]) ⟨rfl, Qs4, rfl⟩ Z Z (by simp) Z Z (by have q1 := QfU (rows[i]'(by omega)).t r.u; have q2 := (hr _ (List.getElem_mem (show i < rows.length by omega))).len; simp; omega) (by have q1 := QfU (rows[i]'(by omega)).t r.u; have q2 := (hr _ (List.getElem_mem (show i < rows.length by omega))).len; simp; omega) Z Z ?_)))))))))))
     refine Qa Z (hK _ _ (Qb (kp3 Z Z Z) ?_))
     refine Qo1 (Qge (l := [1, 7]) (lH := [500000]) 67 9 (kp2 Z Z) (Qg Z Qn) Z Z Z (by first | (simp; done) | (simp; omega)) Z Z Z Z) (Qf fun K hK => Qa Z (Qa Z (Qa Z (QG (QbZ (l := ⟨r.u, bor (Qeb w (rows[i]'(by omega)).t r.u) (Qeb w r.t r.u)⟩ :: Qhv (rows[i]'(by omega)).t r.u) (by have q1 := QfU (rows[i]'(by omega)).t r.u; have q2 := (hr _ (List.getElem_mem (show i < rows.length by omega))).len; simp; omega)) Z Z (.inl Z) (YY Z Z Z (by simp) (by omega) (by omega) Z (Qj Z Z (Q7 Z Z (QT (by omega)) Z Z Z Z Z (hK _ _ (Qb (kp1 Z) ?_)))))))))
     refine Qf fun K hK => Qa Z (Qa Z (hK _ _ (Qb (kp1 Z) ?_)))
     refine Qv (Qu (Qk (Q2 (Qu (Qk ?_)))))
     refine Xc Z ?_ (QeY ?_)
     ·rw [Ql1 (i := i) (by omega) (QnZ h2 h3 h4) hI.2]; simp [QmU, D.fz, D.fzS, Qfk, D.can, D.canS]
     ·rw [Ql1 (i := i) (by omega) (QnZ h2 h3 h4) hI.2]; simp [lk, List.map_set, Qnk, Qpx, setRow, D.sid, Zz]
    ·try rw [h4]
     try simp only [qA] at h4
     refine Qw (Qh (Qe (kp4 Z Z Z Z) (QO fun K hK => Qa Z (QX Z Z (by first | exact Qr (by omega) (by omega) | rfl) (Qa Z (hK _ ?_))))))
     refine Ql (i + 1) ?_ ?_ ?_
     ·exact Q3 (l := [1, 3, 5, 7]) (lH := [3, 5, 500000]) (kp4 rfl rfl rfl rfl) (Qg rfl (Qg rfl (Qg rfl Qn))) rfl rfl rfl
     ·exact ⟨by omega, QgD (by omega) (QkE (by first | exact .inl h2 | exact .inr (.inl h3) | exact .inr (.inr h4))) hI.2⟩
     ·first | omega | (simp only; omega) | (dsimp only; omega)
   ·try rw [h3]
    try simp only [qA] at h3
    refine Qs Z (Qs Z (Qs Z (Qs Z (Qs Z (Qs Z (Qs Z (Qs Z (Qs Z (Qs Z (Qs Z (Qm Z Z ?_)))))))))))
    refine hK _ _ (Qb (kp6 Z Z Z Z Z Z) ?_)
    refine ZU Z (Qw (Qh (Qe (kp4 Z Z Z Z) (QO fun K hK => Qa Z (QX Z Z (by first | exact Qr (by omega) (by omega) | rfl) (Qa Z (hK _ ?_)))))))
    refine Ql (i + 1) ?_ ?_ ?_
    ·exact Q3 (l := [1, 3, 5, 7]) (lH := [3, 5, 500000]) (kp4 rfl rfl rfl rfl) (Qg rfl (Qg rfl (Qg rfl Qn))) rfl rfl rfl
    ·exact ⟨by omega, QgD (by omega) (QkE (by first | exact .inl h2 | exact .inr (.inl h3) | exact .inr (.inr h4))) hI.2⟩
    ·first | omega | (simp only; omega) | (dsimp only; omega)
  ·try rw [h2]
   try simp only [qA] at h2
   refine Qs Z (Qs Z (Qs Z (Qs Z (Qs Z (Qm Z Z (Qa Z (Qs Z (Qs Z (Qs Z (Qs Z (Qs Z ?_)))))))))))
   refine Qs Z (Qs Z (Qs Z (Qs Z (Qs Z (Qs Z (Qm Z Z (hK _ _ (Qb (kp6 Z Z Z Z Z Z) ?_))))))))
   refine ZU Z (Qw (Qh (Qe (kp4 Z Z Z Z) (QO fun K hK => Qa Z (QX Z Z (by first | exact Qr (by omega) (by omega) | rfl) (Qa Z (hK _ ?_)))))))
   refine Ql (i + 1) ?_ ?_ ?_
   ·exact Q3 (l := [1, 3, 5, 7]) (lH := [3, 5, 500000]) (kp4 rfl rfl rfl rfl) (Qg rfl (Qg rfl (Qg rfl Qn))) rfl rfl rfl
   ·exact ⟨by omega, QgD (by omega) (QkE (by first | exact .inl h2 | exact .inr (.inl h3) | exact .inr (.inr h4))) hI.2⟩
   ·first | omega | (simp only; omega) | (dsimp only; omega)
 ·try rw [h1]
  try simp only [qA] at h1
  refine Zk (QN (Qy (QF (Qe (kp2 Z Z) (Qf fun K hK => Qa Z (QJ (cs := [_, _, _, _, _]) Z Z Z Z (QI Z Z (XI Z Z (fun _ h => Xr Z Z Z h) Z (by simp) Z Z Z (by simp; omega) (by simp; omega) (Qa Z (hK _ _ (Qb (kp1 Z) ?_)))))))))))
  refine Qv ?_
  refine Xc Z ?_ (QeY ?_)
  ·rw [Ql2 (i := i) (by omega) hI.2]; simp [QmU, D.fz, D.fzS, Qfk, D.can, D.canS]
  ·rw [Ql2 (i := i) (by omega) hI.2]; simp [lk, Qnk, D.sid, Zz]
theorem Qdm {w : Qq} (hw : WSm w) : Ok Tryz.prog 46 [ZY w] (Qr9 (Qd5 w)) := by
 refine Ok.ofT ZT Tryz.func46 Qum (Nat.le_of_ble_eq_true Z) ?_
 show TW _ _ tf46.body _ _
 have hn := hw.len
 refine Qf fun K hK => Zs Z Z Z (Qa Z (hK _ _ (Qb (kp1 Z) ?_)))
 refine Qf fun K hK => QV Z Z (QI Z Z (QV Z Z (QI Z Z (Qa Z (hK _ _ (Qb (kp2 Z Z) ?_))))))
 refine QD ?_ -- 0
 refine Qf fun K hK => Qa Z (hK _ _ (Qb (kp3 Z Z Z) ?_))
 refine Qz ?_
 refine Zn (ι := Nat) (fun j => ⟨[(1, .ref 1 0 0), (3, .osl 3 (Yy w j).length), (4, .int .i64 j)], [(1, ⟨[[.sl ((w).map YA)]], 1, 26, true⟩), (3, ⟨(Yy w j).map Qnk, 5, 89, true⟩)]⟩) (fun j => j <= w.length) (fun j => w.length - j) 0 ?_ ?_ ?_
 ·exact le_trans (Qjw 14 _ (by decide)) (le_trans (Qgf (k := 16) (b := ⟨[[.int .i64 1, .int .i64 0, .int .i64 0, .int .i64 0, .sl [[.int .i64 0, .int .i64 1]]]], 5, 89, false⟩) rfl (by simp) (by simp [D.sid])) (le_trans (Qim (l := [1, 4]) (lH := [1]) 16 3 3 (kp2 rfl rfl) (Qg rfl Qn) rfl rfl rfl rfl rfl rfl rfl) (Q3 (l := [1, 3, 4]) (lH := [1, 3]) (kp3 rfl rfl rfl) (Qg rfl (Qg rfl Qn)) rfl rfl rfl)))
 ·exact Nat.zero_le _
 intro j hU
 try dsimp only
 refine QD ?_ -- 1
 refine Qf fun K hK => Qa Z (Qj Z Z (QB Z Z Z (QQ Z Z (Yd Z Z (hK _ _ (Qb (kp4 Z Z Z Z) ?_))))))
 refine Qx Z (fun h1 => ?_) (fun h1 => ?_)
 ·try rw [h1]
  try simp only [qA] at h1
  refine Qw (Qe (kp3 Z Z Z) ?_)
  refine QD ?_ -- 2
  refine Qz (Qf fun K hK => Qa Z (hK _ _ (Qb (kp4 Z Z Z Z) ?_)))
  refine Qz ?_
  refine Zn (ι := Nat) (fun i => ⟨[(1, .ref 1 0 0), (3, .osl 3 (YP w j (w[j]'(by omega)).cs i (Yy w j)).length), (4, .int .i64 j), (5, .int .i64 i)], [(1, ⟨[[.sl ((w).map YA)]], 1, 26, true⟩), (3, ⟨(YP w j (w[j]'(by omega)).cs i (Yy w j)).map Qnk, 5, 89, true⟩)]⟩) (fun i => i <= (w[j]'(by omega)).cs.length) (fun i => (w[j]'(by omega)).cs.length - i) 0 ?_ ?_ ?_
  ·exact Q3 (l := [1, 3, 4, 5]) (lH := [1, 3]) (kp4 rfl rfl rfl rfl) (Qg rfl (Qg rfl Qn)) rfl rfl rfl
  ·exact Nat.zero_le _
  intro i hI
  have hcs := hw.csLen (u := j) (by omega)
  try dsimp only
  refine QD ?_ -- 3
  refine Qf fun K hK => Qa Z (Qj Z Z (QB Z Z Z (Qa Z (QK Z Z Z (by omega) (QT (by omega)) Z (Q9 Z Z (QB Z Z Z (QQ Z Z (Yd Z Z (hK _ _ (Qb (kp5 Z Z Z Z Z) ?_))))))))))
  refine Qx Z (fun h2 => ?_) (fun h2 => ?_)
  ·try rw [h2]
   try simp only [qA] at h2
   refine Qw (Qe (kp4 Z Z Z Z) ?_)
   refine QD ?_ -- 4
   refine Qz (Qf fun K hK => Qj Z Z (QB Z Z Z (Qa Z (QK Z Z Z (by omega) (QT (by omega)) Z (Q9 Z Z (QB Z Z Z (Qa Z (QK Z Z Z (by omega) (QT (by omega)) Z (QJ (cs := [_, _, _, _, _, _, _, _]) Z Z Z Z (ZG Z ?_))))))))))
   refine Q7 Z Z Z Z Z Z Z Z (hK _ _ (Qb (kp5 Z Z Z Z Z) ?_))
   refine QD ?_ -- 5
   refine Qf fun K hK => Qa Z (hK _ _ (Qb (kp6 Z Z Z Z Z Z) ?_))
   refine Qz ?_
   refine Zn (ι := Nat) (fun k => ⟨[(1, .ref 1 0 0), (3, .osl 3 (YX w j i (((w[j]'(by omega)).cs[i]'(by omega)).ns.take k) (YP w j (w[j]'(by omega)).cs i (Yy w j))).length), (4, .int .i64 j), (5, .int .i64 i), (6, .ref 6 0 0), (7, .int .i64 k)], [(1, ⟨[[.sl ((w).map YA)]], 1, 26, true⟩), (3, ⟨(YX w j i (((w[j]'(by omega)).cs[i]'(by omega)).ns.take k) (YP w j (w[j]'(by omega)).cs i (Yy w j))).map Qnk, 5, 89, true⟩), (6, ⟨[Qq5 ((w[j]'(by omega)).cs[i]'(by omega))], 8, 71, true⟩)]⟩) (fun k => k <= ((w[j]'(by omega)).cs[i]'(by omega)).ns.length) (fun k => ((w[j]'(by omega)).cs[i]'(by omega)).ns.length - k) 0 ?_ ?_ ?_
   ·exact Q3 (l := [1, 3, 4, 5, 6, 7]) (lH := [1, 3, 6]) (kp6 rfl rfl rfl rfl rfl rfl) (Qg rfl (Qg rfl (Qg rfl Qn))) rfl rfl rfl
   ·exact Nat.zero_le _
   intro k hK1
   have hnl := hw.nsLen (u := j) (i := i) (by omega) (by omega)
   try dsimp only
   refine QD ?_ -- 6
   refine Qf fun K hK => Qa Z (Qj Z Z (QB Z Z Z (QQ Z Z (Yd Z Z (hK _ _ (Qb (kp7 Z Z Z Z Z Z Z) ?_))))))
   refine Qx Z (fun h3 => ?_) (fun h3 => ?_)
   ·try rw [h3]
    try simp only [qA] at h3
    refine Qw (Qe (kp6 Z Z Z Z Z Z) ?_)
    refine QD ?_ -- 7
    refine Qz (Qf fun K hK => QM (ds0 := [5, 4, 3, 2, 1, 0]) (cs := [_]) Z Z Z Z Z Z (Qa Z (Qa Z (Qj Z Z (QR (ds0 := [7, 6, 5, 4, 3, 2, 1, 0]) Z Z Z Z Z (Qa Z (QK Z Z Z (by omega) (QT (by omega)) Z (QR (ds0 := [5, 4, 3, 2, 1, 0]) Z Z Z Z Z (QP (ds0 := [4, 3, 2, 1, 0]) (XJ hw (p := i) (by omega) (Nat.le_trans (hw.nl _ (List.getElem_mem (by omega)) _ (List.getElem_mem (by omega)) _ (List.getElem_mem (by omega))) (by omega)) (hw.nw _ (List.getElem_mem (by omega)) _ (List.getElem_mem (by omega)) _ (List.getElem_mem (by omega)))) Z Z (.inl Z) Z Z (Qa Z ?_))))))))))
    refine Zc Z Z (Zc Z Z (Qa Z (Qa Z (hK _ _ (Qb (kp8 Z Z Z Z Z Z Z Z) ?_)))))
    refine Qf fun K hK => Qa Z (hK _ _ (Qb (kp8 Z Z Z Z Z Z Z Z) ?_))
    refine Qx Z (fun h4 => ?_) (fun h4 => ?_)
    ·try rw [h4]
     try simp only [qA] at h4
     refine QO fun K hK => QJ (cs := [_]) Z Z Z Z (Qa Z (Qa Z (Qa Z (QV Z Z (Qm3 (Qlm (k := 3) Z Z Z (by decide) Z (by decide) (by simp [D.ids, D.sid, Zz]) ⟨.osl 3 (YX w j i (((w[j]'(by omega)).cs[i]'(by omega)).ns.take k) (YP w j (w[j]'(by omega)).cs i (Yy w j))).length, by simp, by simp [D.ids, D.sid]⟩ Z Z (Qau hw (r := ⟨2, j, 0, 0, (Yq w j i (((w[j]'(by omega)).cs[i]'(by omega)).ns[k]'(by omega)) false).getD []⟩) (Qit hw (by omega) (by omega) _).1 QnF (Nat.le_trans (Qit hw (by omega) (by omega) _).2 (by omega)))) (Qa Z (hK _ ?_)))))))
     refine Qh (Qe (kp6 Z Z Z Z Z Z) (QO fun K hK => Qa Z (QX Z Z (by first | exact Qr (by omega) (by omega) | rfl) (Qa Z (hK _ ?_)))))
     refine Ql (k + 1) ?_ ?_ ?_
     ·exact le_trans (Qim (l := [1, 4, 5, 6, 7]) (lH := [1, 6]) 69 3 3 (kp5 rfl rfl rfl rfl rfl) (Qg rfl (Qg rfl Qn)) rfl rfl rfl rfl rfl rfl rfl) (Q3 (l := [1, 3, 4, 5, 6, 7]) (lH := [1, 3, 6]) (kp6 rfl rfl rfl rfl rfl rfl) (Qg rfl (Qg rfl (Qg rfl Qn))) (by rw [QjK (by omega) h4] <;> rfl) (by rw [QjK (by omega) h4] <;> rfl) rfl)
     ·omega
     ·first | omega | (simp only; omega) | (dsimp only; omega)
    ·try rw [h4]
     try simp only [qA] at h4
     refine Qw (Qh (Qe (kp6 Z Z Z Z Z Z) (QO fun K hK => Qa Z (QX Z Z (by first | exact Qr (by omega) (by omega) | rfl) (Qa Z (hK _ ?_))))))
     refine Ql (k + 1) ?_ ?_ ?_
     ·exact Q3 (l := [1, 3, 4, 5, 6, 7]) (lH := [1, 3, 6]) (kp6 rfl rfl rfl rfl rfl rfl) (Qg rfl (Qg rfl (Qg rfl Qn))) (by rw [QlV (by omega) h4] <;> rfl) (by rw [QlV (by omega) h4] <;> rfl) rfl
     ·omega
     ·first | omega | (simp only; omega) | (dsimp only; omega)
   ·try rw [h3]
    try simp only [qA] at h3
    refine Zk (QN (Qy (QF (Qe (kp5 Z Z Z Z Z) (Qf fun K hK => Qa Z (hK _ _ (Qb (kp6 Z Z Z Z Z Z) ?_)))))))
    refine Qz ?_
    refine Zn (ι := Nat) (fun m => ⟨[(1, .ref 1 0 0), (3, .osl 3 (QbY w j i (((w[j]'(by omega)).cs[i]'(by omega)).bs.take m) (YX w j i ((w[j]'(by omega)).cs[i]'(by omega)).ns (YP w j (w[j]'(by omega)).cs i (Yy w j)))).length), (4, .int .i64 j), (5, .int .i64 i), (6, .ref 6 0 0), (10, .int .i64 m)], [(1, ⟨[[.sl ((w).map YA)]], 1, 26, true⟩), (3, ⟨(QbY w j i (((w[j]'(by omega)).cs[i]'(by omega)).bs.take m) (YX w j i ((w[j]'(by omega)).cs[i]'(by omega)).ns (YP w j (w[j]'(by omega)).cs i (Yy w j)))).map Qnk, 5, 89, true⟩), (6, ⟨[Qq5 ((w[j]'(by omega)).cs[i]'(by omega))], 8, 71, true⟩)]⟩) (fun m => m <= ((w[j]'(by omega)).cs[i]'(by omega)).bs.length) (fun m => ((w[j]'(by omega)).cs[i]'(by omega)).bs.length - m) 0 ?_ ?_ ?_
    ·exact Q3 (l := [1, 3, 4, 5, 6, 10]) (lH := [1, 3, 6]) (kp6 rfl rfl rfl rfl rfl rfl) (Qg rfl (Qg rfl (Qg rfl Qn))) (by rw [List.take_of_length_le (show ((w[j]'(by omega)).cs[i]'(by omega)).ns.length <= k by omega)] <;> rfl) (by rw [List.take_of_length_le (show ((w[j]'(by omega)).cs[i]'(by omega)).ns.length <= k by omega)] <;> rfl) rfl
    ·exact Nat.zero_le _
    intro m hM
    have hbl := hw.bsLen (u := j) (i := i) (by omega) (by omega)
    try dsimp only
    refine QD ?_ -- 8
    refine Qf fun K hK => Qa Z (Qj Z Z (QB Z Z Z (QQ Z Z (Yd Z Z (hK _ _ (Qb (kp7 Z Z Z Z Z Z Z) ?_))))))
    refine Qx Z (fun h5 => ?_) (fun h5 => ?_)
    ·try rw [h5]
     try simp only [qA] at h5
     refine Qw (Qe (kp6 Z Z Z Z Z Z) ?_)
     refine QD ?_ -- 9
     refine Qz (Qf fun K hK => QM (ds0 := [5, 4, 3, 2, 1, 0]) (cs := [_]) rfl rfl rfl rfl rfl rfl (Qa rfl (Qa rfl (Qj rfl rfl (QR (ds0 := [6, 5, 4, 3, 2, 1, 0]) rfl rfl rfl rfl rfl (Qa rfl (Qa rfl (QX rfl rfl (by first | exact Qr (by omega) (by omega) | rfl) (Qeu rfl rfl rfl rfl (by omega) (by omega) (by simp; omega) Qs5 (QoJ (by omega)) (QP (ds0 := [4, 3, 2, 1, 0]) (XJ hw (p := i) (l := [((w[j]'(by omega)).cs[i]'(by omega)).bs[m]'(by omega)]) (by omega) (by simp) (by intro x hx; simp only [List.mem_singleton] at hx; subst hx; exact hw.bw _ (List.getElem_mem (by omega)) _ (List.getElem_mem (by omega)) _ (List.getElem_mem (by omega)))) rfl rfl (.inl rfl) rfl rfl ?_))))))))))
     refine Qa Z (Zc Z Z (Zc Z Z (Qa Z (Qa Z (hK _ _ (Qb (kp8 Z Z Z Z Z Z Z Z) ?_))))))
     refine Qf fun K hK => Qa Z (hK _ _ (Qb (kp8 Z Z Z Z Z Z Z Z) ?_))
     refine Qx Z (fun h6 => ?_) (fun h6 => ?_)
     ·try rw [h6]
      try simp only [qA] at h6
      refine QO fun K hK => QJ (cs := [_]) Z Z Z Z (Qa Z (Qa Z (Qa Z (QV Z Z (Qm3 (Qlm (k := 3) Z Z Z (by decide) Z (by decide) (by simp [D.ids, D.sid, Zz]) ⟨.osl 3 (QbY w j i (((w[j]'(by omega)).cs[i]'(by omega)).bs.take m) (YX w j i ((w[j]'(by omega)).cs[i]'(by omega)).ns (YP w j (w[j]'(by omega)).cs i (Yy w j)))).length, by simp, by simp [D.ids, D.sid]⟩ Z Z (Qau hw (r := ⟨3, j, 0, 0, (Yq w j i [((w[j]'(by omega)).cs[i]'(by omega)).bs[m]'(by omega)] true).getD []⟩) (QlI hw (by omega) (by omega) _).1 QnF (Nat.le_trans (QlI hw (by omega) (by omega) _).2 (by omega)))) (Qa Z (hK _ ?_)))))))
      refine Qh (Qe (kp6 Z Z Z Z Z Z) (QO fun K hK => Qa Z (QX Z Z (by first | exact Qr (by omega) (by omega) | rfl) (Qa Z (hK _ ?_)))))
      refine Ql (m + 1) ?_ ?_ ?_
      ·exact le_trans (Qim (l := [1, 4, 5, 6, 10]) (lH := [1, 6]) 96 3 3 (kp5 rfl rfl rfl rfl rfl) (Qg rfl (Qg rfl Qn)) rfl rfl rfl rfl rfl rfl rfl) (Q3 (l := [1, 3, 4, 5, 6, 10]) (lH := [1, 3, 6]) (kp6 rfl rfl rfl rfl rfl rfl) (Qg rfl (Qg rfl (Qg rfl Qn))) (by rw [Qlj (by omega) h6] <;> rfl) (by rw [Qlj (by omega) h6] <;> rfl) rfl)
      ·omega
      ·first | omega | (simp only; omega) | (dsimp only; omega)
     ·try rw [h6]
      try simp only [qA] at h6
      refine Qw (Qh (Qe (kp6 Z Z Z Z Z Z) (QO fun K hK => Qa Z (QX Z Z (by first | exact Qr (by omega) (by omega) | rfl) (Qa Z (hK _ ?_))))))
      refine Ql (m + 1) ?_ ?_ ?_
      ·exact Q3 (l := [1, 3, 4, 5, 6, 10]) (lH := [1, 3, 6]) (kp6 rfl rfl rfl rfl rfl rfl) (Qg rfl (Qg rfl (Qg rfl Qn))) (by rw [Qnc (by omega) h6] <;> rfl) (by rw [Qnc (by omega) h6] <;> rfl) rfl
      ·omega
      ·first | omega | (simp only; omega) | (dsimp only; omega)
    ·try rw [h5]
     try simp only [qA] at h5
     refine Zk (QN (Qy (QF (Qh (Qe (kp4 Z Z Z Z) (QO fun K hK => Qa Z (QX Z Z (by first | exact Qr (by omega) (by omega) | rfl) (Qa Z (hK _ ?_)))))))))
     refine Ql (i + 1) ?_ ?_ ?_
     ·exact Q3 (l := [1, 3, 4, 5]) (lH := [1, 3]) (kp4 rfl rfl rfl rfl) (Qg rfl (Qg rfl Qn)) (by rw [Qh1 (by omega), List.take_of_length_le (show ((w[j]'(by omega)).cs[i]'(by omega)).bs.length <= m by omega)] <;> rfl) (by rw [Qh1 (by omega), List.take_of_length_le (show ((w[j]'(by omega)).cs[i]'(by omega)).bs.length <= m by omega)] <;> rfl) rfl
     ·omega
     ·first | omega | (simp only; omega) | (dsimp only; omega)
  ·try rw [h2]
   try simp only [qA] at h2
   refine Zk (QN (Qy (QF (Qh (Qe (kp3 Z Z Z) (QO fun K hK => Qa Z (QX Z Z (by first | exact Qr (by omega) (by omega) | rfl) (Qa Z (hK _ ?_)))))))))
   refine Ql (j + 1) ?_ ?_ ?_
   ·exact Q3 (l := [1, 3, 4]) (lH := [1, 3]) (kp3 rfl rfl rfl) (Qg rfl (Qg rfl Qn)) (by rw [QkS (by omega), show (w[j]'(by omega)).cs.length = i by omega] <;> rfl) (by rw [QkS (by omega), show (w[j]'(by omega)).cs.length = i by omega] <;> rfl) rfl
   ·omega
   ·first | omega | (simp only; omega) | (dsimp only; omega)
 ·try rw [h1]
  try simp only [qA] at h1
  refine Zk (QN (Qy (QF (Qe (kp1 Z) (Qf fun K hK => Qa Z (Qa Z (hK _ _ (Qb (kp1 Z) ?_))))))))
  refine Qv ?_
  exact QaX rfl rfl rfl (by simp) (by rw [Qd5, show w.length = j by omega] <;> rfl)
end Go.Proofs
namespace M25
open Go Go.Abs M3
/-! ### Bits of numbers -/
theorem QiS (e : Int) : IntKind.i64.wrap e = (BitVec.ofInt 64 e).toInt := by
 have hb : (BitVec.ofInt 64 e).toInt = if e % 18446744073709551616 < 9223372036854775808 then e % 18446744073709551616 else e % 18446744073709551616 - 18446744073709551616 := by
  rw [BitVec.toInt_ofInt]; rfl
 rw [hb]
 unfold IntKind.wrap
 simp only [IntKind.bits, IntKind.signed, Bool.true_and]
 split
 ·rename_i h
  have := of_decide_eq_true h
  split <;> omega
 ·rename_i h
  have : ¬ (e % 2 ^ 64 >= 2 ^ (64 - 1)) := fun hh => h (decide_eq_true hh)
  split <;> omega
theorem Qgz (b : BitVec 64) : BitVec.ofInt 64 (b.toNat : Int) = b := by
 rw [BitVec.ofInt_natCast, BitVec.ofNat_toNat, BitVec.setWidth_eq]
theorem Qql (x y : Int) : BitVec.ofInt 64 (XQ x y) = BitVec.ofInt 64 x &&& BitVec.ofInt 64 y := by
 show BitVec.ofInt 64 (IntKind.i64.wrap ((BitVec.ofInt 64 x &&& BitVec.ofInt 64 y).toNat : Int)) = _
 rw [QiS, BitVec.ofInt_toInt, Qgz]
theorem Qqm (x y : Int) : BitVec.ofInt 64 (QiU x y) = BitVec.ofInt 64 x &&& ~~~ BitVec.ofInt 64 y := by
 show BitVec.ofInt 64 (IntKind.i64.wrap ((BitVec.ofInt 64 x &&& ~~~ BitVec.ofInt 64 y).toNat : Int)) = _
 rw [QiS, BitVec.ofInt_toInt, Qgz]
theorem Qlz {x : Int} (h : I64 x) : IntKind.i64.wrap x = x := Qr h.1 h.2
theorem Qlk {x : Int} (h : I64 x) : (BitVec.ofInt 64 x).toInt = x := by rw [<- QiS, Qlz h]
theorem Qii (x y : Int) : I64 (XQ x y) := QgO _
theorem Qij (x y : Int) : I64 (QiU x y) := QgO _
def tb (x : Int) (i : Nat) : Bool := (BitVec.ofInt 64 x).getLsbD i
theorem Qma (x y : Int) (i : Nat) : tb (XQ x y) i = (tb x i && tb y i) := by rw [tb, Qql, BitVec.getLsbD_and]; rfl
theorem Qmb (x y : Int) {i : Nat} : tb (QiU x y) i = (tb x i && !tb y i) := by
 rw [tb, Qqm, BitVec.getLsbD_and, BitVec.getLsbD_not]
 by_cases h : i < 64
 ·simp [h, tb]
 ·simp [tb, BitVec.getLsbD_of_ge _ i (by omega : 64 <= i)]
theorem QoQ (x : Int) {i : Nat} (h : 64 <= i) : tb x i = false := BitVec.getLsbD_of_ge _ i h
theorem Qj8 {x y : Int} (hx : I64 x) (hy : I64 y) (h : ∀ i, tb x i = tb y i) : x = y := by
 rw [<- Qlk hx, <- Qlk hy]
 congr 1
 exact BitVec.eq_of_getLsbD_eq fun i _ => h i
theorem Qk2 (i : Nat) : tb 0 i = false := by
 show (BitVec.ofInt 64 0).getLsbD i = false
 rw [show BitVec.ofInt 64 0 = 0#64 from rfl, BitVec.getLsbD_zero]
theorem Qf0 {x : Int} (hx : I64 x) : x = 0 ↔ ∀ i, tb x i = false := by
 constructor
 ·rintro rfl i; exact Qk2 i
 ·intro h; exact Qj8 hx ⟨by omega, by omega⟩ fun i => by rw [h i, Qk2]
theorem Qj9 (n : Nat) {i : Nat} (h : i < 64) : tb (n : Int) i = n.testBit i := by
 rw [tb, BitVec.ofInt_natCast, BitVec.getLsbD_ofNat]; simp [h]
theorem QhO {k : Nat} (hk : k < 64) (i : Nat) : tb ((2 : Int) ^ k) i = decide (i = k) := by
 have e : ((2 ^ k : Nat) : Int) = (2 : Int) ^ k := by simp
 by_cases h : i < 64
 ·rw [<- e, Qj9 _ h, Nat.testBit_two_pow]
  exact decide_eq_decide.2 eq_comm
 ·rw [QoQ _ (by omega)]; exact (decide_eq_false (by omega)).symm
theorem QdB (x m : Int) : IntKind.i64.wrap (x - XQ x m) = QiU x m := by
 have h : BitVec.ofInt 64 (x - XQ x m) = BitVec.ofInt 64 x &&& ~~~ BitVec.ofInt 64 m := by
  rw [Int.sub_eq_add_neg, BitVec.ofInt_add, BitVec.ofInt_neg, <- BitVec.sub_eq_add_neg, Qql]
  generalize BitVec.ofInt 64 x = a
  generalize BitVec.ofInt 64 m = b
  have h1 : (a &&& ~~~b) + (a &&& b) = a := by
   rw [BitVec.add_eq_or_of_and_eq_zero]
   ·ext i hi; simp; cases a[i] <;> cases b[i] <;> rfl
   ·ext i hi; simp
    cases a[i] <;> cases b[i] <;> simp
  exact (BitVec.sub_eq_iff_eq_add).2 h1.symm
 have e : QiU x m = (BitVec.ofInt 64 (QiU x m)).toInt := (Qlk (Qij x m)).symm
 rw [e, QiS, h, Qqm]
theorem Qfn {x m : Int} : XQ x m = 0 ↔ ∀ i, tb x i = true -> tb m i = false := by
 rw [Qf0 (Qii x m)]
 refine forall_congr' fun i => ?_
 rw [Qma]; cases tb x i <;> cases tb m i <;> simp
theorem not_zero {x m : Int} : QiU x m = 0 ↔ ∀ i, tb x i = true -> tb m i = true := by
 rw [Qf0 (Qij x m)]
 refine forall_congr' fun i => ?_
 rw [Qmb]; cases tb x i <;> cases tb m i <;> simp
theorem XZ {x m : Int} (hx : I64 x) : XQ x m = x ↔ ∀ i, tb x i = true -> tb m i = true := by
 constructor
 ·intro h i hi
  have := congrArg (fun z => tb z i) h
  simp only [Qma, hi, Bool.true_and] at this
  exact this
 ·intro h
  refine Qj8 (Qii x m) hx fun i => ?_
  rw [Qma]
  cases hx2 : tb x i
  ·rfl
  ·rw [h i hx2]; rfl
theorem Qe7 {x m : Int} (hx : I64 x) : QiU x m = x ↔ ∀ i, tb x i = true -> tb m i = false := by
 constructor
 ·intro h i hi
  have := congrArg (fun z => tb z i) h
  simp only [Qmb, hi, Bool.true_and] at this
  simpa using this
 ·intro h
  refine Qj8 (Qij x m) hx fun i => ?_
  rw [Qmb]
  cases hx2 : tb x i
  ·rfl
  ·rw [h i hx2]; rfl
def Lo (x : Int) : Prop := 0 <= x /\ x < 131072
theorem Lo.i64 {x : Int} (h : Lo x) : I64 x := ⟨by have := h.1; omega, by have := h.2; omega⟩
theorem Lo.hi {x : Int} (h : Lo x) {i : Nat} (hi : 17 <= i) : tb x i = false := by
 obtain ⟨n, rfl⟩ := Int.eq_ofNat_of_zero_le h.1
 by_cases h6 : i < 64
 ·rw [Qj9 _ h6, Nat.testBit_lt_two_pow]
  have h1 : (2 : Nat) ^ 17 <= 2 ^ i := Nat.pow_le_pow_right (by omega) hi
  have h2 : (2 : Nat) ^ 17 = 131072 := by decide
  have := h.2
  omega
 ·exact QoQ _ (by omega)
theorem Lo.of {x : Int} (hx : I64 x) (h : ∀ i, 17 <= i -> tb x i = false) : Lo x := by
 have hb : (BitVec.ofInt 64 x).toNat < 2 ^ 17 := by
  refine Nat.lt_pow_two_of_testBit _ fun i hi => ?_
  exact h i hi
 have h2 : (2 : Nat) ^ 17 = 131072 := by decide
 have e := Qlk hx
 rw [BitVec.toInt_eq_toNat_of_lt (by omega)] at e
 exact ⟨by omega, by omega⟩
theorem Qn0 {k : Nat} (h : k <= 16) : Lo ((2 : Int) ^ k) := by
 have := QpR (n := k) (by omega)
 refine ⟨by omega, ?_⟩
 have h1 : (2 : Nat) ^ k <= 2 ^ 16 := Nat.pow_le_pow_right (by omega) h
 have h2 : (2 : Nat) ^ 16 = 65536 := by decide
 have h3 : ((2 ^ k : Nat) : Int) = (2 : Int) ^ k := by simp
 omega
theorem Qri (w : Qq) (u : Int) : Lo (YC w u) := ⟨(Qd7 w u).1, by have := (Qd7 w u).2; omega⟩
theorem Qmc {x : Int} (hx : I64 x) (m : Int) : Qa4 x m = QaE x m := by
 unfold QaE Qa4
 have : (QaH .andNot .i64 x m = 0) ↔ (QaH .and .i64 x m = x) := (not_zero (x := x) (m := m)).trans (XZ hx).symm
 by_cases h : QaH .andNot .i64 x m = 0
 ·rw [if_pos h, if_pos (this.1 h)]
 ·rw [if_neg h, if_neg (fun e => h (this.2 e))]
theorem QhY {x : Int} {k : Nat} (hk : k < 64) : XQ x (2 ^ k) = 0 ↔ tb x k = false := by
 rw [Qfn]
 constructor
 ·intro h
  cases hx : tb x k
  ·rfl
  ·have := h k hx; rw [QhO hk] at this; simp at this
 ·intro h i hi
  rw [QhO hk]
  by_cases e : i = k
  ·subst e; rw [h] at hi; cases hi
  ·exact decide_eq_false e
end M25
namespace M25
open Go Go.Abs M3
/-! ### Trails: the loops' laws -/
theorem Qd4 (w : Qq) (l : List StepT) (s : StepT) (u : Int) : Zi w (l ++ [s]) u = if s.u = u /\ inW w u = true then s.m else Zi w l u := by
 rw [Zi, List.foldl_append]; rfl
theorem QcD {α : Type} {l : List α} {i k : Nat} (hk : k + 1 = i) (h : k < l.length) : l.take i = l.take k ++ [l[k]] := by
 subst hk; rw [List.take_succ_eq_append_getElem h]
theorem QpB {w : Qq} {l : List StepT} {u : Int} {i k : Nat} (hk : k + 1 = i) (h : k < l.length) (hu : l[k].u = u) (hw : inW w u = true) : Zi w (l.take i) u = l[k].m := by
 rw [QcD hk h, Qd4, if_pos ⟨hu, hw⟩]
theorem Qgj {w : Qq} {l : List StepT} {u : Int} {i k : Nat} (hk : k + 1 = i) (h : k < l.length) (hu : ¬ l[k].u = u \/ ¬ 0 <= u \/ ¬ u < w.length) : Zi w (l.take i) u = Zi w (l.take (i - 1)) u := by
 rw [QcD hk h, Qd4, if_neg, show i - 1 = k by omega]
 rintro ⟨h1, h2⟩
 rw [QbE] at h2
 rcases hu with hu | hu | hu
 ·exact hu h1
 ·exact hu h2.1
 ·exact hu h2.2
theorem Qir {w : Qq} {l : List StepT} {u : Int} (h : inW w u = false) : Zi w l u = 0 := by
 have hf : YC w u = 0 := Qd8 (by
  refine Classical.byContradiction fun hn => ?_
  rw [Qgc (by omega) (by omega)] at h; cases h)
 suffices hs : ∀ a, l.foldl (fun a s => if s.u = u /\ inW w u = true then s.m else a) a = a by rw [Zi, hs, hf]
 induction l with
 | nil => intro a; rfl
 | cons s l ih => intro a; rw [List.foldl_cons, if_neg (by rw [h]; simp), ih]
def QaW (w : Qq) (l : List StepT) (u : Int) : Int := l.foldl (fun a s => if s.u = u then s.m else a) (YC w u)
theorem Qiq {w : Qq} {l : List StepT} {u : Int} (h : inW w u = true) : QaW w l u = Zi w l u := by
 unfold QaW Zi
 simp only [h, and_true]
theorem Qhr (w : Qq) (l : List StepT) (s : StepT) (u : Int) : QaW w (l ++ [s]) u = if s.u = u then s.m else QaW w l u := by
 rw [QaW, List.foldl_append]; rfl
theorem QnY {w : Qq} {l : List StepT} {u : Int} {i k : Nat} (hk : k + 1 = i) (h : k < l.length) (hu : l[k].u = u) : QaW w (l.take i) u = l[k].m := by
 rw [QcD hk h, Qhr, if_pos hu]
theorem QmG {w : Qq} {l : List StepT} {u : Int} {i k : Nat} (hk : k + 1 = i) (h : k < l.length) (hu : ¬ l[k].u = u) : QaW w (l.take i) u = QaW w (l.take (i - 1)) u := by
 rw [QcD hk h, Qhr, if_neg hu, show i - 1 = k by omega]
theorem X3 {w : Qq} {u : Int} : YC w u = 0 ↔ inW w u = false := by
 constructor
 ·intro h
  cases hw : inW w u
  ·rfl
  ·rw [QbE] at hw
   rw [Qiu hw.1 hw.2] at h
   have h2 : 2 <= (2 : Int) ^ (min (w[u.toNat]'(by omega)).cs.length 16 + 1) := by
    rw [Int.pow_succ]
    have := QpR (n := min (w[u.toNat]'(by omega)).cs.length 16) (by omega)
    omega
   omega
 ·intro h
  refine Qd8 (Classical.byContradiction fun hn => ?_)
  rw [Qgc (by omega) (by omega)] at h; cases h
theorem Qjx {l : List StepT} (h : (l.length : Int) = 0) : Y4 l = 0 := by
 have e : l = [] := List.eq_nil_of_length_eq_zero (by omega)
 subst e; rfl
theorem QlE {l : List StepT} {k : Nat} (hk : k + 1 = l.length) : Y4 l = (l[k]'(by omega)).l := by
 rw [Y4, List.getLast?_eq_getElem?, show l.length - 1 = k by omega, List.getElem?_eq_getElem (by omega)]
theorem QpL : ∀ {l : List Int}, ¬ (l.length : Int) = 1 -> QmM l = -1
 | [], _ => rfl
 | [x], h => by simp at h
 | x :: y :: l, _ => rfl
theorem Qoi : ∀ {l : List Int} (h : (l.length : Int) = 1), QmM l = l[(0 : Int).toNat]'(by simp; omega)
 | [], h => by simp at h
 | [x], _ => rfl
 | x :: y :: l, h => by simp at h; omega
theorem QpQ {m : Int} (h : ¬ ((X5 m).length : Int) = 1) : YN m = -1 := QpL h
theorem Qoq {m : Int} (h : ((X5 m).length : Int) = 1) : YN m = (X5 m)[(0 : Int).toNat]'(by simp; omega) := Qoi h
theorem QhM {α : Type} {f : α -> List D} {l : List α} {i : Nat} : ((l.map f).take ((i : Nat) : Int).toNat).drop (((0 : Nat) : Int)).toNat = (l.take i).map f := by simp [List.map_take]
def Qrp (w : Qq) (l : List StepT) (i : Nat) : Bool := match l[i]? with
 | some s => Qa3 w (l.take i) s
 | none => true
theorem Qeg {w : Qq} {l : List StepT} {i : Nat} (h : i < l.length) : Qrp w l i = Qa3 w (l.take i) l[i] := by
 rw [Qrp, List.getElem?_eq_getElem h]
theorem QlL (w : Qq) (l : List StepT) : Xb w l = (List.range l.length).all (Qrp w l) := rfl
theorem Xk {w : Qq} {l : List StepT} {s : StepT} (h : s.u < 0 \/ (w.length : Int) <= s.u \/ s.c < -1) : Qa3 w l s = false := by
 unfold Qa3
 rcases h with h | h | h
 ·rw [Qdu (.inl h)]; rfl
 ·rw [Qdu (.inr h)]; rfl
 ·rw [decide_eq_false (show ¬ -1 <= s.c by omega)]; simp
theorem Z6 {w : Qq} {l : List StepT} {s : StepT} (h0 : 0 <= s.u) (h1 : s.u < w.length) (h2 : -1 <= s.c) : Qa3 w l s = (decide (XQ s.m (Zi w l s.u) = s.m) &&
  if s.c = -1 then decide (0 <= YN s.m) && !XC l s.u && decide (s.l = IntKind.i64.wrap (Y4 l + 1))
  else !decide (s.m = 0) && !decide (s.m = Zi w l s.u) && decide (s.l = Y4 l)) := by
 rw [Qa3, Qgc h0 h1, decide_eq_true h2]; rfl
theorem QcH {w : Qq} {l : List StepT} {t : TermT} {c : Int} (h : c < 0 \/ t.u < 0 \/ (w.length : Int) <= t.u) : Yu w l t c = none := by
 rw [Yu, if_pos]
 rcases h with h | h
 ·exact .inl h
 ·exact .inr (Qdu h)
theorem Qbz {w : Qq} {l : List StepT} {t : TermT} {c : Int} (h : IntKind.i64.wrap (Zi w l t.u - XQ (Zi w l t.u) t.m) = 0 \/ IntKind.i64.wrap (Zi w l t.u - XQ (Zi w l t.u) t.m) = Zi w l t.u) : Yu w l t c = none := by
 rw [Yu]
 split
 ·rfl
 ·first | rfl | rw [if_pos h]
theorem Qhc {w : Qq} {l : List StepT} {t : TermT} {c : Int} (h0 : ¬ c < 0) (h1 : inW w t.u = true) (h2 : ¬ IntKind.i64.wrap (Zi w l t.u - XQ (Zi w l t.u) t.m) = 0) (h3 : ¬ IntKind.i64.wrap (Zi w l t.u - XQ (Zi w l t.u) t.m) = Zi w l t.u) :
  Yu w l t c = some (l ++ [⟨t.u, IntKind.i64.wrap (Zi w l t.u - XQ (Zi w l t.u) t.m), Y4 l, c⟩]) := by
 rw [Yu, if_neg (by rw [h1]; simp [h0]), if_neg (by simp [h2, h3])]
theorem Qhb (w : Qq) (l : List StepT) (t : TermT) (c : Int) : ((Yu w l t c).getD []).length <= l.length + 1 := by
 unfold Yu
 split
 ·simp
 ·split <;> simp
def QcV (w : Qq) (l : List StepT) : Prop := ∀ s ∈ l, Lo s.m
theorem Qdv {w : Qq} {l : List StepT} (h : QcV w l) (u : Int) : Lo (Zi w l u) := by
 suffices hs : ∀ (l : List StepT) a, (∀ s ∈ l, Lo s.m) -> Lo a -> Lo (l.foldl (fun a s => if s.u = u /\ inW w u = true then s.m else a) a) from hs l _ h (Qri w u)
 intro l
 induction l with
 | nil => intro a _ h; exact h
 | cons s l ih =>
  intro a hl ha
  rw [List.foldl_cons]
  refine ih _ (fun t ht => hl t (by simp [ht])) ?_
  split
  ·exact hl s (by simp)
  ·exact ha
theorem Qnn {w : Qq} {l : List StepT} {t : TermT} {c : Int} (hl : QcV w l) (h : XQ (Zi w l t.u) t.m = 0) : Yu w l t c = none :=
 Qbz (.inr (by rw [QdB, Qe7 (Qdv hl _).i64, <- Qfn]; exact h))
theorem Qno {w : Qq} {l : List StepT} {t : TermT} {c : Int} (h : QiU (Zi w l t.u) t.m = 0) : Yu w l t c = none :=
 Qbz (.inl (by rw [QdB]; exact h))
theorem Qnp {w : Qq} {l : List StepT} {t : TermT} {c : Int} (hl : QcV w l) (h0 : ¬ c < 0) (h1 : ¬ XQ (Zi w l t.u) t.m = 0) (h2 : ¬ QiU (Zi w l t.u) t.m = 0) : Yu w l t c = some (l ++ [⟨t.u, QiU (Zi w l t.u) t.m, Y4 l, c⟩]) := by
 have hin : inW w t.u = true := by
  cases hw : inW w t.u
  ·rw [Qir hw] at h1
   exact absurd (Qfn.2 fun i hi => by rw [Qk2] at hi; cases hi) h1
  ·rfl
 rw [Qhc h0 hin (by rw [QdB]; exact h2) (by rw [QdB, Qe7 (Qdv hl _).i64, <- Qfn]; exact h1), QdB]
theorem QeE {w : Qq} {l : List StepT} {u p : Int} (h : (u < 0 \/ (w.length : Int) <= u) \/ p < 0) : YM w l u p = none := by
 unfold YM
 split
 ·rfl
 ·rename_i x hx
  rcases h with h | h
  ·rw [Qk4 h] at hx; cases hx
  ·rw [if_pos (.inl h)]
theorem Qmr {w : Qq} {l : List StepT} {u p : Int} (h0 : 0 <= u) (h1 : u < w.length) (h : ((w[u.toNat]'(by omega)).cs.length : Int) <= p) : YM w l u p = none := by
 rw [YM, Qmd h0 h1]
 simp only []
 rw [if_pos (.inr h)]
def Qq7 (l : List StepT) (u p : Int) : StepT := ⟨u, IntKind.i64.wrap (2 * 2 ^ min p.toNat 64), IntKind.i64.wrap (Y4 l + 1), -1⟩
theorem Qnm {w : Qq} {l : List StepT} {u p : Int} (h : Qa3 w l (Qq7 l u p) = false) : YM w l u p = none := by
 unfold YM
 split
 ·rfl
 ·split
  ·rfl
  ·simp only [Qq7] at h
   rw [if_neg (by rw [h]; simp)]
theorem Qmu {w : Qq} {l : List StepT} {u p : Int} (h0 : 0 <= u) (h1 : u < w.length) (h2 : ¬ p < 0) (h3 : ¬ ((w[u.toNat]'(by omega)).cs.length : Int) <= p) (h : Qa3 w l (Qq7 l u p) = true) : YM w l u p = some (l ++ [Qq7 l u p]) := by
 rw [YM, Qmd h0 h1]
 simp only []
 rw [if_neg (by omega)]
 simp only [Qq7] at h ⊢
 rw [if_pos h]
theorem QbM {h : Int -> Int} {inc : List TermT} {a : Int} {i : Nat} (hi : i < inc.length) : XD h (inc.drop i) a = if QaE (h inc[i].u) inc[i].m = 0 then -1 else if QaE (h inc[i].u) inc[i].m = 1 then (if 0 <= a then -1 else XD h (inc.drop (i + 1)) inc[i].u) else XD h (inc.drop (i + 1)) a := by
 rw [List.drop_eq_getElem_cons hi, XD]
theorem QjL {h : Int -> Int} {inc : List TermT} {a : Int} {i : Nat} (hi : inc.length <= i) : XD h (inc.drop i) a = a := by
 rw [List.drop_eq_nil_of_le hi, XD]
theorem QkU {w : Qq} {l : List StepT} {db : List (List TermT)} {i : Nat} (hi : i < db.length) : Xj w l i (db.drop i) = if Qb2 w l db[i] = true then ((i : Int), -1) else if 0 <= Qgs w l db[i] then ((i : Int), Qgs w l db[i]) else Xj w l (i + 1) (db.drop (i + 1)) := by
 rw [List.drop_eq_getElem_cons hi, Xj]
theorem QpY {w : Qq} {l : List StepT} {db : List (List TermT)} {i : Nat} (hi : db.length <= i) : Xj w l i (db.drop i) = (-1, -1) := by
 rw [List.drop_eq_nil_of_le hi, Xj]
theorem Ql7 (w : Qq) (l : List StepT) : ∀ (db : List (List TermT)) (i : Nat), (Xj w l i db = (-1, -1)) \/ ∃ k, i <= k /\ ∃ hk : k - i < db.length, (Xj w l i db = ((k : Int), -1) /\ Qb2 w l db[k - i] = true) \/ (Qb2 w l db[k - i] = false /\ 0 <= Qgs w l db[k - i] /\ Xj w l i db = ((k : Int), Qgs w l db[k - i]))
 | [], i => .inl rfl
 | x :: db, i => by
  rw [Xj]
  by_cases h1 : Qb2 w l x = true
  ·rw [if_pos h1]; exact .inr ⟨i, Nat.le_refl _, by simp, .inl ⟨rfl, by simpa using h1⟩⟩
  ·rw [if_neg h1]
   by_cases h2 : 0 <= Qgs w l x
   ·rw [if_pos h2]; exact .inr ⟨i, Nat.le_refl _, by simp, .inr ⟨by simpa using h1, by simpa using h2, by simp⟩⟩
   ·rw [if_neg h2]
    rcases Ql7 w l db (i + 1) with h | ⟨k, hk, hlt, h⟩
    ·exact .inl h
    ·refine .inr ⟨k, by omega, by simp only [List.length_cons]; omega, ?_⟩
     have e : (x :: db)[k - i]'(by simp only [List.length_cons]; omega) = db[k - (i + 1)] := by
      obtain ⟨j, hj⟩ : ∃ j, k - i = j + 1 := ⟨k - i - 1, by omega⟩
      simp only [hj, List.getElem_cons_succ]
      congr 1; omega
     rw [e]; exact h
theorem QjX {w : Qq} {l : List StepT} {db : List (List TermT)} (h : ¬ (Yv w db l).2 < 0) : 0 <= (Yv w db l).1 /\ (Yv w db l).1 < db.length := by
 unfold Yv at h ⊢
 rcases Ql7 w l db 0 with e | ⟨k, _, hk, ⟨e, _⟩ | ⟨_, _, e⟩⟩
 ·rw [e] at h; simp at h
 ·rw [e] at h; simp at h
 ·rw [e]; simp only; omega
theorem QmQ {w : Qq} {db : List (List TermT)} {n : Nat} {out : List StepT} (h : (Yv w db out).2 < 0) (hn : 0 < n) : Qfj w db n out = (out, (Yv w db out).1) := by
 obtain ⟨m, rfl⟩ : ∃ m, n = m + 1 := ⟨n - 1, by omega⟩
 rw [Qfj, if_pos h]
theorem QpW {w : Qq} {db : List (List TermT)} {n : Nat} {out : List StepT} (h : ¬ (Yv w db out).2 < 0) (hn : 0 < n) (hd : (Yv w db out).1.toNat < db.length) : Qfj w db n out = Qfj w db (n - 1) ((Yu w out ⟨(Yv w db out).2, Qeb w db[(Yv w db out).1.toNat] (Yv w db out).2⟩ (Yv w db out).1).getD []) := by
 obtain ⟨m, rfl⟩ : ∃ m, n = m + 1 := ⟨n - 1, by omega⟩
 rw [Qfj, if_neg h, List.getD_eq_getElem?_getD, List.getElem?_eq_getElem hd]; rfl
end M25
namespace Go.Proofs
open Go Go.Abs M3 M25
set_option linter.unusedVariables false
set_option linter.unusedSimpArgs false
theorem ZQ {w : Qq} (hw : WSm w) {l : List StepT} (hl : l.length <= 10000000) {u : Int} : Ok Tryz.prog 14 [ZY w, Zl l, .int .i64 u] (.int .i64 (Zi w l u)) := by
 refine Ok.ofT ZT Tryz.func14 QtW (Nat.le_of_ble_eq_true Z) ?_
 show TW _ _ tf14.body _ _
 refine Qf fun K hK => Zs Z Z Z (Qa Z (hK _ _ (Qb (kp3 Z Z Z) ?_)))
 refine QD ?_ -- 0
 refine Qf fun K hK => Qa Z ?_
 first | refine QQ rfl QU ?_ | refine QQ rfl rfl ?_
 refine X7 Z Z (by first | exact Qr (by omega) (by omega) | rfl) (Qa Z (hK _ _ (Qb (kp4 Z Z Z Z) ?_)))
 refine Qz ?_
 refine Zn (ι := Nat) (fun i => ⟨[(1, Zl l), (2, .int .i64 u), (3, .ref 3 0 0), (7, .int .i64 ((i : Int) - 1))], [(3, ⟨[[.sl ((w).map YA)]], 1, 26, true⟩)]⟩) (fun i => i <= l.length /\ Zi w l u = Zi w (l.take i) u) (fun i => i) l.length ?_ ?_ ?_
 ·exact Q3 (l := [1, 2, 3, 7]) (lH := [3]) (kp4 rfl rfl rfl rfl) (Qg rfl Qn) rfl rfl rfl
 ·exact ⟨Nat.le_refl _, by rw [List.take_length]⟩
 intro i hI
 try dsimp only
 refine QD ?_ -- 1
 refine Qf fun K hK => Qa Z (Qfb Z Z (hK _ _ (Qb (kp5 Z Z Z Z Z) ?_)))
 refine Qx Z (fun h1 => ?_) (fun h1 => ?_)
 ·try rw [h1]
  try simp only [qA] at h1
  refine Qw (Qe (kp4 Z Z Z Z) ?_)
  refine QD ?_ -- 2
  refine Qz (Qf fun K hK => Qa Z (Qa Z (QK Z Z Z (by omega) (ZE (by omega) (by omega)) Z (Q9 Z Z (QB Z Z Z (Qa Z (ZD Z Z (Qa Z ?_))))))))
  refine QC (g := 22) Z (fun h2 => ?_) (fun h2 => ?_)
  ·try rw [h2]
   try simp only [qA] at h2
   refine Qi Z (Qa Z (Qi Z (Qfb Z Z (Qm Z Z (Qa Z ?_)))))
   refine QC (g := 26) Z (fun h3 => ?_) (fun h3 => ?_)
   ·try rw [h3]
    try simp only [qA] at h3
    refine Qi Z (Qa Z (Qi Z (Qj Z Z (Qi Z (QB Z Z Z (Qi Z ?_))))))
    first | refine QQ rfl QU ?_ | refine QQ rfl rfl ?_
    refine Qi Z (Yd Z Z (Qm Z Z (hK _ _ (Qb (kp5 Z Z Z Z Z) ?_))))
    refine Qx Z (fun h4 => ?_) (fun h4 => ?_)
    ·try rw [h4]
     try simp only [qA] at h4
     refine Qf fun K hK => Qa Z (Qa Z (QK Z Z Z (by omega) (ZE (by omega) (by omega)) Z (Q9 Z Z (QB Z Z Z (Qa Z (hK _ _ (Qb (kp1 Z) ?_)))))))
     refine Qv (Qu (Qk (Q2 (Qu (Qk (QE Z ?_))))))
     rw [hI.2, QpB (k := ((i : Int) - 1).toNat) (by omega) (by omega) h2 (Qgc (by omega) (by omega))]
    ·try rw [h4]
     try simp only [qA] at h4
     refine Qw (Qh (Qe (kp4 Z Z Z Z) (QO fun K hK => Qa Z (X7 Z Z (by first | exact Qr (by omega) (by omega) | rfl) (Qa Z (hK _ ?_))))))
     refine Ql (i - 1) ?_ ?_ ?_
     ·exact Q3 (l := [1, 2, 3, 7]) (lH := [3]) (kp4 rfl rfl rfl rfl) (Qg rfl Qn) (by simp only [List.cons.injEq, Prod.mk.injEq, D.int.injEq, and_true, true_and]; omega) rfl rfl
     ·exact ⟨by omega, by rw [hI.2, Qgj (k := ((i : Int) - 1).toNat) (by omega) (by omega) (by first | exact .inl h2 | exact .inr (.inl h3) | exact .inr (.inr h4))]⟩
     ·first | omega | (simp only; omega) | (dsimp only; omega)
   ·try rw [h3]
    try simp only [qA] at h3
    refine Qs Z (Qs Z (Qs Z (Qs Z (Qs Z (Qm Z Z (hK _ _ (Qb (kp5 Z Z Z Z Z) ?_)))))))
    refine ZU Z (Qw (Qh (Qe (kp4 Z Z Z Z) (QO fun K hK => Qa Z (X7 Z Z (by first | exact Qr (by omega) (by omega) | rfl) (Qa Z (hK _ ?_)))))))
    refine Ql (i - 1) ?_ ?_ ?_
    ·exact Q3 (l := [1, 2, 3, 7]) (lH := [3]) (kp4 rfl rfl rfl rfl) (Qg rfl Qn) (by simp only [List.cons.injEq, Prod.mk.injEq, D.int.injEq, and_true, true_and]; omega) rfl rfl
    ·exact ⟨by omega, by rw [hI.2, Qgj (k := ((i : Int) - 1).toNat) (by omega) (by omega) (by first | exact .inl h2 | exact .inr (.inl h3) | exact .inr (.inr h4))]⟩
    ·first | omega | (simp only; omega) | (dsimp only; omega)
  ·try rw [h2]
   try simp only [qA] at h2
   refine Qs Z (Qs Z (Qm Z Z (Qa Z (Qs Z (Qs Z (Qs Z (Qs Z (Qs Z (Qm Z Z (hK _ _ (Qb (kp5 Z Z Z Z Z) ?_)))))))))))
   refine ZU Z (Qw (Qh (Qe (kp4 Z Z Z Z) (QO fun K hK => Qa Z (X7 Z Z (by first | exact Qr (by omega) (by omega) | rfl) (Qa Z (hK _ ?_)))))))
   refine Ql (i - 1) ?_ ?_ ?_
   ·exact Q3 (l := [1, 2, 3, 7]) (lH := [3]) (kp4 rfl rfl rfl rfl) (Qg rfl Qn) (by simp only [List.cons.injEq, Prod.mk.injEq, D.int.injEq, and_true, true_and]; omega) rfl rfl
   ·exact ⟨by omega, by rw [hI.2, Qgj (k := ((i : Int) - 1).toNat) (by omega) (by omega) (by first | exact .inl h2 | exact .inr (.inl h3) | exact .inr (.inr h4))]⟩
   ·first | omega | (simp only; omega) | (dsimp only; omega)
 ·try rw [h1]
  try simp only [qA] at h1
  refine Zk (QN (Qy (QF (Qe (kp2 Z Z) (Qf fun K hK => QJ (cs := [_]) Z Z Z Z (Qa Z (QG (ZH hw) Z Z (.inr Z) (Qa Z (hK _ _ (Qb (kp1 Z) ?_))))))))))
  refine Qv (QE Z ?_)
  rw [hI.2, show i = 0 by omega]; rfl
theorem Z0 {l : List StepT} (hl : l.length <= 10000000) : Ok Tryz.prog 27 [Zl l] (.int .i64 (Y4 l)) := by
 refine Ok.ofT ZT Tryz.func27 Qt5 (Nat.le_of_ble_eq_true Z) ?_
 show TW _ _ tf27.body _ _
 refine Qf fun K hK => Qa Z (hK _ _ (Qb (kp1 Z) ?_))
 refine QD ?_ -- 0
 refine Qf fun K hK => Qa Z ?_
 first | refine QQ rfl QU ?_ | refine QQ rfl rfl ?_
 refine ZD Z Z (hK _ _ (Qb (kp2 Z Z) ?_))
 refine Qx Z (fun h1 => ?_) (fun h1 => ?_)
 ·try rw [h1]
  try simp only [qA] at h1
  refine Qf fun K hK => Qa Z (hK _ _ (Qb (kp1 Z) ?_))
  refine Qv (Qk (QE Z ?_))
  rw [Qjx h1]
 ·try rw [h1]
  try simp only [qA] at h1
  refine Qw (Qe (kp1 Z) (Qf fun K hK => Qa Z (Qa Z ?_)))
  first | refine QQ rfl QU ?_ | refine QQ rfl rfl ?_
  refine X7 Z Z (by first | exact Qr (by omega) (by omega) | rfl) (QK Z Z Z (by omega) (ZE (by omega) (by omega)) Z (Q9 Z Z (QB Z Z Z (Qa Z (hK _ _ (Qb (kp1 Z) ?_))))))
  refine Qv (QE Z ?_)
  rw [QlE (k := ((l.length : Int) - 1).toNat) (by omega)]
theorem Qbv {l : List StepT} (hl : l.length <= 10000000) {u : Int} : Ok Tryz.prog 88 [Zl l, .int .i64 u] (.bool (XC l u)) := by
 refine Ok.ofT ZT Tryz.func88 QuZ (Nat.le_of_ble_eq_true Z) ?_
 show TW _ _ tf88.body _ _
 refine Qf fun K hK => Qa Z (hK _ _ (Qb (kp2 Z Z) ?_))
 refine QD ?_ -- 0
 refine Qf fun K hK => Qa Z (hK _ _ (Qb (kp3 Z Z Z) ?_))
 refine Qz ?_
 refine Zn (ι := Nat) (fun i => ⟨[(0, Zl l), (1, .int .i64 u), (5, .int .i64 i)], []⟩) (fun i => i <= l.length /\ (l.take i).any (fun s => decide (s.u = u) && decide (s.c = -1)) = false) (fun i => l.length - i) 0 ?_ ?_ ?_
 ·exact Zd (kp3 rfl rfl rfl)
 ·exact ⟨Nat.zero_le _, by simp⟩
 intro i hI
 try dsimp only
 refine QD ?_ -- 1
 refine Qf fun K hK => Qa Z (Qa Z ?_)
 first | refine QQ rfl QU ?_ | refine QQ rfl rfl ?_
 refine Yd Z Z (hK _ _ (Qb (kp4 Z Z Z Z) ?_))
 refine Qx Z (fun h1 => ?_) (fun h1 => ?_)
 ·try rw [h1]
  try simp only [qA] at h1
  refine Qw (Qe (kp3 Z Z Z) ?_)
  refine QD ?_ -- 2
  refine Qz (Qf fun K hK => Qa Z (Qa Z (QK Z Z Z (by omega) (QT (by omega)) Z (Q9 Z Z (QB Z Z Z (Qa Z (ZD Z Z (Qa Z ?_))))))))
  refine QC (g := 19) Z (fun h2 => ?_) (fun h2 => ?_)
  ·try rw [h2]
   try simp only [qA] at h2
   refine Qi Z (Qa Z (Qi Z (Qa Z (Qi Z (QK Z Z Z (by omega) (QT (by omega)) Z (Qi Z (Q9 Z Z (Qi Z (QB Z Z Z (Qi Z (ZD Z Z ?_)))))))))))
   refine Qm Z Z (hK _ _ (Qb (kp4 Z Z Z Z) ?_))
   refine Qx Z (fun h3 => ?_) (fun h3 => ?_)
   ·try rw [h3]
    try simp only [qA] at h3
    refine Qf fun K hK => Qa Z (hK _ _ (Qb (kp1 Z) ?_))
    refine Qv (Qu (Qk (Q2 (Qu (Qk (Qt Z ?_))))))
    rw [XC, QhU (i := i) (by omega) (by simp [h2, h3])]
   ·try rw [h3]
    try simp only [qA] at h3
    refine Qw (Qh (Qe (kp3 Z Z Z) (QO fun K hK => Qa Z (QX Z Z (by first | exact Qr (by omega) (by omega) | rfl) (Qa Z (hK _ ?_))))))
    refine Ql (i + 1) ?_ ?_ ?_
    ·exact Zd (kp3 rfl rfl rfl)
    ·exact ⟨by omega, QfQ (by omega) hI.2 (by first | (simp [h2, h3]; done) | (simp [h2]; done))⟩
    ·first | omega | (simp only; omega) | (dsimp only; omega)
  ·try rw [h2]
   try simp only [qA] at h2
   refine Qs Z (Qs Z (Qs Z (Qs Z (Qs Z (Qs Z (Qm Z Z (hK _ _ (Qb (kp4 Z Z Z Z) ?_))))))))
   refine ZU Z (Qw (Qh (Qe (kp3 Z Z Z) (QO fun K hK => Qa Z (QX Z Z (by first | exact Qr (by omega) (by omega) | rfl) (Qa Z (hK _ ?_)))))))
   refine Ql (i + 1) ?_ ?_ ?_
   ·exact Zd (kp3 rfl rfl rfl)
   ·exact ⟨by omega, QfQ (by omega) hI.2 (by first | (simp [h2, h3]; done) | (simp [h2]; done))⟩
   ·first | omega | (simp only; omega) | (dsimp only; omega)
 ·try rw [h1]
  try simp only [qA] at h1
  refine Zk (QN (Qy (QF (Qe (Q0) (Qf fun K hK => Qa Z (hK _ _ (Qb (kp1 Z) ?_)))))))
  refine Qv (Qt Z ?_)
  rw [XC, Qna (i := i) (by omega) hI.2]
theorem X2 {m : Int} : Ok Tryz.prog 59 [.int .i64 m] (.int .i64 (YN m)) := by
 refine Ok.ofT ZT Tryz.func59 Quy (Nat.le_of_ble_eq_true Z) ?_
 show TW _ _ tf59.body _ _
 refine Qf fun K hK => Qa Z (hK _ _ (Qb (kp1 Z) ?_))
 refine Qf fun K hK => Qa Z (QG (Qab) Z Z (.inl Z) (Qa Z (hK _ _ (Qb (kp1 Z) ?_))))
 refine QD ?_ -- 0
 refine Qf fun K hK => Qa Z ?_
 first | refine QQ rfl QU ?_ | refine QQ rfl rfl ?_
 refine Xv Z Z (hK _ _ (Qb (kp2 Z Z) ?_))
 refine Qx Z (fun h1 => ?_) (fun h1 => ?_)
 ·try rw [h1]
  try simp only [qA] at h1
  refine Qf fun K hK => Qa Z (hK _ _ (Qb (kp1 Z) ?_))
  refine Qv (Qk (QE Z ?_))
  rw [QpQ h1]
 ·try rw [h1]
  try simp only [qA] at h1
  refine Qw (Qe (kp1 Z) (Qf fun K hK => Qa Z (QK Z Z Z (by omega) (ZE (by omega) (by omega)) Z (QB Z Z Z (Qa Z (hK _ _ (Qb (kp1 Z) ?_)))))))
  refine Qv (QE Z ?_)
  rw [Qoq h1]
theorem Qc7 {w : Qq} (hw : WSm w) {l : List StepT} (hl : l.length <= 10000000) {s : StepT} : Ok Tryz.prog 62 [ZY w, Zl l, .agg (Qcg s)] (.bool (Qa3 w l s)) := by
 refine Ok.ofT ZT Tryz.func62 QuB (Nat.le_of_ble_eq_true Z) ?_
 show TW _ _ tf62.body _ _
 refine Qf fun K hK => Zs Z Z Z (Zs Z Z Z (Qa Z (hK _ _ (Qb (kp3 Z Z Z) ?_))))
 refine QD ?_ -- 0
 refine Qf fun K hK => Qj Z Z (QB Z Z Z (Yd Z Z (Qa Z ?_)))
 refine QC (g := 11) Z (fun h1 => ?_) (fun h1 => ?_)
 ·try rw [h1]
  try simp only [qA] at h1
  refine Qs Z (Qs Z (Qs Z (Qs Z (Qs Z (Qs Z (Qm Z Z (Qa Z (Qs Z (Qs Z (Qs Z (Qm Z Z ?_)))))))))))
  refine hK _ _ (Qb (kp4 Z Z Z Z) ?_)
  refine Zt Z (Qf fun K hK => Qa Z (hK _ _ (Qb (kp1 Z) ?_)))
  refine Qv (Qk (Qt Z ?_))
  first | (rw [Xk (by omega)]; done) | (rw [Z6 (by omega) (by omega) (by omega)]; simp_all; done) | (rw [Z6 (by omega) (by omega) (by omega)]; simp_all; omega)
 ·try rw [h1]
  try simp only [qA] at h1
  refine Qi Z (Qj Z Z (Qi Z (QB Z Z Z (Qi Z (Qj Z Z (Qi Z (QB Z Z Z (Qi Z ?_))))))))
  first | refine QQ rfl QU ?_ | refine QQ rfl rfl ?_
  refine Qi Z (Qfb Z Z (Qm Z Z (Qa Z ?_)))
  refine QC (g := 19) Z (fun h2 => ?_) (fun h2 => ?_)
  ·try rw [h2]
   try simp only [qA] at h2
   refine Qs Z (Qs Z (Qs Z (Qm Z Z (hK _ _ (Qb (kp4 Z Z Z Z) ?_)))))
   refine Zt Z (Qf fun K hK => Qa Z (hK _ _ (Qb (kp1 Z) ?_)))
   refine Qv (Qk (Qt Z ?_))
   first | (rw [Xk (by omega)]; done) | (rw [Z6 (by omega) (by omega) (by omega)]; simp_all; done) | (rw [Z6 (by omega) (by omega) (by omega)]; simp_all; omega)
  ·try rw [h2]
   try simp only [qA] at h2
   refine Qi Z (Qj Z Z (Qi Z (QB Z Z Z (Qi Z (Yd Z Z (Qm Z Z (hK _ _ (Qb (kp4 Z Z Z Z) ?_))))))))
   refine Qx Z (fun h3 => ?_) (fun h3 => ?_)
   ·try rw [h3]
    try simp only [qA] at h3
    refine Qf fun K hK => Qa Z (hK _ _ (Qb (kp1 Z) ?_))
    refine Qv (Qk (Qt Z ?_))
    first | (rw [Xk (by omega)]; done) | (rw [Z6 (by omega) (by omega) (by omega)]; simp_all; done) | (rw [Z6 (by omega) (by omega) (by omega)]; simp_all; omega)
   ·try rw [h3]
    try simp only [qA] at h3
    refine Qw (Qe (kp3 Z Z Z) (Qf fun K hK => QJ (cs := [_]) Z Z Z Z (Qa Z (Qj Z Z (QB Z Z Z (QG (ZQ hw hl) Z Z (.inr Z) (Qa Z (hK _ _ (Qb (kp3 Z Z Z) ?_)))))))))
    refine QD ?_ -- 1
    refine Qf fun K hK => Qj Z Z (QB Z Z Z (ZD Z Z (hK _ _ (Qb (kp4 Z Z Z Z) ?_))))
    refine Qx Z (fun h4 => ?_) (fun h4 => ?_)
    ·try rw [h4]
     try simp only [qA] at h4
     refine Qf fun K hK => Qj Z Z (QR (ds0 := [26, 25, 24, 23, 22, 21, 20, 19, 18, 17, 16, 15, 14, 13, 12, 11, 10, 9, 8, 7, 6, 5, 4, 3, 2, 1, 0]) Z Z Z Z Z (QP (ds0 := [25, 24, 23, 22, 21, 20, 19, 18, 17, 16, 15, 14, 13, 12, 11, 10, 9, 8, 7, 6, 5, 4, 3, 2, 1, 0]) (X2) Z Z (.inr Z) Z Z (Qfb Z Z (Qa Z ?_))))
     refine QC (g := 36) Z (fun h5 => ?_) (fun h5 => ?_)
     ·try rw [h5]
      try simp only [qA] at h5
      refine Qi Z (Qj Z Z (Qi Z (QR (ds0 := [20, 17, 16, 15, 14, 13, 12, 11, 10, 9, 8, 7, 6, 5, 4, 3, 2, 1, 0]) Z Z Z Z Z (Qi Z (Qa Z (Qi Z (Qb6 Z Z (Qi Z (Qj Z Z (Qi Z (QR (ds0 := [17, 16, 15, 14, 13, 12, 11, 10, 9, 8, 7, 6, 5, 4, 3, 2, 1, 0]) Z Z Z Z Z ?_)))))))))))
      refine Qi Z (ZD Z Z (Qm Z Z (Qa Z ?_)))
      refine QC (g := 45) Z (fun h6 => ?_) (fun h6 => ?_)
      ·try rw [h6]
       try simp only [qA] at h6
       refine Qi Z (Qa Z (Qi Z (Qj Z Z (Qi Z (QR (ds0 := [11, 10, 9, 8, 7, 6, 5, 4, 3, 2, 1, 0]) Z Z Z Z Z (Qi Z (QP (ds0 := [10, 9, 8, 7, 6, 5, 4, 3, 2, 1, 0]) (Qbv hl) Z Z (.inr Z) Z Z (Qi Z (Yk Z (Qm Z Z (Qa Z ?_)))))))))))
       refine QC (g := 52) Z (fun h7 => ?_) (fun h7 => ?_)
       ·try rw [h7]
        try simp only [qA] at h7
        refine Qi Z (Qj Z Z (Qi Z (QR (ds0 := [2, 1, 0]) Z Z Z Z Z (Qi Z (Qa Z (Qi Z (QP (ds0 := [3, 2, 1, 0]) (Z0 hl) Z Z (.inr Z) Z Z (Qi Z (QX Z Z Z (Qi Z (ZD Z Z ?_)))))))))))
        refine Qm Z Z (Qa Z (hK _ _ (Qb (kp1 Z) ?_)))
        refine Qv (Qk (Qt Z ?_))
        first | (rw [Xk (by omega)]; done) | (rw [Z6 (by omega) (by omega) (by omega)]; simp_all; done) | (rw [Z6 (by omega) (by omega) (by omega)]; simp_all; omega)
       ·try rw [h7]
        try simp only [qA] at h7
        refine Qs Z (Qs Z (Qs Z (Qs Z (Qs Z (Qs Z (Qm Z Z (Qa Z (hK _ _ (Qb (kp1 Z) ?_)))))))))
        refine Qv (Qk (Qt Z ?_))
        first | (rw [Xk (by omega)]; done) | (rw [Z6 (by omega) (by omega) (by omega)]; simp_all; done) | (rw [Z6 (by omega) (by omega) (by omega)]; simp_all; omega)
      ·try rw [h6]
       try simp only [qA] at h6
       refine Qs Z (Qs Z (Qs Z (Qs Z (Qs Z (Qm Z Z (Qa Z (Qs Z (Qs Z (Qs Z (Qs Z (Qs Z ?_)))))))))))
       refine Qs Z (Qm Z Z (Qa Z (hK _ _ (Qb (kp1 Z) ?_))))
       refine Qv (Qk (Qt Z ?_))
       first | (rw [Xk (by omega)]; done) | (rw [Z6 (by omega) (by omega) (by omega)]; simp_all; done) | (rw [Z6 (by omega) (by omega) (by omega)]; simp_all; omega)
     ·try rw [h5]
      try simp only [qA] at h5
      refine Qs Z (Qs Z (Qs Z (Qs Z (Qs Z (Qs Z (Qs Z (Qm Z Z (Qa Z (Qs Z (Qs Z (Qs Z ?_)))))))))))
      refine Qs Z (Qs Z (Qm Z Z (Qa Z (Qs Z (Qs Z (Qs Z (Qs Z (Qs Z (Qs Z (Qm Z Z (Qa Z ?_)))))))))))
      refine hK _ _ (Qb (kp1 Z) ?_)
      refine Qv (Qk (Qt Z ?_))
      first | (rw [Xk (by omega)]; done) | (rw [Z6 (by omega) (by omega) (by omega)]; simp_all; done) | (rw [Z6 (by omega) (by omega) (by omega)]; simp_all; omega)
    ·try rw [h4]
     try simp only [qA] at h4
     refine Qw (Qe (kp3 Z Z Z) (Qf fun K hK => Qj Z Z (QR (ds0 := [23, 22, 21, 20, 19, 18, 17, 16, 15, 14, 13, 12, 11, 10, 9, 8, 7, 6, 5, 4, 3, 2, 1, 0]) Z Z Z Z Z (Xv Z Z (Qa Z ?_)))))
     refine QC (g := 63) Z (fun h8 => ?_) (fun h8 => ?_)
     ·try rw [h8]
      try simp only [qA] at h8
      refine Qi Z (Qj Z Z (Qi Z (QR (ds0 := [18, 15, 14, 13, 12, 11, 10, 9, 8, 7, 6, 5, 4, 3, 2, 1, 0]) Z Z Z Z Z (Qi Z (Qa Z (Qi Z (Qb6 Z Z (Qi Z (Qj Z Z (Qi Z (QR (ds0 := [15, 14, 13, 12, 11, 10, 9, 8, 7, 6, 5, 4, 3, 2, 1, 0]) Z Z Z Z Z ?_)))))))))))
      refine Qi Z (ZD Z Z (Qm Z Z (Qa Z ?_)))
      refine QC (g := 72) Z (fun h9 => ?_) (fun h9 => ?_)
      ·try rw [h9]
       try simp only [qA] at h9
       refine Qi Z (Qj Z Z (Qi Z (QR (ds0 := [9, 8, 7, 6, 5, 4, 3, 2, 1, 0]) Z Z Z Z Z (Qi Z (Qa Z (Qi Z (Xv Z Z (Qm Z Z (Qa Z ?_)))))))))
       refine QC (g := 78) Z (fun h10 => ?_) (fun h10 => ?_)
       ·try rw [h10]
        try simp only [qA] at h10
        refine Qi Z (Qj Z Z (Qi Z (QR (ds0 := [2, 1, 0]) Z Z Z Z Z (Qi Z (Qa Z (Qi Z (QP (ds0 := [2, 1, 0]) (Z0 hl) Z Z (.inr Z) Z Z (Qi Z (ZD Z Z (Qm Z Z (Qa Z ?_)))))))))))
        refine hK _ _ (Qb (kp1 Z) ?_)
        refine Qv (Qt Z ?_)
        first | (rw [Xk (by omega)]; done) | (rw [Z6 (by omega) (by omega) (by omega)]; simp_all; done) | (rw [Z6 (by omega) (by omega) (by omega)]; simp_all; omega)
       ·try rw [h10]
        try simp only [qA] at h10
        refine Qs Z (Qs Z (Qs Z (Qs Z (Qs Z (Qm Z Z (Qa Z (hK _ _ (Qb (kp1 Z) ?_))))))))
        refine Qv (Qt Z ?_)
        first | (rw [Xk (by omega)]; done) | (rw [Z6 (by omega) (by omega) (by omega)]; simp_all; done) | (rw [Z6 (by omega) (by omega) (by omega)]; simp_all; omega)
      ·try rw [h9]
       try simp only [qA] at h9
       refine Qs Z (Qs Z (Qs Z (Qs Z (Qm Z Z (Qa Z (Qs Z (Qs Z (Qs Z (Qs Z (Qs Z (Qm Z Z ?_)))))))))))
       refine Qa Z (hK _ _ (Qb (kp1 Z) ?_))
       refine Qv (Qt Z ?_)
       first | (rw [Xk (by omega)]; done) | (rw [Z6 (by omega) (by omega) (by omega)]; simp_all; done) | (rw [Z6 (by omega) (by omega) (by omega)]; simp_all; omega)
     ·try rw [h8]
      try simp only [qA] at h8
      refine Qs Z (Qs Z (Qs Z (Qs Z (Qs Z (Qs Z (Qs Z (Qm Z Z (Qa Z (Qs Z (Qs Z (Qs Z ?_)))))))))))
      refine Qs Z (Qm Z Z (Qa Z (Qs Z (Qs Z (Qs Z (Qs Z (Qs Z (Qm Z Z (Qa Z (hK _ _ (Qb (kp1 Z) ?_)))))))))))
      refine Qv (Qt Z ?_)
      first | (rw [Xk (by omega)]; done) | (rw [Z6 (by omega) (by omega) (by omega)]; simp_all; done) | (rw [Z6 (by omega) (by omega) (by omega)]; simp_all; omega)
theorem Qb1 {w : Qq} (hw : WSm w) {l : List StepT} (hl : l.length <= 10000000) {t : TermT} {c : Int} : Ok Tryz.prog 35 [ZY w, Zl l, .agg (Qch t), .int .i64 c] (dOS (Yu w l t c)) := by
 refine Ok.ofT ZT Tryz.func35 Qud (Nat.le_of_ble_eq_true Z) ?_
 show TW _ _ tf35.body _ _
 refine Qf fun K hK => Zs Z Z Z (Zs Z Z Z (Qa Z (Qa Z (hK _ _ (Qb (kp4 Z Z Z Z) ?_)))))
 refine QD ?_ -- 0
 refine Qf fun K hK => Qa Z (Yd Z Z (Qa Z ?_))
 refine QC (g := 14) Z (fun h1 => ?_) (fun h1 => ?_)
 ·try rw [h1]
  try simp only [qA] at h1
  refine Qs Z (Qs Z (Qs Z (Qm Z Z (Qa Z (Qs Z (Qs Z (Qs Z (Qs Z (Qs Z (Qs Z (Qm Z Z ?_)))))))))))
  refine hK _ _ (Qb (kp5 Z Z Z Z Z) ?_)
  refine Zt Z (Qf fun K hK => Qa Z (Qa Z (hK _ _ (Qb (kp2 Z Z) ?_))))
  refine Qv (Qk ?_)
  rw [QcH (by omega)]
  exact QW rfl rfl ⟨rfl, rfl⟩
 ·try rw [h1]
  try simp only [qA] at h1
  refine Qi Z (Qj Z Z (Qi Z (QB Z Z Z (Qi Z (Yd Z Z (Qm Z Z (Qa Z ?_)))))))
  refine QC (g := 19) Z (fun h2 => ?_) (fun h2 => ?_)
  ·try rw [h2]
   try simp only [qA] at h2
   refine Qs Z (Qs Z (Qs Z (Qs Z (Qs Z (Qs Z (Qm Z Z (hK _ _ (Qb (kp5 Z Z Z Z Z) ?_))))))))
   refine Zt Z (Qf fun K hK => Qa Z (Qa Z (hK _ _ (Qb (kp2 Z Z) ?_))))
   refine Qv (Qk ?_)
   rw [QcH (by omega)]
   exact QW rfl rfl ⟨rfl, rfl⟩
  ·try rw [h2]
   try simp only [qA] at h2
   refine Qi Z (Qj Z Z (Qi Z (QB Z Z Z (Qi Z (Qj Z Z (Qi Z (QB Z Z Z (Qi Z ?_))))))))
   first | refine QQ rfl QU ?_ | refine QQ rfl rfl ?_
   refine Qi Z (Qfb Z Z (Qm Z Z (hK _ _ (Qb (kp5 Z Z Z Z Z) ?_))))
   refine Qx Z (fun h3 => ?_) (fun h3 => ?_)
   ·try rw [h3]
    try simp only [qA] at h3
    refine Qf fun K hK => Qa Z (Qa Z (hK _ _ (Qb (kp2 Z Z) ?_)))
    refine Qv (Qk ?_)
    rw [QcH (by omega)]
    exact QW rfl rfl ⟨rfl, rfl⟩
   ·try rw [h3]
    try simp only [qA] at h3
    refine Qw (Qe (kp4 Z Z Z Z) (Qf fun K hK => QJ (cs := [_]) Z Z Z Z (Qa Z (Qj Z Z (QB Z Z Z (QG (ZQ hw hl) Z Z (.inr Z) (Qa Z (hK _ _ (Qb (kp4 Z Z Z Z) ?_)))))))))
    refine Qf fun K hK => Qj Z Z (QR (ds0 := [2, 0]) Z Z Z Z Z (Qa Z (Qa Z (Qj Z Z (QR (ds0 := [7, 6, 2, 0]) Z Z Z Z Z (Qb6 Z Z (X7 Z Z Z (Qa Z (QP (ds0 := [2, 0]) (Z0 hl) Z Z (.inr Z) Z Z (Qa Z ?_))))))))))
    refine QV Z Z (ZG Z (Xd (ds0 := []) Z Z Z Z Z Z Z Z Z Z (hK _ _ (Qb (kp3 Z Z Z) ?_))))
    refine QD ?_ -- 1
    refine Qf fun K hK => Qj Z Z (QB Z Z Z (ZD Z Z (Qa Z ?_)))
    refine QC (g := 47) Z (fun h4 => ?_) (fun h4 => ?_)
    ·try rw [h4]
     try simp only [qA] at h4
     refine Qs Z (Qs Z (Qs Z (Qs Z (Qm Z Z (hK _ _ (Qb (kp3 Z Z Z) ?_))))))
     refine Zt Z (Qf fun K hK => Qa Z (Qa Z (hK _ _ (Qb (kp2 Z Z) ?_))))
     refine Qv (Qk ?_)
     rw [Qbz (by first | exact .inl h4 | exact .inr h5)]
     exact QW rfl rfl ⟨rfl, rfl⟩
    ·try rw [h4]
     try simp only [qA] at h4
     refine Qi Z (Qj Z Z (Qi Z (QB Z Z Z (Qi Z (Qa Z (Qi Z (ZD Z Z (Qm Z Z (hK _ _ (Qb (kp3 Z Z Z) ?_))))))))))
     refine Qx Z (fun h5 => ?_) (fun h5 => ?_)
     ·try rw [h5]
      try simp only [qA] at h5
      refine Qf fun K hK => Qa Z (Qa Z (hK _ _ (Qb (kp2 Z Z) ?_)))
      refine Qv (Qk ?_)
      rw [Qbz (by first | exact .inl h4 | exact .inr h5)]
      exact QW rfl rfl ⟨rfl, rfl⟩
     ·try rw [h5]
      try simp only [qA] at h5
      refine Qw (Qe (kp2 Z Z) (Qf fun K hK => Qa Z (Qet (ds0 := [2, 1]) Z Z (fun _ h => ⟨QjV, h⟩) Z (.inl Z) (by simp) (by simp; omega) (by simp; omega) Z Z (QM (ds0 := [3, 2, 1]) (cs := [_, _, _, _]) Z Z Z Z Z Z (QI Z Z (Qbr (ds0 := [1]) Z Z (by simp [D.ids, D.sid]) ⟨_, rfl, rfl, rfl, rfl, rfl⟩ Z Z (by simp) Z Z (by simp; omega) (by simp; omega) Z Z (Qa Z (Qa Z (hK _ _ (Qb (kp2 Z Z) ?_))))))))))
      refine Qv ?_
      rw [Qhc (by omega) (Qgc (by omega) (by omega)) h4 h5]
      exact QgC rfl rfl rfl (by simp) (by simp [Zl, Qcg]) rfl rfl
theorem Qb0 {w : Qq} (hw : WSm w) {l : List StepT} (hl : l.length <= 10000000) {u p : Int} : Ok Tryz.prog 34 [ZY w, Zl l, .int .i64 u, .int .i64 p] (dOS (YM w l u p)) := by
 refine Ok.ofT ZT Tryz.func34 Quc (Nat.le_of_ble_eq_true Z) ?_
 show TW _ _ tf34.body _ _
 refine Qf fun K hK => Zs Z Z Z (Qa Z (Qa Z (hK _ _ (Qb (kp4 Z Z Z Z) ?_))))
 refine QD ?_ -- 0
 refine Qf fun K hK => Qa Z (Yd Z Z (Qa Z ?_))
 refine QC (g := 13) Z (fun h1 => ?_) (fun h1 => ?_)
 ·try rw [h1]
  try simp only [qA] at h1
  refine Qs Z (Qs Z (Qs Z (Qs Z (Qs Z (Qm Z Z (Qa Z (Qs Z (Qs Z (Qm Z Z (Qa Z (Qs Z ?_)))))))))))
  refine Qs Z (Qs Z (Qs Z (Qs Z (Qs Z (Qs Z (Qs Z (Qs Z (Qm Z Z (hK _ _ (Qb (kp5 Z Z Z Z Z) ?_))))))))))
  refine Zt Z (Qf fun K hK => Qa Z (Qa Z (hK _ _ (Qb (kp2 Z Z) ?_))))
  refine Qv (Qk ?_)
  rw [QeE (by omega)]
  exact QW rfl rfl ⟨rfl, rfl⟩
 ·try rw [h1]
  try simp only [qA] at h1
  refine Qi Z (Qa Z (Qi Z (Qj Z Z (Qi Z (QB Z Z Z (Qi Z ?_))))))
  first | refine QQ rfl QU ?_ | refine QQ rfl rfl ?_
  refine Qi Z (Qfb Z Z (Qm Z Z (Qa Z ?_)))
  refine QC (g := 20) Z (fun h2 => ?_) (fun h2 => ?_)
  ·try rw [h2]
   try simp only [qA] at h2
   refine Qs Z (Qs Z (Qm Z Z (Qa Z (Qs Z (Qs Z (Qs Z (Qs Z (Qs Z (Qs Z (Qs Z (Qs Z ?_)))))))))))
   refine Qs Z (Qm Z Z (hK _ _ (Qb (kp5 Z Z Z Z Z) ?_)))
   refine Zt Z (Qf fun K hK => Qa Z (Qa Z (hK _ _ (Qb (kp2 Z Z) ?_))))
   refine Qv (Qk ?_)
   rw [QeE (by omega)]
   exact QW rfl rfl ⟨rfl, rfl⟩
  ·try rw [h2]
   try simp only [qA] at h2
   refine Qi Z (Qa Z (Qi Z (Yd Z Z (Qm Z Z (Qa Z ?_)))))
   refine QC (g := 24) Z (fun h3 => ?_) (fun h3 => ?_)
   ·try rw [h3]
    try simp only [qA] at h3
    refine Qs Z (Qs Z (Qs Z (Qs Z (Qs Z (Qs Z (Qs Z (Qs Z (Qs Z (Qm Z Z (hK _ _ (Qb (kp5 Z Z Z Z Z) ?_)))))))))))
    refine Zt Z (Qf fun K hK => Qa Z (Qa Z (hK _ _ (Qb (kp2 Z Z) ?_))))
    refine Qv (Qk ?_)
    rw [QeE (by omega)]
    exact QW rfl rfl ⟨rfl, rfl⟩
   ·try rw [h3]
    try simp only [qA] at h3
    refine Qi Z (Qa Z (Qi Z (Qj Z Z (Qi Z (QB Z Z Z (Qi Z (Qa Z (Qi Z (QK Z Z Z (by omega) (ZE (by omega) (by omega)) Z (Qi Z (Q9 Z Z ?_)))))))))))
    refine Qi Z (QB Z Z Z (Qi Z ?_))
    first | refine QQ rfl QU ?_ | refine QQ rfl rfl ?_
    refine Qi Z (Qfb Z Z (Qm Z Z (hK _ _ (Qb (kp5 Z Z Z Z Z) ?_))))
    refine Qx Z (fun h4 => ?_) (fun h4 => ?_)
    ·try rw [h4]
     try simp only [qA] at h4
     refine Qf fun K hK => Qa Z (Qa Z (hK _ _ (Qb (kp2 Z Z) ?_)))
     refine Qv (Qk ?_)
     rw [Qmr (by omega) (by omega) (by omega)]
     exact QW rfl rfl ⟨rfl, rfl⟩
    ·try rw [h4]
     try simp only [qA] at h4
     refine Qw (Qe (kp4 Z Z Z Z) (Qf fun K hK => Qa Z (Qa Z (Qi2 Z (QfH (by omega) (by have := hw.cs _ (List.getElem_mem (show u.toNat < w.length by omega)); omega)) (Qo0 Z Z (by omega) Z (Qa Z (QG (Z0 hl) Z Z (.inr Z) (QX Z Z Z (QV Z Z (ZG Z ?_))))))))))
     refine Q7 Z Z Z Z Z Z Z Z (hK _ _ (Qb (kp3 Z Z Z) ?_))
     refine QD ?_ -- 1
     refine Qf fun K hK => QJ (cs := [_]) Z Z Z Z (Qa Z (QJ (cs := [_, _, _, _]) Z Z Z Z (QG (Qc7 (s := Qq7 l u p) hw hl) Z Z (.inr Z) (Yk Z (hK _ _ (Qb (kp3 Z Z Z) ?_))))))
     refine Qx Z (fun h5 => ?_) (fun h5 => ?_)
     ·try rw [h5]
      try simp only [qA] at h5
      refine Qf fun K hK => Qa Z (Qa Z (hK _ _ (Qb (kp2 Z Z) ?_)))
      refine Qv (Qk ?_)
      rw [Qnm h5]
      exact QW rfl rfl ⟨rfl, rfl⟩
     ·try rw [h5]
      try simp only [qA] at h5
      refine Qw (Qe (kp2 Z Z) (Qf fun K hK => Qa Z (Qet (ds0 := [2, 1]) Z Z (fun _ h => ⟨QjV, h⟩) Z (.inl Z) (by simp) (by simp; omega) (by simp; omega) Z Z (QM (ds0 := [3, 2, 1]) (cs := [_, _, _, _]) Z Z Z Z Z Z (QI Z Z (Qbr (ds0 := [1]) Z Z (by simp [D.ids, D.sid]) ⟨_, rfl, rfl, rfl, rfl, rfl⟩ Z Z (by simp) Z Z (by simp; omega) (by simp; omega) Z Z (Qa Z (Qa Z (hK _ _ (Qb (kp2 Z Z) ?_))))))))))
      refine Qv ?_
      rw [Qmu (by omega) (by omega) (by omega) (by omega) h5]
      exact QgC rfl rfl rfl (by simp) (by simp [Zl, Qcg, Qq7]; rfl) rfl rfl
theorem Y7 {w : Qq} (hw : WSm w) {l : List StepT} (hl : l.length <= 10000000) {inc : List TermT} (hi : inc.length <= 1000000) : Ok Tryz.prog 30 [ZY w, Zl l, Zz inc] (.bool (Qb2 w l inc)) := by
 refine Ok.ofT ZT Tryz.func30 Qt8 (Nat.le_of_ble_eq_true Z) ?_
 show TW _ _ tf30.body _ _
 refine Qf fun K hK => Zs Z Z Z (Qa Z (hK _ _ (Qb (kp3 Z Z Z) ?_)))
 refine QD ?_ -- 0
 refine Qf fun K hK => Qa Z (hK _ _ (Qb (kp4 Z Z Z Z) ?_))
 refine Qz ?_
 refine Zn (ι := Nat) (fun i => ⟨[(1, Zl l), (2, Zz inc), (3, .ref 3 0 0), (7, .int .i64 i)], [(3, ⟨[[.sl ((w).map YA)]], 1, 26, true⟩)]⟩) (fun i => i <= inc.length /\ (inc.take i).all (fun t => decide (QaE (Zi w l t.u) t.m = 2)) = true) (fun i => inc.length - i) 0 ?_ ?_ ?_
 ·exact Q3 (l := [1, 2, 3, 7]) (lH := [3]) (kp4 rfl rfl rfl rfl) (Qg rfl Qn) rfl rfl rfl
 ·exact ⟨Nat.zero_le _, by simp⟩
 intro i hI
 try dsimp only
 refine QD ?_ -- 1
 refine Qf fun K hK => Qa Z (Qa Z ?_)
 first | refine QQ rfl QU ?_ | refine QQ rfl rfl ?_
 refine Yd Z Z (hK _ _ (Qb (kp5 Z Z Z Z Z) ?_))
 refine Qx Z (fun h1 => ?_) (fun h1 => ?_)
 ·try rw [h1]
  try simp only [qA] at h1
  refine Qw (Qe (kp4 Z Z Z Z) ?_)
  refine QD ?_ -- 2
  refine Qz (Qf fun K hK => QM (ds0 := [7, 1, 0]) (cs := [_]) Z Z Z Z Z Z (Qa Z (Qa Z (Qa Z (QK Z Z Z (by omega) (QT (by omega)) Z (Q9 Z Z (QR (ds0 := [7, 1, 0]) Z Z Z Z Z (QP (ds0 := [1, 0]) (ZQ hw hl) Z Z (.inr Z) Z Z (Qa Z (Qa Z ?_))))))))))
  refine QK Z Z Z (by omega) (QT (by omega)) Z (Q9 Z Z (QR (ds0 := [1, 0]) Z Z Z Z Z (QP (ds0 := [0]) (X1) Z Z (.inr Z) Z Z (Xv Z Z (hK _ _ (Qb (kp5 Z Z Z Z Z) ?_))))))
  refine Qx Z (fun h2 => ?_) (fun h2 => ?_)
  ·try rw [h2]
   try simp only [qA] at h2
   refine Qf fun K hK => Qa Z (hK _ _ (Qb (kp1 Z) ?_))
   refine Qv (Qu (Qk (Q2 (Qu (Qk (Qt Z ?_))))))
   rw [Qb2, XY (i := i) (by omega) (by simpa using h2)]
  ·try rw [h2]
   try simp only [qA] at h2
   refine Qw (Qh (Qe (kp4 Z Z Z Z) (QO fun K hK => Qa Z (QX Z Z (by first | exact Qr (by omega) (by omega) | rfl) (Qa Z (hK _ ?_))))))
   refine Ql (i + 1) ?_ ?_ ?_
   ·exact Q3 (l := [1, 2, 3, 7]) (lH := [3]) (kp4 rfl rfl rfl rfl) (Qg rfl Qn) rfl rfl rfl
   ·exact ⟨by omega, Yj (by omega) hI.2 (by simpa using h2)⟩
   ·first | omega | (simp only; omega) | (dsimp only; omega)
 ·try rw [h1]
  try simp only [qA] at h1
  refine Zk (QN (Qy (QF (Qe (Q0) (Qf fun K hK => Qa Z (hK _ _ (Qb (kp1 Z) ?_)))))))
  refine Qv (Qt Z ?_)
  rw [Qb2, XP (i := i) (by omega) hI.2]
theorem Qc6 {w : Qq} (hw : WSm w) {l : List StepT} (hl : l.length <= 10000000) {inc : List TermT} (hi : inc.length <= 1000000) : Ok Tryz.prog 100 [ZY w, Zl l, Zz inc] (.int .i64 (Qgs w l inc)) := by
 refine Ok.ofT ZT Tryz.func100 Qs7 (Nat.le_of_ble_eq_true Z) ?_
 show TW _ _ tf100.body _ _
 refine Qf fun K hK => Zs Z Z Z (Qa Z (hK _ _ (Qb (kp3 Z Z Z) ?_)))
 refine Qf fun K hK => Qa Z (hK _ _ (Qb (kp4 Z Z Z Z) ?_))
 refine QD ?_ -- 0
 refine Qf fun K hK => Qa Z (hK _ _ (Qb (kp5 Z Z Z Z Z) ?_))
 refine Qz ?_
 refine Zn (ι := Nat × Int) (fun ⟨i, a⟩ => ⟨[(1, Zl l), (2, Zz inc), (3, .ref 3 0 0), (7, .int .i64 a), (8, .int .i64 i)], [(3, ⟨[[.sl ((w).map YA)]], 1, 26, true⟩)]⟩) (fun ⟨i, a⟩ => i <= inc.length /\ XD (Zi w l) inc (-1) = XD (Zi w l) (inc.drop i) a) (fun ⟨i, a⟩ => inc.length - i) (0, -1) ?_ ?_ ?_
 ·exact Q3 (l := [1, 2, 3, 7, 8]) (lH := [3]) (kp5 rfl rfl rfl rfl rfl) (Qg rfl Qn) rfl rfl rfl
 ·exact ⟨Nat.zero_le _, by simp⟩
 intro ⟨i, a⟩ hI
 dsimp only at hI
 try dsimp only
 refine QD ?_ -- 1
 refine Qf fun K hK => Qa Z (Qa Z ?_)
 first | refine QQ rfl QU ?_ | refine QQ rfl rfl ?_
 refine Yd Z Z (hK _ _ (Qb (kp6 Z Z Z Z Z Z) ?_))
 refine Qx Z (fun h1 => ?_) (fun h1 => ?_)
 ·try rw [h1]
  try simp only [qA] at h1
  refine Qw (Qe (kp5 Z Z Z Z Z) ?_)
  refine QD ?_ -- 2
  refine Qz (Qf fun K hK => QM (ds0 := [6, 0]) (cs := [_]) Z Z Z Z Z Z (Qa Z (Qa Z (Qa Z (QK Z Z Z (by omega) (QT (by omega)) Z (Q9 Z Z (QR (ds0 := [6, 0]) Z Z Z Z Z (QP (ds0 := [0]) (ZQ hw hl) Z Z (.inr Z) Z Z (Qa Z (Qa Z ?_))))))))))
  refine QK Z Z Z (by omega) (QT (by omega)) Z (Q9 Z Z (QR (ds0 := [0]) Z Z Z Z Z (QP (ds0 := []) (X1) Z Z (.inr Z) Z Z (hK _ _ (Qb (kp6 Z Z Z Z Z Z) ?_)))))
  refine Qz (Qf fun K hK => ZD Z Z (Qa Z (hK _ _ (Qb (kp7 Z Z Z Z Z Z Z) ?_))))
  refine Qx Z (fun h2 => ?_) (fun h2 => ?_)
  ·try rw [h2]
   try simp only [qA] at h2
   refine Qf fun K hK => Qa Z (hK _ _ (Qb (kp1 Z) ?_))
   refine Qv (Qu (Qu (Qk (Q2 (Qu (Qk (QE Z ?_)))))))
   rw [Qgs, hI.2, QbM (by omega), if_pos h2]
  ·try rw [h2]
   try simp only [qA] at h2
   refine Qf fun K hK => ZD Z Z (Qa Z (hK _ _ (Qb (kp6 Z Z Z Z Z Z) ?_)))
   refine Qx Z (fun h3 => ?_) (fun h3 => ?_)
   ·try rw [h3]
    try simp only [qA] at h3
    refine QD ?_ -- 3
    refine Qf fun K hK => Qa Z (Qfb Z Z (hK _ _ (Qb (kp5 Z Z Z Z Z) ?_)))
    refine Qx Z (fun h4 => ?_) (fun h4 => ?_)
    ·try rw [h4]
     try simp only [qA] at h4
     refine Qf fun K hK => Qa Z (hK _ _ (Qb (kp1 Z) ?_))
     refine Qv (Qk (Qu (Qu (Qk (Q2 (Qu (Qk (QE Z ?_))))))))
     rw [Qgs, hI.2, QbM (by omega), if_neg h2, if_pos h3, if_pos h4]
    ·try rw [h4]
     try simp only [qA] at h4
     refine Qw (Qe (kp4 Z Z Z Z) (QO fun K hK => Qa Z (Qa Z (QK Z Z Z (by omega) (QT (by omega)) Z (Q9 Z Z (QB Z Z Z (Qa Z (hK _ ?_))))))))
     refine Qh (Qh (Qe (kp5 Z Z Z Z Z) (QO fun K hK => Qa Z (QX Z Z (by first | exact Qr (by omega) (by omega) | rfl) (Qa Z (hK _ ?_))))))
     refine Ql (i + 1, (inc[i]'(by omega)).u) ?_ ?_ ?_
     ·exact Q3 (l := [1, 2, 3, 7, 8]) (lH := [3]) (kp5 rfl rfl rfl rfl rfl) (Qg rfl Qn) rfl rfl rfl
     ·exact ⟨by omega, by rw [hI.2, QbM (by omega), if_neg h2, if_pos h3, if_neg h4]⟩
     ·show inc.length - (i + 1) < inc.length - i; omega
   ·try rw [h3]
    try simp only [qA] at h3
    refine Qw (Qh (Qh (Qe (kp5 Z Z Z Z Z) (QO fun K hK => Qa Z (QX Z Z (by first | exact Qr (by omega) (by omega) | rfl) (Qa Z (hK _ ?_)))))))
    refine Ql (i + 1, a) ?_ ?_ ?_
    ·exact Q3 (l := [1, 2, 3, 7, 8]) (lH := [3]) (kp5 rfl rfl rfl rfl rfl) (Qg rfl Qn) rfl rfl rfl
    ·exact ⟨by omega, by rw [hI.2, QbM (by omega), if_neg h2, if_neg h3]⟩
    ·show inc.length - (i + 1) < inc.length - i; omega
 ·try rw [h1]
  try simp only [qA] at h1
  refine Zk (QN (Qy (QF (Qe (kp1 Z) (Qf fun K hK => Qa Z (Qa Z (hK _ _ (Qb (kp1 Z) ?_))))))))
  refine Qv (QE Z ?_)
  rw [Qgs, hI.2, QjL (by omega)]
theorem Qc4 {w : Qq} (hw : WSm w) {db : List (List TermT)} (hd : db.length <= 100000000) (hi : ∀ x ∈ db, x.length <= 1000000) {l : List StepT} (hl : l.length <= 10000000) : Ok Tryz.prog 75 [ZY w, dDb db, Zl l] (.tup [.int .i64 (Yv w db l).1, .int .i64 (Yv w db l).2]) := by
 refine Ok.ofT ZT Tryz.func75 QuM (Nat.le_of_ble_eq_true Z) ?_
 show TW _ _ tf75.body _ _
 refine Qf fun K hK => Zs Z Z Z (Qa Z (Qa Z (hK _ _ (Qb (kp3 Z Z Z) ?_))))
 refine QD ?_ -- 0
 refine Qf fun K hK => Qa Z (hK _ _ (Qb (kp4 Z Z Z Z) ?_))
 refine Qz ?_
 refine Zn (ι := Nat) (fun i => ⟨[(1, dDb db), (2, Zl l), (3, .ref 3 0 0), (8, .int .i64 i)], [(3, ⟨[[.sl ((w).map YA)]], 1, 26, true⟩)]⟩) (fun i => i <= db.length /\ Yv w db l = Xj w l i (db.drop i)) (fun i => db.length - i) 0 ?_ ?_ ?_
 ·exact Q3 (l := [1, 2, 3, 8]) (lH := [3]) (kp4 rfl rfl rfl rfl) (Qg rfl Qn) rfl rfl rfl
 ·exact ⟨Nat.zero_le _, rfl⟩
 intro i hI
 try dsimp only
 refine QD ?_ -- 1
 refine Qf fun K hK => Qa Z (Qa Z ?_)
 first | refine QQ rfl QU ?_ | refine QQ rfl rfl ?_
 refine Yd Z Z (hK _ _ (Qb (kp5 Z Z Z Z Z) ?_))
 refine Qx Z (fun h1 => ?_) (fun h1 => ?_)
 ·try rw [h1]
  try simp only [qA] at h1
  refine Qw (Qe (kp4 Z Z Z Z) ?_)
  refine QD ?_ -- 2
  refine Qz ?_
  refine QD ?_ -- 3
  refine Qf fun K hK => QM (ds0 := [0]) (cs := [_]) Z Z Z Z Z Z (Qa Z (Qa Z (Qa Z (QK Z Z Z (by omega) (QT (by omega)) Z (QR (ds0 := [0]) Z Z Z Z Z (QP (ds0 := []) (Y7 hw hl (hi _ (List.getElem_mem (by omega)))) Z Z (.inr Z) Z Z (hK _ _ (Qb (kp5 Z Z Z Z Z) ?_))))))))
  refine Qx Z (fun h2 => ?_) (fun h2 => ?_)
  ·try rw [h2]
   try simp only [qA] at h2
   refine Qf fun K hK => Qa Z (Qa Z (Qa Z (hK _ _ (Qb (kp2 Z Z) ?_))))
   refine Qv (Qk (Qu (Qk (Q2 (Qu (Qk ?_))))))
   rw [hI.2, QkU (by omega), if_pos h2]
   exact QW rfl rfl ⟨rfl, rfl⟩
  ·try rw [h2]
   try simp only [qA] at h2
   refine Qw (Qe (kp4 Z Z Z Z) (Qf fun K hK => QM (ds0 := [1, 0]) (cs := [_]) Z Z Z Z Z Z (Qa Z (Qa Z (Qa Z (QK Z Z Z (by omega) (QT (by omega)) Z (QR (ds0 := [1, 0]) Z Z Z Z Z (QP (ds0 := [0]) (Qc6 hw hl (hi _ (List.getElem_mem (by omega)))) Z Z (.inr Z) Z Z (Qa Z (hK _ _ (Qb (kp5 Z Z Z Z Z) ?_)))))))))))
   refine Qf fun K hK => Qa Z (Qfb Z Z (hK _ _ (Qb (kp6 Z Z Z Z Z Z) ?_)))
   refine Qx Z (fun h3 => ?_) (fun h3 => ?_)
   ·try rw [h3]
    try simp only [qA] at h3
    refine Qf fun K hK => Qa Z (Qa Z (Qa Z (Qa Z (hK _ _ (Qb (kp2 Z Z) ?_)))))
    refine Qv (Qu (Qk (Q2 (Qu (Qk ?_)))))
    rw [hI.2, QkU (by omega), if_neg (by rw [h2]; simp), if_pos h3]
    exact QW rfl rfl ⟨rfl, rfl⟩
   ·try rw [h3]
    try simp only [qA] at h3
    refine Qw (Qh (Qe (kp4 Z Z Z Z) (QO fun K hK => Qa Z (QX Z Z (by first | exact Qr (by omega) (by omega) | rfl) (Qa Z (hK _ ?_))))))
    refine Ql (i + 1) ?_ ?_ ?_
    ·exact Q3 (l := [1, 2, 3, 8]) (lH := [3]) (kp4 rfl rfl rfl rfl) (Qg rfl Qn) rfl rfl rfl
    ·exact ⟨by omega, by rw [hI.2, QkU (by omega), if_neg (by rw [h2]; simp), if_neg h3]⟩
    ·first | omega | (simp only; omega) | (dsimp only; omega)
 ·try rw [h1]
  try simp only [qA] at h1
  refine Zk (QN (Qy (QF (Qe (Q0) (Qf fun K hK => Qa Z (Qa Z (hK _ _ (Qb (kp2 Z Z) ?_))))))))
  refine Qv ?_
  rw [hI.2, QpY (by omega)]
  exact QW rfl rfl ⟨rfl, rfl⟩
end Go.Proofs
namespace M25
open Go Go.Abs M3
def Qpa (w : Qq) (i : Nat) : List (List TermT) := ((Qd5 w).take i).map RowT.t
theorem Qh4 {w : Qq} {i : Nat} (h : i < (Qd5 w).length) : Qpa w (i + 1) = Qpa w i ++ [(Qd5 w)[i].t] := by
 rw [Qpa, List.take_succ_eq_append_getElem h, List.map_append]; rfl
theorem Qqn {w : Qq} {i : Nat} (h : (Qd5 w).length <= i) : Qpa w i = mDB w := by rw [Qpa, List.take_of_length_le h]; rfl
theorem Qpb (w : Qq) (i : Nat) : (Qpa w i).length <= (Qd5 w).length := by rw [Qpa, List.length_map]; exact List.length_take_le' ..
theorem Qo5 {w : Qq} (hw : WSm w) (h0 : 0 < w.length) : (Qd5 w).length <= 1600000 := by
 have := (QcB hw h0 w.length (Nat.le_refl _)).2
 have := hw.len
 rw [Qd5]; omega
def Qrb (w : Qq) (l : List Int) (j : Nat) : TermT := ⟨mPl (l.getD (2 * j) 0) w.length, 1 + mPl (l.getD (2 * j + 1) 0) (YC w (mPl (l.getD (2 * j) 0) w.length))⟩
def QgX (w : Qq) (l : List Int) : Nat -> List TermT
 | 0 => []
 | j + 1 => QgX w l j ++ [Qrb w l j]
theorem Qck (w : Qq) (l : List Int) : ∀ j, (QgX w l j).length = j
 | 0 => rfl
 | j + 1 => by rw [QgX, List.length_append, Qck w l j]; rfl
theorem Qsg (w : Qq) (l : List Int) (j : Nat) : QgX w l (j + 1) = QgX w l j ++ [Qrb w l j] := rfl
def Qrl (w : Qq) (l : List Int) : List TermT := (Qdj w (QgX w l (min 4 (l.length / 2)))).getD []
theorem Qrm (w : Qq) (l : List Int) : IncOk w (Qrl w l) := by
 unfold Qrl
 cases h : Qdj w (QgX w l (min 4 (l.length / 2))) with
 | none => exact IncOk.nil w
 | some t => exact Qea h
theorem QnE {l : List Int} {k : Int} {j : Nat} (e : k.toNat = j) (h : j < l.length) : l[k.toNat]'(by omega) = l.getD j 0 := by
 subst e; rw [List.getD_eq_getElem?_getD, List.getElem?_eq_getElem h]; rfl
theorem Qpu {w : Qq} {l : List Int} {j : Nat} (h : 2 * j + 1 < l.length) : Qrb w l j = ⟨mPl (l[(2 * (j : Int)).toNat]'(by omega)) w.length, 1 + mPl (l[(2 * (j : Int) + 1).toNat]'(by omega)) (YC w (mPl (l[(2 * (j : Int)).toNat]'(by omega)) w.length))⟩ := by
 rw [QnE (j := 2 * j) (by omega) (by omega), QnE (j := 2 * j + 1) (by omega) (by omega)]; rfl
theorem Qqa (v : Int) {n : Int} (h : n <= 131071) : IntKind.i64.wrap (1 + mPl v n) = 1 + mPl v n := by
 have h0 := QhB (v := v) (n := n)
 by_cases h1 : 1 <= n
 ·have := QhA (v := v) h1; exact Qr (by omega) (by omega)
 ·have : mPl v n = 0 := by rw [mPl, if_pos (by omega)]
  rw [this]; rfl
theorem QoD {w : Qq} {db : List (List TermT)} : ∀ (n : Nat) (out : List StepT), (Qfj w db n out).1.length <= out.length + n
 | 0, out => Nat.le_refl _
 | n + 1, out => by
  rw [Qfj]
  split
  ·simp
  ·refine Nat.le_trans (QoD n _) ?_
   have := Qhb w out ⟨(Yv w db out).2, Qeb w (db.getD (Yv w db out).1.toNat []) (Yv w db out).2⟩ (Yv w db out).1
   omega
theorem Qkc {v : Int} (h : (v + 1).toNat <= 61) : IntKind.i64.wrap ((1 : Int) * 2 ^ min (v + 1).toNat IntKind.i64.bits) = 2 ^ (v + 1).toNat := by
 rw [show min (v + 1).toNat IntKind.i64.bits = (v + 1).toNat from by simp only [IntKind.bits]; omega, Int.one_mul]
 have := QiG (i := (v + 1).toNat) (by omega)
 exact Qr (by omega) (by omega)
theorem QoI {α : Type} {f : α -> List D} {l : List α} {k : Int} (h : k = (l.length : Int)) : ((l.map f).take k.toNat).drop (((0 : Nat) : Int)).toNat = l.map f := by
 subst h; rw [Int.toNat_natCast, List.take_of_length_le (by simp)]; rfl
end M25
namespace Go.Proofs
open Go Go.Abs M3 M25
set_option linter.unusedVariables false
set_option linter.unusedSimpArgs false
theorem Qdn {w : Qq} (hw : WSm w) {db : List (List TermT)} (hd : db.length <= 100000000) (hi : ∀ x ∈ db, x.length <= 1000000) {l : List StepT} (hl : l.length <= 1000000) : Ok Tryz.prog 44 [ZY w, dDb db, Zl l] (.tup [Zl (Qgu w db l).1, .int .i64 (Qgu w db l).2]) := by
 refine Ok.ofT ZT Tryz.func44 Quk (Nat.le_of_ble_eq_true Z) ?_
 show TW _ _ tf44.body _ _
 have hn := hw.len
 refine Qf fun K hK => Zs Z Z Z (Qa Z (Qa Z (hK _ _ (Qb (kp3 Z Z Z) ?_))))
 refine Qf fun K hK => Qa Z (Qm2 Z Z (fun _ h => Ql9 QjV h) Z (.inl Z) (by simp) (by simp; omega) (by simp; omega) (Qa Z (hK _ _ (Qb (kp3 Z Z Z) ?_))))
 refine QD ?_ -- 0
 refine Qf fun K hK => Qa Z (hK _ _ (Qb (kp4 Z Z Z Z) ?_))
 refine Qz ?_
 refine Zn (ι := Nat × List StepT) (fun ⟨n, out⟩ => ⟨[(1, dDb db), (3, .ref 3 0 0), (8, Zl out), (9, .int .i64 n)], [(3, ⟨[[.sl ((w).map YA)]], 1, 26, true⟩)]⟩) (fun ⟨n, out⟩ => n <= w.length * 18 + 1 /\ out.length <= l.length + n /\ Qgu w db l = Qfj w db (w.length * 18 + 1 - n) out) (fun ⟨n, out⟩ => w.length * 18 + 1 - n) (0, l) ?_ ?_ ?_
 ·exact le_trans (Qge (l := [1, 3, 9]) (lH := [3]) 13 8 (kp3 rfl rfl rfl) (Qg rfl Qn) rfl rfl rfl (by simp) rfl rfl rfl rfl) (Q3 (l := [1, 3, 8, 9]) (lH := [3]) (kp4 rfl rfl rfl rfl) (Qg rfl Qn) rfl rfl rfl)
 ·exact ⟨Nat.zero_le _, Nat.le_refl _, rfl⟩
 intro ⟨n, out⟩ hI
 obtain ⟨hI1, hI2, hI3⟩ := hI
 try dsimp only at hI1 hI2 hI3
 try dsimp only
 refine QD ?_ -- 1
 refine Qf fun K hK => Qa Z (Qj Z Z (QB Z Z Z ?_))
 first | refine QQ rfl QU ?_ | refine QQ rfl rfl ?_
 refine QqP Z Z (by first | exact Qr (by omega) (by omega) | rfl) (Qqe Z Z (hK _ _ (Qb (kp5 Z Z Z Z Z) ?_)))
 refine Qx Z (fun h1 => ?_) (fun h1 => ?_)
 ·try rw [h1]
  try simp only [qA] at h1
  refine Qw (Qe (kp4 Z Z Z Z) ?_)
  refine QD ?_ -- 2
  refine Qz (Qf fun K hK => QJ (cs := [_]) Z Z Z Z (Qa Z (Qa Z (QG (Qc4 hw hd hi (by omega)) Z Z (.inl Z) (Qa Z (Zc Z Z (Zc Z Z (Qa Z (Qa Z (hK _ _ (Qb (kp6 Z Z Z Z Z Z) ?_)))))))))))
  refine QD ?_ -- 3
  refine Qf fun K hK => Qa Z (Yd Z Z (hK _ _ (Qb (kp7 Z Z Z Z Z Z Z) ?_)))
  refine Qx Z (fun h2 => ?_) (fun h2 => ?_)
  ·try rw [h2]
   try simp only [qA] at h2
   try have hu := QjX h2
   refine Qf fun K hK => Qa Z (Qa Z (Qa Z (Qa Z (hK _ _ (Qb (kp2 Z Z) ?_)))))
   refine Qv (Qk (Qu (Qk (Q2 (Qu (Qk ?_))))))
   rw [hI3, QmQ h2 (by omega)]
   exact QW rfl rfl ⟨rfl, rfl⟩
  ·try rw [h2]
   try simp only [qA] at h2
   try have hu := QjX h2
   refine Qw (Qe (kp6 Z Z Z Z Z Z) (QO fun K hK => QM (ds0 := [4, 3, 2, 1, 0]) (cs := [_]) Z Z Z Z Z Z (Qa Z (Qa Z (QM (ds0 := [7, 6, 4, 3, 2, 1, 0]) (cs := [_]) Z Z Z Z Z Z (Qa Z (Qa Z (QK Z Z Z (by omega) (ZE (by omega) (by omega)) Z (QR (ds0 := [7, 6, 4, 3, 2, 1, 0]) Z Z Z Z Z (Qa Z ?_))))))))))
   refine QP (ds0 := [6, 4, 3, 2, 1, 0]) (Y6 hw (hi _ (List.getElem_mem (by omega)))) Z Z (.inr Z) Z Z (QV Z Z (Qa Z (QP (ds0 := [3, 2, 1, 0]) (Qb1 (t := ⟨(Yv w db out).2, Qeb w (db[(Yv w db out).1.toNat]'(by omega)) (Yv w db out).2⟩) hw (by omega)) Z Z (.inl Z) Z Z (Qa Z (Zc Z Z (Zc Z Z (Qa Z (hK _ ?_))))))))
   refine Qh (Qe (kp4 Z Z Z Z) (QO fun K hK => Qa Z (QX Z Z (by first | exact Qr (by omega) (by omega) | rfl) (Qa Z (hK _ ?_)))))
   refine Ql (n + 1, (Yu w out ⟨(Yv w db out).2, Qeb w (db[(Yv w db out).1.toNat]'(by omega)) (Yv w db out).2⟩ (Yv w db out).1).getD []) ?_ ?_ ?_
   ·exact Q3 (l := [1, 3, 8, 9]) (lH := [3]) (kp4 rfl rfl rfl rfl) (Qg rfl Qn) rfl rfl rfl
   ·exact ⟨by omega, by have := Qhb w out ⟨(Yv w db out).2, Qeb w (db[(Yv w db out).1.toNat]'(by omega)) (Yv w db out).2⟩ (Yv w db out).1; simp only; omega, by rw [hI3, QpW h2 (by omega) (by omega), show w.length * 18 + 1 - (n + 1) = w.length * 18 + 1 - n - 1 by omega]⟩
   ·show w.length * 18 + 1 - (n + 1) < w.length * 18 + 1 - n; omega
 ·try rw [h1]
  try simp only [qA] at h1
  refine Zk (QN (Qy (QF (Qe (kp1 Z) (Qf fun K hK => Qa Z (Qa Z (Qa Z (hK _ _ (Qb (kp2 Z Z) ?_)))))))))
  refine Qv ?_
  rw [hI3, show w.length * 18 + 1 - n = 0 by omega]
  exact QW rfl rfl ⟨rfl, rfl⟩
theorem Qbc {a b : List StepT} (ha : a.length <= 10000000) : Ok Tryz.prog 32 [Zl a, Zl b] (.bool (decide (a = b))) := by
 refine Ok.ofT ZT Tryz.func32 Qua (Nat.le_of_ble_eq_true Z) ?_
 show TW _ _ tf32.body _ _
 refine Qf fun K hK => Qa Z (hK _ _ (Qb (kp2 Z Z) ?_))
 refine QD ?_ -- 0
 refine Qf fun K hK => Qa Z ?_
 first | refine QQ rfl QU ?_ | refine QQ rfl rfl ?_
 refine Qa Z ?_
 first | refine QQ rfl QU ?_ | refine QQ rfl rfl ?_
 refine Xv Z Z (hK _ _ (Qb (kp3 Z Z Z) ?_))
 refine Qx Z (fun h1 => ?_) (fun h1 => ?_)
 ·try rw [h1]
  try simp only [qA] at h1
  refine Qf fun K hK => Qa Z (hK _ _ (Qb (kp1 Z) ?_))
  refine Qv (Qk (Qt Z ?_))
  rw [decide_eq_false fun e => h1 (by rw [e])]
 ·try rw [h1]
  try simp only [qA] at h1
  refine Qw (Qe (kp2 Z Z) ?_)
  refine QD ?_ -- 1
  refine Qf fun K hK => Qa Z (hK _ _ (Qb (kp3 Z Z Z) ?_))
  refine Qz ?_
  refine Zn (ι := Nat) (fun i => ⟨[(0, Zl a), (1, Zl b), (5, .int .i64 i)], []⟩) (fun i => i <= a.length /\ a.take i = b.take i) (fun i => a.length - i) 0 ?_ ?_ ?_
  ·exact Zd (kp3 rfl rfl rfl)
  ·exact ⟨Nat.zero_le _, by simp⟩
  intro i hI
  try dsimp only
  refine QD ?_ -- 2
  refine Qf fun K hK => Qa Z (Qa Z ?_)
  first | refine QQ rfl QU ?_ | refine QQ rfl rfl ?_
  refine Yd Z Z (hK _ _ (Qb (kp4 Z Z Z Z) ?_))
  refine Qx Z (fun h2 => ?_) (fun h2 => ?_)
  ·try rw [h2]
   try simp only [qA] at h2
   refine Qw (Qe (kp3 Z Z Z) ?_)
   refine QD ?_ -- 3
   refine Qz (Qf fun K hK => Qa Z (Qa Z (QK Z Z Z (by omega) (QT (by omega)) Z (QM (ds0 := [0]) (cs := [_, _, _, _]) Z Z Z Z Z Z (Qa Z (Qa Z (QK Z Z Z (by omega) (QT (by omega)) Z (QM (ds0 := [0]) (cs := [_, _, _, _]) Z Z Z Z Z Z (Qqd Z Z QoN (hK _ _ (Qb (kp4 Z Z Z Z) ?_)))))))))))
   refine Qx Z (fun h3 => ?_) (fun h3 => ?_)
   ·try rw [h3]
    try simp only [qA] at h3
    refine Qf fun K hK => Qa Z (hK _ _ (Qb (kp1 Z) ?_))
    refine Qv (Qu (Qk (Q2 (Qu (Qk (Qt Z ?_))))))
    rw [QkT (i := i) (by omega) (by omega) h3]
   ·try rw [h3]
    try simp only [qA] at h3
    refine Qw (Qh (Qe (kp3 Z Z Z) (QO fun K hK => Qa Z (QX Z Z (by first | exact Qr (by omega) (by omega) | rfl) (Qa Z (hK _ ?_))))))
    refine Ql (i + 1) ?_ ?_ ?_
    ·exact Zd (kp3 rfl rfl rfl)
    ·exact ⟨by omega, QgN (by omega) (by omega) hI.2 h3⟩
    ·first | omega | (simp only; omega) | (dsimp only; omega)
  ·try rw [h2]
   try simp only [qA] at h2
   refine Zk (QN (Qy (QF (Qe (Q0) (Qf fun K hK => Qa Z (hK _ _ (Qb (kp1 Z) ?_)))))))
   refine Qv (Qt Z ?_)
   rw [List.take_of_length_le (by omega), List.take_of_length_le (by omega)] at hI; exact (decide_eq_true hI.2).symm
theorem QdK {w : Qq} (hw : WSm w) {l : List Int} (hL : ∀ x ∈ l, I64 x) (hl : l.length <= 1000000) : Ok Tryz.prog 18 [ZY w, ZB l] (Zz (Qrl w l)) := by
 refine Ok.ofT ZT Tryz.func18 Qt0 (Nat.le_of_ble_eq_true Z) ?_
 show TW _ _ tf18.body _ _
 have hn := hw.len
 refine Qf fun K hK => Zs Z Z Z (Qa Z (hK _ _ (Qb (kp2 Z Z) ?_)))
 refine Qf fun K hK => Qa Z (hK _ _ (Qb (kp3 Z Z Z) ?_))
 refine Qg5 (ι := Unit) (fun _ => ⟨[(2, .ref 2 0 0), (5, Zz (QgX w l (min 4 (l.length / 2))))], [(2, ⟨[[.sl ((w).map YA)]], 1, 26, true⟩)]⟩) (fun _ => True) ?_ ?_
 ·skip
  refine Qf fun K hK => Qa Z (hK _ _ (Qb (kp4 Z Z Z Z) ?_))
  refine Qz ?_
  refine Zn (ι := Nat) (fun j => ⟨[(1, ZB l), (2, .ref 2 0 0), (5, .osl 5 (QgX w l j).length), (6, .int .i64 (2 * (j : Int)))], [(2, ⟨[[.sl ((w).map YA)]], 1, 26, true⟩), (5, ⟨(QgX w l j).map Qch, 2, 35, true⟩)]⟩) (fun j => j <= min 4 (l.length / 2)) (fun j => min 4 (l.length / 2) - j) 0 ?_ ?_ ?_
  ·exact le_trans (Yp 5 5 2 35 rfl rfl) (Q3 (l := [1, 2, 5, 6]) (lH := [2, 5]) (kp4 rfl rfl rfl rfl) (Qg rfl (Qg rfl Qn)) rfl rfl rfl)
  ·exact Nat.zero_le _
  intro j hI
  have hlen := Qck w l j
  try dsimp only
  refine QD ?_ -- 1
  refine Qf fun K hK => Qa Z (QX Z Z (by first | exact Qr (by omega) (by omega) | rfl) (Qa Z ?_))
  first | refine QQ rfl QU ?_ | refine QQ rfl rfl ?_
  refine Yd Z Z (Qa Z ?_)
  refine QC (g := 15) Z (fun h1 => ?_) (fun h1 => ?_)
  ·try rw [h1]
   try simp only [qA] at h1
   refine Qi Z (Qa Z (Qi Z (Yd Z Z (Qm Z Z (hK _ _ (Qb (kp5 Z Z Z Z Z) ?_))))))
   refine Qx Z (fun h2 => ?_) (fun h2 => ?_)
   ·try rw [h2]
    try simp only [qA] at h2
    refine Qw (Qe (kp4 Z Z Z Z) ?_)
    refine QD ?_ -- 2
    refine Qz (Qf fun K hK => Qa Z (Qa Z (QK Z Z Z (by omega) (ZE (by omega) (by omega)) Z (QR (ds0 := [1, 0]) Z Z Z Z Z (Qj Z Z (QR (ds0 := [2, 1, 0]) Z Z Z Z Z ?_))))))
    first | refine QQ rfl QU ?_ | refine QQ rfl rfl ?_
    refine QP (ds0 := [0]) (ZP (by omega) (hL _ (List.getElem_mem (by omega)))) Z Z (.inr Z) Z Z (Qa Z (hK _ _ (Qb (kp5 Z Z Z Z Z) ?_)))
    refine QO fun K hK => Qa Z (Qa Z (Qa Z (Qa Z (QX Z Z (by first | exact Qr (by omega) (by omega) | rfl) (QK Z Z Z (by omega) (ZE (by omega) (by omega)) Z (QR (ds0 := [5, 4, 3, 2, 1, 0]) Z Z Z Z Z (QM (ds0 := [6, 5, 4, 3, 2, 1, 0]) (cs := [_]) Z Z Z Z Z Z (Qa Z (QP (ds0 := [5, 4, 3, 2, 1, 0]) (ZH hw) Z Z (.inr Z) Z Z (QP (ds0 := [4, 3, 2, 1, 0]) (ZP (by have := Qd7 w (mPl (l[(2 * (j : Int)).toNat]'(by omega)) w.length); omega) (hL _ (List.getElem_mem (by omega)))) Z Z (.inr Z) Z Z ?_))))))))))
    refine QX Z Z (Qqa _ (Qd7 _ _).2) (QV Z Z (QI Z Z (Qbr (ds0 := [0]) Z Z (by simp [D.ids, D.sid]) ⟨_, rfl, rfl, rfl, rfl, rfl⟩ Z Z (by simp) Z Z (by simp; omega) (by simp; omega) Z Z (Qa Z (hK _ ?_)))))
    refine Qh (Qe (kp4 Z Z Z Z) (QO fun K hK => Qa Z (QX Z Z (by first | exact Qr (by omega) (by omega) | rfl) (Qa Z (hK _ ?_)))))
    refine Ql (j + 1) ?_ ?_ ?_
    ·exact le_trans (Qim (l := [1, 2, 6]) (lH := [2]) 43 5 5 (kp3 rfl rfl rfl) (Qg rfl Qn) rfl rfl rfl rfl rfl rfl rfl) (Q3 (l := [1, 2, 5, 6]) (lH := [2, 5]) (kp4 rfl rfl rfl rfl) (Qg rfl (Qg rfl Qn)) (by simp only [List.cons.injEq, Prod.mk.injEq, D.int.injEq, D.osl.injEq, true_and, and_true, Qck]; first | omega | (constructor <;> first | omega | rfl | (simp [Qck]; done))) (by rw [Qsg, List.map_append, Qpu (by omega)]; rfl) rfl)
    ·show j + 1 <= _; omega
    ·show min 4 (l.length / 2) - (j + 1) < min 4 (l.length / 2) - j; omega
   ·try rw [h2]
    try simp only [qA] at h2
    refine Zk (QN (Qy (QF ?_)))
    refine Z5 () ?_ ?_
    ·exact le_trans (Qge (l := [2]) (lH := [2]) 5 5 (kp1 rfl) (Qg rfl Qn) rfl rfl rfl (by first | (simp; done) | (simp; omega)) rfl rfl rfl rfl) (Q3 (l := [2, 5]) (lH := [2]) (kp2 rfl rfl) (Qg rfl Qn) (by rw [show min 4 (l.length / 2) = j by omega]; rfl) rfl rfl)
    ·exact trivial
  ·try rw [h1]
   try simp only [qA] at h1
   refine Qs Z (Qs Z (Qm Z Z (hK _ _ (Qb (kp5 Z Z Z Z Z) ?_))))
   refine ZU Z (Zk (QN (Qy (QF ?_))))
   refine Z5 () ?_ ?_
   ·exact le_trans (Qge (l := [2]) (lH := [2]) 5 5 (kp1 rfl) (Qg rfl Qn) rfl rfl rfl (by first | (simp; done) | (simp; omega)) rfl rfl rfl rfl) (Q3 (l := [2, 5]) (lH := [2]) (kp2 rfl rfl) (Qg rfl Qn) (by rw [show min 4 (l.length / 2) = j by omega]; rfl) rfl rfl)
   ·exact trivial
 intro _ hJ
 try dsimp only
 refine Qf fun K hK => QJ (cs := [_]) Z Z Z Z (Qa Z (QG (Qac hw (by rw [Qck]; omega)) Z Z (.inl Z) (Qa Z (Zc Z Z (Zc Z Z (Qa Z (Qa Z (hK _ _ (Qb (kp1 Z) ?_)))))))))
 refine Qf fun K hK => Qa Z (Qa Z (hK _ _ (Qb (kp1 Z) ?_)))
 refine Qv (Yg Z ?_)
 rfl
theorem Qew {w : Qq} (hw : WSm w) (h0 : 0 < w.length) : Ok Tryz.prog 12 [ZY w, ZB []] (dDb (mDB w)) := by
 refine Ok.ofT ZT Tryz.func12 QtU (Nat.le_of_ble_eq_true Z) ?_
 show TW _ _ tf12.body _ _
 have hn := Qo5 hw h0
 refine Qf fun K hK => Zs Z Z Z (Qa Z (hK _ _ (Qb (kp2 Z Z) ?_)))
 refine Qf fun K hK => QJ (cs := [_]) Z Z Z Z (QG (Qdm hw) Z Z (.inl Z) (Qa Z (hK _ _ (Qb (kp3 Z Z Z) ?_))))
 refine Qf fun K hK => Qa Z (hK _ _ (Qb (kp4 Z Z Z Z) ?_))
 refine QD ?_ -- 0
 refine Qf fun K hK => Qa Z (hK _ _ (Qb (kp5 Z Z Z Z Z) ?_))
 refine Qz ?_
 refine Zn (ι := Nat) (fun i => ⟨[(1, ZB []), (2, .ref 2 0 0), (5, Qr9 (Qd5 w)), (6, .osl 6 (Qpa w i).length), (7, .int .i64 i)], [(2, ⟨[[.sl ((w).map YA)]], 1, 26, true⟩), (6, ⟨(Qpa w i).map (fun t => [Zz t]), 1, 41, true⟩)]⟩) (fun i => i <= (Qd5 w).length) (fun i => (Qd5 w).length - i) 0 ?_ ?_ ?_
 ·exact le_trans (Yp 6 6 1 41 rfl rfl) (Q3 (l := [1, 2, 5, 6, 7]) (lH := [2, 6]) (kp5 rfl rfl rfl rfl rfl) (Qg rfl (Qg rfl Qn)) rfl rfl rfl)
 ·exact Nat.zero_le _
 intro i hI
 have hlen := Qpb w i
 try dsimp only
 refine QD ?_ -- 1
 refine Qf fun K hK => Qa Z (Qa Z ?_)
 first | refine QQ rfl QU ?_ | refine QQ rfl rfl ?_
 refine Yd Z Z (hK _ _ (Qb (kp6 Z Z Z Z Z Z) ?_))
 refine Qx Z (fun h1 => ?_) (fun h1 => ?_)
 ·try rw [h1]
  try simp only [qA, List.length_nil] at h1
  refine Qw (Qe (kp5 Z Z Z Z Z) ?_)
  refine QD ?_ -- 2
  refine Qz (QO fun K hK => Qa Z (Qa Z (Qa Z (QK Z Z Z (by omega) (QT (by omega)) Z (Q9 Z Z (QB Z Z Z (QI Z Z (XI Z Z (fun _ h => Xr Z Z Z h) Z (by simp) Z Z Z (by simp; omega) (by simp; omega) (Qa Z (hK _ ?_))))))))))
  refine Qh (Qe (kp5 Z Z Z Z Z) (QO fun K hK => Qa Z (QX Z Z (by first | exact Qr (by omega) (by omega) | rfl) (Qa Z (hK _ ?_)))))
  refine Ql (i + 1) ?_ ?_ ?_
  ·exact Q3 (l := [1, 2, 5, 6, 7]) (lH := [2, 6]) (kp5 rfl rfl rfl rfl rfl) (Qg rfl (Qg rfl Qn)) (by first | (rw [Qh4 (by omega)]; done) | (rw [Qh4 (by omega)]; rfl) | (rw [Qh4 (by omega), List.length_append]; rfl) | (simp [Qh4 (by omega)]; done) | (simp [Qh4 (by omega)]; omega) | rfl) (by first | (rw [Qh4 (by omega)]; done) | (rw [Qh4 (by omega)]; rfl) | (rw [Qh4 (by omega), List.map_append]; rfl) | (simp [Qh4 (by omega)]; done) | rfl) rfl
  ·omega
  ·first | omega | (simp only; omega) | (dsimp only; omega)
 ·try rw [h1]
  try simp only [qA, List.length_nil] at h1
  refine Zk (QN (Qy (QF (Qe (kp3 Z Z Z) ?_))))
  refine QD ?_ -- 3
  refine Qf fun K hK => Qa Z (hK _ _ (Qb (kp4 Z Z Z Z) ?_))
  refine Qz ?_
  refine Zn (ι := Unit) (fun _ => ⟨[(1, ZB []), (2, .ref 2 0 0), (6, .osl 6 (mDB w).length), (8, .int .i64 0)], [(2, ⟨[[.sl ((w).map YA)]], 1, 26, true⟩), (6, ⟨(mDB w).map (fun t => [Zz t]), 1, 41, true⟩)]⟩) (fun _ => True) (fun _ => 0) () ?_ ?_ ?_
  ·exact Q3 (l := [1, 2, 6, 8]) (lH := [2, 6]) (kp4 rfl rfl rfl rfl) (Qg rfl (Qg rfl Qn)) (by rw [Qqn (by omega)]) (by rw [Qqn (by omega)]) rfl
  ·trivial
  intro _ hJ
  try dsimp only
  refine QD ?_ -- 4
  refine Qf fun K hK => Qa Z (Qa Z ?_)
  first | refine QQ rfl QU ?_ | refine QQ rfl rfl ?_
  refine Yd Z Z (Qa Z ?_)
  refine QC (g := 31) Z (fun h2 => ?_) (fun h2 => ?_)
  ·try rw [h2]
   try simp only [qA, List.length_nil] at h2
   exact absurd h2 (by decide)
  ·try rw [h2]
   try simp only [qA, List.length_nil] at h2
   refine Qs Z (Qs Z (Qs Z (Qs Z (Qs Z (Qm Z Z (hK _ _ (Qb (kp5 Z Z Z Z Z) ?_)))))))
   refine ZU Z (Zk (QN (Qy (QF (Qe (kp1 Z) (Qf fun K hK => Qa Z (Qa Z (hK _ _ (Qb (kp1 Z) ?_)))))))))
   refine Qv ?_
   exact QaX rfl rfl rfl (by simp) (by rfl)
theorem Qg8 {v : Int} (h0 : -1 <= v) (h1v : v <= 60) : Ok Tryz.prog 82 [.int .i64 v] (.int .i64 (2 ^ (v + 1).toNat)) := by
 refine Ok.ofT ZT Tryz.func82 QuT (Nat.le_of_ble_eq_true Z) ?_
 show TW _ _ tf82.body _ _
 refine Qf fun K hK => Qa Z (hK _ _ (Qb (kp1 Z) ?_))
 refine Qf fun K hK => Qa Z (QX Z Z (by first | exact Qr (by omega) (by omega) | rfl) (Qo0 Z Z (by omega) (Qkc (by omega)) (Qa Z (hK _ _ (Qb (kp1 Z) ?_)))))
 refine Qv (QE Z ?_)
 rfl
theorem Qmq {w : Qq} (hw : WSm w) {u : Int} : Ok Tryz.prog 81 [ZY w, .int .i64 u] (.bool (inW w u)) := by
 refine Ok.ofT ZT Tryz.func81 QuS (Nat.le_of_ble_eq_true Z) ?_
 show TW _ _ tf81.body _ _
 refine Qf fun K hK => Zs Z Z Z (Qa Z (hK _ _ (Qb (kp2 Z Z) ?_)))
 refine Qf fun K hK => Qa Z (Qfb Z Z (Qa Z ?_))
 refine QC (g := 7) Z (fun h1 => ?_) (fun h1 => ?_)
 ·try rw [h1]
  try simp only [qA] at h1
  refine Qi Z (Qa Z (Qi Z (Qj Z Z (Qi Z (QB Z Z Z (Qi Z ?_))))))
  first | refine QQ rfl QU ?_ | refine QQ rfl rfl ?_
  refine Qi Z (Yd Z Z (Qm Z Z (Qa Z (hK _ _ (Qb (kp1 Z) ?_)))))
  refine Qv (Qt Z ?_)
  first | rfl | (rw [Qdu (by omega)]; done) | (rw [inW, decide_eq_true h1, Bool.true_and])
 ·try rw [h1]
  try simp only [qA] at h1
  refine Qs Z (Qs Z (Qs Z (Qs Z (Qs Z (Qm Z Z (Qa Z (hK _ _ (Qb (kp1 Z) ?_))))))))
  refine Qv (Qt Z ?_)
  first | rfl | (rw [Qdu (by omega)]; done) | (rw [inW, decide_eq_true h1, Bool.true_and])
theorem Qaz {w : Qq} (hw : WSm w) {u : Int} : Ok Tryz.prog 50 [ZY w, .int .i64 u] (.int .i64 (YC w u)) := by
 refine Ok.ofT ZT Tryz.func50 Quq (Nat.le_of_ble_eq_true Z) ?_
 show TW _ _ tf50.body _ _
 refine Qf fun K hK => Zs Z Z Z (Qa Z (hK _ _ (Qb (kp2 Z Z) ?_)))
 refine QD ?_ -- 0
 refine Qf fun K hK => QJ (cs := [_]) Z Z Z Z (Qa Z (QG (Qmq hw) Z Z (.inr Z) (Yk Z (hK _ _ (Qb (kp3 Z Z Z) ?_)))))
 refine Qx Z (fun h1 => ?_) (fun h1 => ?_)
 ·try rw [h1]
  try simp only [qA] at h1
  try have h1b := QbE.1 h1
  refine Qf fun K hK => Qa Z (hK _ _ (Qb (kp1 Z) ?_))
  refine Qv (Qk (QE Z ?_))
  rw [X3.2 h1]
 ·try rw [h1]
  try simp only [qA] at h1
  try have h1b := QbE.1 h1
  refine Qw (Qe (kp2 Z Z) (Qf fun K hK => Qj Z Z (QB Z Z Z (Qa Z (QK Z Z Z (by omega) (ZE (by omega) (by omega)) Z (Q9 Z Z (QB Z Z Z ?_)))))))
  first | refine QQ rfl QU ?_ | refine QQ rfl rfl ?_
  refine QG (Qg8 (by omega) (by have := hw.cs _ (List.getElem_mem (show u.toNat < w.length by omega)); omega)) Z Z (.inr Z) (X7 Z Z (Qkb (by have := hw.cs _ (List.getElem_mem (show u.toNat < w.length by omega)); omega)) (Qa Z (hK _ _ (Qb (kp1 Z) ?_))))
  refine Qv (QE Z ?_)
  rw [Qiu h1b.1 h1b.2, show min (w[u.toNat]'(by omega)).cs.length 16 = (w[u.toNat]'(by omega)).cs.length from Nat.min_eq_left (hw.cs _ (List.getElem_mem _)), QoS]
theorem Qce {w : Qq} (hw : WSm w) {l : List StepT} (hl : l.length <= 10000000) {u : Int} : Ok Tryz.prog 51 [ZY w, Zl l, .int .i64 u] (.int .i64 (QaW w l u)) := by
 refine Ok.ofT ZT Tryz.func51 Qur (Nat.le_of_ble_eq_true Z) ?_
 show TW _ _ tf51.body _ _
 refine Qf fun K hK => Zs Z Z Z (Qa Z (hK _ _ (Qb (kp3 Z Z Z) ?_)))
 refine QD ?_ -- 0
 refine Qf fun K hK => Qa Z ?_
 first | refine QQ rfl QU ?_ | refine QQ rfl rfl ?_
 refine X7 Z Z (by first | exact Qr (by omega) (by omega) | rfl) (Qa Z (hK _ _ (Qb (kp4 Z Z Z Z) ?_)))
 refine Qz ?_
 refine Zn (ι := Nat) (fun i => ⟨[(1, Zl l), (2, .int .i64 u), (3, .ref 3 0 0), (7, .int .i64 ((i : Int) - 1))], [(3, ⟨[[.sl ((w).map YA)]], 1, 26, true⟩)]⟩) (fun i => i <= l.length /\ QaW w l u = QaW w (l.take i) u) (fun i => i) l.length ?_ ?_ ?_
 ·exact Q3 (l := [1, 2, 3, 7]) (lH := [3]) (kp4 rfl rfl rfl rfl) (Qg rfl Qn) rfl rfl rfl
 ·exact ⟨Nat.le_refl _, by rw [List.take_length]⟩
 intro i hI
 try dsimp only
 refine QD ?_ -- 1
 refine Qf fun K hK => Qa Z (Qfb Z Z (hK _ _ (Qb (kp5 Z Z Z Z Z) ?_)))
 refine Qx Z (fun h1 => ?_) (fun h1 => ?_)
 ·try rw [h1]
  try simp only [qA] at h1
  refine Qw (Qe (kp4 Z Z Z Z) ?_)
  refine QD ?_ -- 2
  refine Qz (Qf fun K hK => Qa Z (Qa Z (QK Z Z Z (by omega) (ZE (by omega) (by omega)) Z (Q9 Z Z (QB Z Z Z (Qa Z (ZD Z Z (hK _ _ (Qb (kp5 Z Z Z Z Z) ?_)))))))))
  refine Qx Z (fun h2 => ?_) (fun h2 => ?_)
  ·try rw [h2]
   try simp only [qA] at h2
   refine Qf fun K hK => Qa Z (Qa Z (QK Z Z Z (by omega) (ZE (by omega) (by omega)) Z (Q9 Z Z (QB Z Z Z (Qa Z (hK _ _ (Qb (kp1 Z) ?_)))))))
   refine Qv (Qu (Qk (Q2 (Qu (Qk (QE Z ?_))))))
   rw [hI.2, QnY (k := ((i : Int) - 1).toNat) (by omega) (by omega) h2]
  ·try rw [h2]
   try simp only [qA] at h2
   refine Qw (Qh (Qe (kp4 Z Z Z Z) (QO fun K hK => Qa Z (X7 Z Z (by first | exact Qr (by omega) (by omega) | rfl) (Qa Z (hK _ ?_))))))
   refine Ql (i - 1) ?_ ?_ ?_
   ·exact Q3 (l := [1, 2, 3, 7]) (lH := [3]) (kp4 rfl rfl rfl rfl) (Qg rfl Qn) (by simp only [List.cons.injEq, Prod.mk.injEq, D.int.injEq, and_true, true_and]; omega) rfl rfl
   ·exact ⟨by omega, by rw [hI.2, QmG (k := ((i : Int) - 1).toNat) (by omega) (by omega) h2]⟩
   ·first | omega | (simp only; omega) | (dsimp only; omega)
 ·try rw [h1]
  try simp only [qA] at h1
  refine Zk (QN (Qy (QF (Qe (kp2 Z Z) (Qf fun K hK => QJ (cs := [_]) Z Z Z Z (Qa Z (QG (Qaz hw) Z Z (.inr Z) (Qa Z (hK _ _ (Qb (kp1 Z) ?_))))))))))
  refine Qv (QE Z ?_)
  rw [hI.2, show i = 0 by omega]; rfl
theorem QaQ {w : Qq} (hw : WSm w) {l : List StepT} (hl : l.length <= 10000000) {u : Int} : Ok Tryz.prog 16 [ZY w, Zl l, .int .i64 u] (.int .i64 (Zi w l u)) := by
 refine Ok.ofT ZT Tryz.func16 QtY (Nat.le_of_ble_eq_true Z) ?_
 show TW _ _ tf16.body _ _
 refine Qf fun K hK => Zs Z Z Z (Qa Z (hK _ _ (Qb (kp3 Z Z Z) ?_)))
 refine QD ?_ -- 0
 refine Qf fun K hK => QJ (cs := [_]) Z Z Z Z (Qa Z (QG (Qaz hw) Z Z (.inr Z) (ZD Z Z (hK _ _ (Qb (kp4 Z Z Z Z) ?_)))))
 refine Qx Z (fun h1 => ?_) (fun h1 => ?_)
 ·try rw [h1]
  try simp only [qA] at h1
  refine Qf fun K hK => Qa Z (hK _ _ (Qb (kp1 Z) ?_))
  refine Qv (Qk (QE Z ?_))
  rw [Qir (X3.1 h1)]
 ·try rw [h1]
  try simp only [qA] at h1
  refine Qw (Qe (kp3 Z Z Z) (Qf fun K hK => QJ (cs := [_]) Z Z Z Z (Qa Z (Qa Z (QG (Qce hw hl) Z Z (.inr Z) (Qa Z (hK _ _ (Qb (kp1 Z) ?_))))))))
  refine Qv (QE Z ?_)
  rw [Qiq (by simpa using fun e => h1 (X3.2 e))]
theorem XA {l : List StepT} (hl : l.length <= 10000000) : Ok Tryz.prog 17 [Zl l] (.int .i64 (Y4 l)) := by
 refine Ok.ofT ZT Tryz.func17 QtZ (Nat.le_of_ble_eq_true Z) ?_
 show TW _ _ tf17.body _ _
 refine Qf fun K hK => Qa Z (hK _ _ (Qb (kp1 Z) ?_))
 refine QD ?_ -- 0
 refine Qf fun K hK => Qa Z ?_
 first | refine QQ rfl QU ?_ | refine QQ rfl rfl ?_
 refine ZD Z Z (hK _ _ (Qb (kp2 Z Z) ?_))
 refine Qx Z (fun h1 => ?_) (fun h1 => ?_)
 ·try rw [h1]
  try simp only [qA] at h1
  refine Qf fun K hK => Qa Z (hK _ _ (Qb (kp1 Z) ?_))
  refine Qv (Qk (QE Z ?_))
  rw [Qjx h1]
 ·try rw [h1]
  try simp only [qA] at h1
  refine Qw (Qe (kp1 Z) (Qf fun K hK => Qa Z (Qa Z ?_)))
  first | refine QQ rfl QU ?_ | refine QQ rfl rfl ?_
  refine X7 Z Z (by first | exact Qr (by omega) (by omega) | rfl) (QK Z Z Z (by omega) (ZE (by omega) (by omega)) Z (Q9 Z Z (QB Z Z Z (Qa Z (hK _ _ (Qb (kp1 Z) ?_))))))
  refine Qv (QE Z ?_)
  rw [QlE (k := ((l.length : Int) - 1).toNat) (by omega)]
theorem Qg9 {l : List StepT} (hl : l.length <= 10000000) {s : StepT} : Ok Tryz.prog 49 [Zl l, .agg (Qcg s)] (Zl (l ++ [s])) := by
 refine Ok.ofT ZT Tryz.func49 Qup (Nat.le_of_ble_eq_true Z) ?_
 show TW _ _ tf49.body _ _
 refine Qf fun K hK => Zs Z Z Z (Qa Z (hK _ _ (Qb (kp2 Z Z) ?_)))
 refine Qf fun K hK => Qa Z (Qa Z ?_)
 first | refine QQ rfl QU ?_ | refine QQ rfl rfl ?_
 refine Qa Z ?_
 first | refine QQ rfl QU ?_ | refine QQ rfl rfl ?_
 refine Qlf Z Z Z Z Z (by omega) (by omega) (by simp) QjV (QoI Z) (QM (ds0 := [2, 1, 0]) (cs := [_, _, _, _]) Z Z Z Z Z Z (QI Z Z (Qet (ds0 := [0]) Z Z (fun _ h => Xr Z Z Z h) Z (.inr (by simp)) QjV (by simp; omega) (by simp; omega) Z Z (Qa Z (hK _ _ (Qb (kp1 Z) ?_))))))
 refine Qv ?_
 exact QaX rfl rfl rfl (by simp) (by simp [Zl, Qcg])
theorem QgT {w : Qq} (hw : WSm w) {l : List StepT} (hl : l.length <= 10000000) (hp : QcV w l) {t : TermT} {c : Int} : Ok Tryz.prog 15 [ZY w, Zl l, .agg (Qch t), .int .i64 c] (dOS (Yu w l t c)) := by
 refine Ok.ofT ZT Tryz.func15 QtX (Nat.le_of_ble_eq_true Z) ?_
 show TW _ _ tf15.body _ _
 refine Qf fun K hK => Zs Z Z Z (Zs Z Z Z (Qa Z (Qa Z (hK _ _ (Qb (kp4 Z Z Z Z) ?_)))))
 refine Qf fun K hK => QJ (cs := [_]) Z Z Z Z (Qa Z (Qj Z Z (QB Z Z Z (QG (QaQ hw hl) Z Z (.inr Z) (Qa Z (hK _ _ (Qb (kp4 Z Z Z Z) ?_)))))))
 refine QD ?_ -- 0
 refine Qf fun K hK => Qa Z (Yd Z Z (Qa Z ?_))
 refine QC (g := 18) Z (fun h1 => ?_) (fun h1 => ?_)
 ·try rw [h1]
  try simp only [qA] at h1
  refine Qs Z (Qs Z (Qs Z (Qs Z (Qs Z (Qm Z Z (Qa Z (Qs Z (Qs Z (Qs Z (Qs Z (Qs Z ?_)))))))))))
  refine Qm Z Z (hK _ _ (Qb (kp5 Z Z Z Z Z) ?_))
  refine Zt Z (Qf fun K hK => Qa Z (Qa Z (hK _ _ (Qb (kp2 Z Z) ?_))))
  refine Qv (Qk ?_)
  rw [QcH (.inl h1)]
  exact QW rfl rfl ⟨rfl, rfl⟩
 ·try rw [h1]
  try simp only [qA] at h1
  refine Qi Z (Qa Z (Qi Z (Qj Z Z (Qi Z (QB Z Z Z (Qi Z (Qb6 Z Z (Qi Z (ZD Z Z (Qm Z Z (Qa Z ?_)))))))))))
  refine QC (g := 25) Z (fun h2 => ?_) (fun h2 => ?_)
  ·try rw [h2]
   try simp only [qA] at h2
   refine Qs Z (Qs Z (Qs Z (Qs Z (Qs Z (Qm Z Z (hK _ _ (Qb (kp5 Z Z Z Z Z) ?_)))))))
   refine Zt Z (Qf fun K hK => Qa Z (Qa Z (hK _ _ (Qb (kp2 Z Z) ?_))))
   refine Qv (Qk ?_)
   rw [Qnn hp h2]
   exact QW rfl rfl ⟨rfl, rfl⟩
  ·try rw [h2]
   try simp only [qA] at h2
   refine Qi Z (Qa Z (Qi Z (Qj Z Z (Qi Z (QB Z Z Z (Qi Z (Qfm Z Z (Qi Z (ZD Z Z (Qm Z Z (hK _ _ (Qb (kp5 Z Z Z Z Z) ?_))))))))))))
   refine Qx Z (fun h3 => ?_) (fun h3 => ?_)
   ·try rw [h3]
    try simp only [qA] at h3
    refine Qf fun K hK => Qa Z (Qa Z (hK _ _ (Qb (kp2 Z Z) ?_)))
    refine Qv (Qk ?_)
    rw [Qno h3]
    exact QW rfl rfl ⟨rfl, rfl⟩
   ·try rw [h3]
    try simp only [qA] at h3
    refine Qw (Qe (kp4 Z Z Z Z) (Qf fun K hK => Qa Z (Qj Z Z (QR (ds0 := [3, 2, 1]) Z Z Z Z Z (Qa Z (Qj Z Z (QR (ds0 := [7, 3, 2, 1]) Z Z Z Z Z (Qfm Z Z (Qa Z (QP (ds0 := [3, 2, 1]) (XA hl) Z Z (.inr Z) Z Z ?_))))))))))
    refine Qa Z (QV Z Z (QP (ds0 := [1]) (Qg9 (s := ⟨t.u, QiU (Zi w l t.u) t.m, Y4 l, c⟩) hl) Z Z (.inl Z) Z Z (Qa Z (Qa Z (hK _ _ (Qb (kp2 Z Z) ?_))))))
    refine Qv ?_
    rw [Qnp hp (by omega) h2 h3]
    exact QW rfl rfl ⟨rfl, rfl⟩
end Go.Proofs
namespace M25
open Go Go.Abs M3
/-! ### prop: what is left of each unit, scans -/
structure QrW (w : Qq) (db : List (List TermT)) (l : List StepT) (a : Nat) (k : Nat) : Prop where
  ha : a < db.length
  hk : k < db[a].length
  eq : Yv w db l = ((a : Int), db[a][k].u)
  one : QaE (Zi w l db[a][k].u) db[a][k].m = 1
  two : ∀ j, ∀ hj : j < db[a].length, j ≠ k -> QaE (Zi w l db[a][j].u) db[a][j].m = 2
theorem QmN {w : Qq} {l : List StepT} {s : StepT} (hp : QcV w l) (hs : Lo s.m) : QcV w (l ++ [s]) := fun t ht => by
  rcases List.mem_append.1 ht with ht | ht
  · exact hp t ht
  · simp only [List.mem_singleton] at ht; subst ht; exact hs
def QtN (w : Qq) (l : List StepT) (t : TermT) (c : Int) : StepT := ⟨t.u, QiU (Zi w l t.u) t.m, Y4 l, c⟩
end M25
namespace M25
open Go Go.Abs M3
/-! ### Sets that are made: moderate sizes -/
theorem Qps (l : List (Cu × Cu)) (x y : Cu) : (Qcs l x y).length <= l.length + 1 := QjC l x y
theorem Qh8 (f : Cu -> Cu -> Bool) : ∀ (c : List Cu) (out : List (Cu × Cu)), (∀ x ∈ c, Cu.sm x) -> (∀ s ∈ out, Cu.sm s.1 /\ Cu.sm s.2) -> (Qcr f c out).length <= out.length + c.length /\ ∀ s ∈ Qcr f c out, Cu.sm s.1 /\ Cu.sm s.2
 | [], out, _, h => ⟨by simp [Qcr], by simpa [Qcr] using h⟩
 | [x], out, _, h => ⟨by simp [Qcr], by simpa [Qcr] using h⟩
 | x :: y :: r, out, hc, h => by
  rw [Qcr]
  have hxy := Qps out x y
  split
  ·obtain ⟨h1, h2⟩ := Qh8 f (y :: r) (Qcs out x y) (fun z hz => hc z (by simp at hz ⊢; exact .inr hz)) (QlK h (hc x (by simp)) (hc y (by simp)))
   exact ⟨by simp only [List.length_cons] at h1 ⊢; omega, h2⟩
  ·obtain ⟨h1, h2⟩ := Qh8 f (y :: r) out (fun z hz => hc z (by simp at hz ⊢; exact .inr hz)) h
   exact ⟨by simp only [List.length_cons] at h1 ⊢; omega, h2⟩
def SmN (n : Nat) (l : List (Cu × Cu)) : Prop := l.length <= n /\ ∀ s ∈ l, Cu.sm s.1 /\ Cu.sm s.2
theorem SmN.sm {n : Nat} {l : List (Cu × Cu)} (h : SmN n l) (hn : n <= 1000000) : Sm l := ⟨Nat.le_trans h.1 hn, h.2⟩
theorem SmN.up {n m : Nat} {l : List (Cu × Cu)} (h : SmN n l) (hn : n <= m) : SmN m l := ⟨Nat.le_trans h.1 hn, h.2⟩
theorem SmN.nil (n : Nat) : SmN n [] := ⟨Nat.zero_le _, by simp⟩
theorem Qqy {a b : List (Cu × Cu)} {n m : Nat} (ha : SmN n a) (hb : SmN m b) (h : n + m <= 1000000) : SmN (2 + 2 * (n + m)) (Qqv a b) := by
 unfold Qqv
 split
 ·have hab : Sm (a ++ b) := (ha.sm (by omega)).app (hb.sm (by omega)) (by have := ha.1; have := hb.1; omega)
  unfold QkF
  split
  ·obtain ⟨h1, h2⟩ := Qh8 (mIn (a ++ b)) (Y1 (a ++ b)) [] (YF hab) (by simp)
   have := Qcq (a ++ b)
   have := ha.1
   have := hb.1
   exact ⟨by simp only [List.length_nil, List.length_append] at *; omega, h2⟩
  ·exact SmN.nil _
 ·exact SmN.nil _
theorem Qof {a : List (Cu × Cu)} {n : Nat} (ha : SmN n a) (h : n <= 1000000) : SmN (2 + 2 * n) (QkG a) := by
 unfold QkG
 split
 ·obtain ⟨h1, h2⟩ := Qh8 (fun x y => !mIn a x y) (Y1 a) [] (YF (ha.sm h)) (by simp)
  have := Qcq a
  have := ha.1
  exact ⟨by simp only [List.length_nil] at *; omega, h2⟩
 ·exact SmN.nil _
def Qmn (n : Nat) (s : QfM) : Prop := SmN n s.1 /\ SmN n s.2
theorem Qsq {a b : QfM} {n m : Nat} (ha : Qmn n a) (hb : Qmn m b) (h : n + m <= 1000000) : Qmn (2 + 2 * (n + m)) (Qqw a b) := by
 unfold Qqw
 split
 ·exact ⟨Qqy ha.1 hb.1 h, Qqy ha.2 hb.2 h⟩
 ·exact ⟨SmN.nil _, SmN.nil _⟩
theorem Qog {a : QfM} {n : Nat} (ha : Qmn n a) (h : n <= 1000000) : Qmn (2 + 2 * n) (Qix a) := by
 unfold Qix
 split
 ·exact ⟨Qof ha.1 h, Qof ha.2 h⟩
 ·exact ⟨SmN.nil _, SmN.nil _⟩
theorem QcU (e a b c : Int) (f : Bool) : Cu.sm ⟨e, a, b, c, [], [], f⟩ := ⟨Nat.zero_le _, Nat.zero_le _⟩
theorem QcJ {a b c : Int} {p q : List UInt8} (hp : p.length <= 1000000) : Qmn 1 (Xq a b c p q) := by
 unfold Xq
 split
 ·exact ⟨SmN.nil _, SmN.nil _⟩
 ·split
  ·refine ⟨SmN.nil _, ⟨Nat.le_refl _, fun s hs => ?_⟩⟩
   simp only [List.mem_singleton] at hs; subst hs
   exact ⟨⟨hp, Nat.zero_le _⟩, ⟨hp, Nat.zero_le _⟩⟩
  ·refine ⟨⟨Nat.le_refl _, fun s hs => ?_⟩, SmN.nil _⟩
   simp only [List.mem_singleton] at hs; subst hs
   constructor
   ·unfold Qgq; split
    ·exact QcU ..
    ·exact QcU ..
   ·unfold Qd6; split
    ·exact QcU ..
    ·exact QcU ..
def Qm9 : QfM := ([(Qdd, QgZ)], [(Qdd, QgZ)])
theorem Qqh : Qmn 1 Qm9 := by
 have h : SmN 1 [(Qdd, QgZ)] := ⟨Nat.le_refl _, fun s hs => by simp only [List.mem_singleton] at hs; subst hs; exact ⟨QcU .., QcU ..⟩⟩
 exact ⟨h, h⟩
def bnd (i : Nat) : Nat := 4 * 2 ^ i
theorem Qqj {i : Nat} (h : i <= 16) : bnd i <= 262144 := by
 have : 2 ^ i <= 2 ^ 16 := Nat.pow_le_pow_right (by omega) h
 have e : (2 : Nat) ^ 16 = 65536 := by decide
 unfold bnd; omega
theorem Qsx {s : QfM} {i : Nat} (h : Qmn (bnd i - 4) s) {a b c : Int} {p q : List UInt8} (hp : p.length <= 1000000) (hi : i <= 16) : Qmn (bnd (i + 1) - 4) (Qqw s (Xq a b c p q)) := by
 have h1 := Qqj hi
 have h4 : 4 <= bnd i := by unfold bnd; have := Nat.one_le_two_pow (n := i); omega
 have := Qsq h (QcJ (a := a) (b := b) (c := c) (q := q) hp) (by omega)
 have e : bnd (i + 1) = 2 * bnd i := by unfold bnd; rw [Nat.pow_succ]; omega
 exact ⟨this.1.up (by omega), this.2.up (by omega)⟩
theorem QpZ {s : QfM} {i : Nat} (h : Qmn (bnd i - 4) s) : Qmn (bnd (i + 1) - 4) s := by
 have e : bnd (i + 1) = 2 * bnd i := by unfold bnd; rw [Nat.pow_succ]; omega
 exact ⟨h.1.up (by omega), h.2.up (by omega)⟩
def SetOk (s : QfM) : Prop := Qmn 600000 s
theorem SetOk.sm {s : QfM} (h : SetOk s) : Sm s.1 /\ Sm s.2 := ⟨h.1.sm (by omega), h.2.sm (by omega)⟩
structure CR where
 v : Vr
 x : D
 y : D
 z : D
def dCR (r : CR) : List D := [.int .i64 r.v.a, .int .i64 r.v.b, .int .i64 r.v.c, .str r.v.p, .str r.v.q, r.x, r.y, r.z]
def CR.ren (r : CR) : CR := ⟨r.v, r.x.renS upN, r.y.renS upN, r.z.renS upN⟩
theorem Qnj (l : List CR) : (l.map dCR).map (fun r => r.map (D.renS upN)) = (l.map CR.ren).map dCR := by
 rw [List.map_map, List.map_map]; rfl
structure UR where
 n : List UInt8
 f : List UInt8
 k : Nat
 cs : List CR
def dUR (u : UR) : List D := [.str u.n, .str u.f, .osl u.k u.cs.length]
def UR.ren (u : UR) : UR := ⟨u.n, u.f, upN u.k, u.cs.map CR.ren⟩
theorem Qq6 (l : List UR) : (l.map dUR).map (fun r => r.map (D.renS upN)) = (l.map UR.ren).map dUR := by
 rw [List.map_map, List.map_map]
 refine List.map_congr_left fun u _ => ?_
 simp [dUR, UR.ren, D.renS]
structure Fam (H : List (Nat × Box)) (kg ku eu ec : Nat) (us : List UR) : Prop where
 ne : ku ≠ kg
 u : ∃ pr, lk H ku = some ⟨us.map dUR, 3, eu, pr⟩
 c : ∀ y ∈ us, y.k ≠ kg /\ ∃ pr, lk H y.k = some ⟨y.cs.map dCR, 8, ec, pr⟩
 v : ∀ y ∈ us, y.cs.length <= 16 /\ ∀ z ∈ y.cs, Qg6 z.v
theorem Fam.up {H : List (Nat × Box)} {kg ku eu ec : Nat} {us : List UR} (h : Fam H kg ku eu ec us) : Fam (upH H) (upN kg) (upN ku) eu ec (us.map UR.ren) := by
 obtain ⟨h1, ⟨pu, h2⟩, h3, h4⟩ := h
 refine ⟨fun e => h1 (Qk7 e), ⟨pu, ?_⟩, fun y hy => ?_, fun y hy => ?_⟩
 ·rw [QaV, h2, Option.map_some, Box.ren, Qq6]
 ·obtain ⟨u, hu, rfl⟩ := List.mem_map.1 hy
  obtain ⟨q1, pr, q2⟩ := h3 u hu
  refine ⟨fun e => q1 (Qk7 e), pr, ?_⟩
  show lk (upH H) (upN u.k) = _
  rw [QaV, q2, Option.map_some, Box.ren, Qnj]; rfl
 ·obtain ⟨u, hu, rfl⟩ := List.mem_map.1 hy
  obtain ⟨q1, q2⟩ := h4 u hu
  refine ⟨by simpa [UR.ren] using q1, fun z hz => ?_⟩
  obtain ⟨z0, hz0, rfl⟩ := List.mem_map.1 hz
  exact q2 z0 hz0
theorem Fam.cons {H : List (Nat × Box)} {kg ku eu ec : Nat} {us : List UR} (h : Fam H kg ku eu ec us) {b : Box} : Fam ((kg, b) :: H) kg ku eu ec us := by
 obtain ⟨h1, ⟨pu, h2⟩, h3, h4⟩ := h
 exact ⟨h1, ⟨pu, Qp (Ne.symm h1) h2⟩, fun y hy => let ⟨q1, pr, q2⟩ := h3 y hy; ⟨q1, pr, Qp (Ne.symm q1) q2⟩, h4⟩
def WantIn (n : Nat) (x : WantT) : Prop := 1 <= x.u /\ x.u < n /\ SetOk x.s
def Qi3 (n : Nat) (r : List WantT) : Prop := r.length <= 2 /\ ∀ x ∈ r, WantIn n x
def QfJ (n : Nat) (m : Int) (ns : List (List WantT)) : Prop := (ns.length : Int) <= m /\ ∀ r ∈ ns, Qi3 n r
theorem Qrw {n : Nat} {x : WantT} (h : WantIn n x) : Qi3 n [x] := ⟨by simp, by intro y hy; simp only [List.mem_singleton] at hy; subst hy; exact h⟩
theorem Qrx {n : Nat} {x y : WantT} (h : WantIn n x) (h' : WantIn n y) : Qi3 n [x, y] := ⟨by simp, by
 intro z hz
 simp only [List.mem_cons, List.not_mem_nil, or_false] at hz
 rcases hz with rfl | rfl
 ·exact h
 ·exact h'⟩
theorem QoA {n : Nat} {ns : List (List WantT)} {r : List WantT} (h : ∀ r ∈ ns, Qi3 n r) (hr : Qi3 n r) : ∀ x ∈ ns ++ [r], Qi3 n x := fun x hx => by
 rcases List.mem_append.1 hx with hx | hx
 ·exact h x hx
 ·simp only [List.mem_singleton] at hx; subst hx; exact hr
end M25
namespace Go.Proofs
open Go Go.Abs M3 M25
set_option linter.unusedVariables false
set_option linter.unusedSimpArgs false
theorem Qcw {s : St} {args : List Opd} {kg : Nat} {L : List Int} {I n : Int} {et : Nat} (ha : Zx s args = some [.ref kg 0 0, .int .i64 n]) (hg : lk s.H kg = some (gB L I et)) (hL : ∀ x ∈ L, I64 x) (hn : n <= 9223372036854775807) : Qbw Tryz.prog 42 args s [(kg, gB L I et)] [] [(kg, gB L (nxI I) et)] (.int .i64 (nx L I n)) := by
 refine Qll (b' := gB L (nxI I) et) (ds' := [.ref (upN kg) 0 0, .int .i64 n]) ha (fun j x h => ?_) (fun k b hk j hj => ?_) (fun x hx j hj => ?_) ?_ Z Z Z Z ?_
 ·obtain ⟨rfl, rfl⟩ := XL h; exact hg
 ·obtain ⟨rfl, rfl⟩ := XL hk; simp [Box.ids, gB] at hj
 ·simp only [List.mem_cons, List.not_mem_nil, or_false] at hx
  rcases hx with rfl | rfl
  ·simp [D.ids, D.sid] at hj; subst hj; rw [QA]; rfl
  ·simp [D.ids, D.sid] at hj
 ·rw [QA]; rfl
 ·exact X0 (by unfold upN; omega) hL hn et
theorem QdL {H : List (Nat × Box)} {kg kc : Nat} {L : List Int} {I : Int} {eg ec : Nat} {pr : Bool} {zs : List CR} (hkg : 1000000 <= kg) (hg : lk H kg = some (gB L I eg)) (hc : lk H kc = some ⟨zs.map dCR, 8, ec, pr⟩) (hne : kg ≠ kc) (hB : Big H) (hC : Closed H) (hL : ∀ x ∈ L, I64 x) (hz : ∀ z ∈ zs, Qg6 z.v) (hn : zs.length <= 16) : ∃ d H2, (∃ s I2, SetOk s /\ d = Qh3 s /\ H2 = (kg, gB L I2 eg) :: H) /\ OkH Tryz.prog 74 [.ref kg 0 0, .osl kc zs.length] H d H2 := by
 have hkc := hB _ _ hc
 refine OkH.ofX (R := fun d H2 => ∃ s I2, SetOk s /\ d = Qh3 s /\ H2 = (kg, gB L I2 eg) :: H) ZT Tryz.func74 QuL (Nat.le_of_ble_eq_true Z) ?_
 show TX _ _ tf74.body _ _
 refine Za fun K hK => ?_
 refine ZG (by repeat (first | exact hB.none (by decide) | refine Zv (by first | decide | omega) ?_)) ?_
 refine hK _ _ (QS (kp3 Z Z Z) ?_)
 refine Za fun K hK => Qa Z (YJ (Qcw (I := I) Z (Qp (by omega) hg) hL (by omega)) (Qa Z (hK _ _ (QS (kp4 Z Z Z Z) ?_))))
 refine Za fun K hK => QG (Ye) Z Z (.inl Z) ?_
 refine ZG (by repeat (first | exact hB.none (by decide) | refine Zv (by first | decide | omega) ?_)) ?_
 refine Q7 Z Z Z Z Z Z Z Z (hK _ _ (QS (kp5 Z Z Z Z Z) ?_))
 refine XH ?_ -- 0
 refine Za fun K hK => Qa Z (hK _ _ (QS (kp6 Z Z Z Z Z Z) ?_))
 refine Yz ?_
 refine QdE (ι := Nat × QfM) (fun ⟨i, s⟩ => ⟨[(0, .ref kg 0 0), (1, .osl kc zs.length), (4, .ref 4 0 0), (5, .int .i64 (nx L I 8)), (6, .ref 6 0 0), (7, .int .i64 i)], [(4, ⟨[[.fsl [], .fsl []]], 2, 78, true⟩), (6, ⟨[[ZM s.1, ZM s.2]], 2, 78, true⟩), (kg, gB L (nxI I) eg)] ++ H⟩) (fun ⟨i, s⟩ => i <= zs.length /\ Qmn (bnd i - 4) s) (fun ⟨i, s⟩ => zs.length - i) (0, ([], [])) ?_ ?_ ?_
 ·exact Qgh (l := [0, 1, 4, 5, 6, 7]) (B := [_, _, _, _]) (kp6 rfl rfl rfl rfl rfl rfl) rfl (by intro p hp; simp only [List.mem_cons, List.not_mem_nil, or_false] at hp; rcases hp with rfl | rfl | rfl <;> exact ⟨by repeat (first | exact QA | refine Qp (by first | decide | omega) ?_), rfl⟩) rfl (by intro p hp h; simp only [List.mem_cons, List.not_mem_nil, or_false] at hp; rcases hp with rfl | rfl | rfl | rfl <;> first | (simp only at h; omega) | (repeat (first | exact Q5 | refine Q1 ?_))) hB hC (by intro p hp k hk; simp only [List.mem_cons, List.not_mem_nil, or_false] at hp; rcases hp with rfl | rfl | rfl | rfl | rfl | rfl <;> first | (simp [D.ids, D.sid, Ze, QZ, ZB] at hk; done) | (simp [D.ids, D.sid, Ze, QZ, ZB] at hk; subst hk; repeat (first | exact Q5 | exact Zu hg | exact Zu hc | refine Q1 ?_)))
 ·exact ⟨Nat.zero_le _, SmN.nil _, SmN.nil _⟩
 intro ⟨i, s⟩ hI
 try dsimp only at hI
 have hb16 := Qqj (i := i) (by omega)
 try dsimp only
 refine XH ?_ -- 1
 refine Za fun K hK => Qa Z (Qa Z ?_)
 first | refine QQ rfl QU ?_ | refine QQ rfl rfl ?_
 refine Yd Z Z (hK _ _ (QS (kp7 Z Z Z Z Z Z Z) ?_))
 refine YQ Z (fun h1 => ?_) (fun h1 => ?_)
 ·try rw [h1]
  try simp only [qA] at h1
  refine Xa (Q6 (kp6 Z Z Z Z Z Z) ?_)
  refine XH ?_ -- 2
  refine Yz (Za fun K hK => Qa Z (Qa Z (Qi2 Z (QfH (by omega) (by omega)) (QrZ Z Z (by omega) (Qb6 Z Z (ZD Z Z (hK _ _ (QS (kp7 Z Z Z Z Z Z Z) ?_))))))))
  refine YQ Z (fun h2 => ?_) (fun h2 => ?_)
  ·try rw [h2]
   try simp only [qA] at h2
   have hvp := (hz _ (List.getElem_mem (show i < zs.length by omega))).1
   refine ZX fun K hK => QM (ds0 := [1, 0]) (cs := [_, _]) Z Z Z Z (by simp [Dr.ok, Qcf]) Z (Qa Z (Qa Z (Xu (ds0 := [4, 3, 2, 1, 0]) Z Z (Qp (by omega) (Qp (by omega) (Qp (by omega) hc))) (by simp) (by omega) (by omega) Z (by simp [Dr.ok, Qcf]) Z (Qj Z (Zu (Qp (by omega) (Qp (by omega) (Qp (by omega) hc)))) (QM (ds0 := [2, 1, 0]) (cs := [_, _, _, _, _]) Z (Yb (Qp (by omega) (Qp (by omega) (Qp (by omega) hc))) (QT (by omega))) Z Z (by simp [Dr.ok, Qcf]) Z (QP (ds0 := [1, 0]) (Qae (hz _ (List.getElem_mem (by omega))).1 (hz _ (List.getElem_mem (by omega))).2) Z Z (.inl Z) (by simp [Dr.ok, Qcf]) Z (QP (ds0 := [0]) (Qex (a := s) (b := (Xq (zs[i]'(by omega)).v.a (zs[i]'(by omega)).v.b (zs[i]'(by omega)).v.c (zs[i]'(by omega)).v.p (zs[i]'(by omega)).v.q)) (hI.2.1.sm (by omega)) (hI.2.2.sm (by omega)) ((QcJ hvp).1.sm (by omega)) ((QcJ hvp).2.sm (by omega)) (by have := hI.2.1.1; have := (QcJ (a := (zs[i]'(by omega)).v.a) (b := (zs[i]'(by omega)).v.b) (c := (zs[i]'(by omega)).v.c) (q := (zs[i]'(by omega)).v.q) hvp).1.1; omega) (by have := hI.2.2.1; have := (QcJ (a := (zs[i]'(by omega)).v.a) (b := (zs[i]'(by omega)).v.b) (c := (zs[i]'(by omega)).v.c) (q := (zs[i]'(by omega)).v.q) hvp).2.1; omega)) Z Z (.inl Z) (by simp [Dr.ok, Qcf]) Z (Xd (ds0 := []) Z Z Z Z Z Z Z Z (by simp [Dr.ok, Qcf]) Z (hK _ ?_)))))))))
   refine Qh (Q6 (kp6 Z Z Z Z Z Z) (ZX fun K hK => Qa Z (QX Z Z (by first | exact Qr (by omega) (by omega) | rfl) (Qa Z (hK _ ?_)))))
   refine Ql (i + 1, Qqw s (Xq (zs[i]'(by omega)).v.a (zs[i]'(by omega)).v.b (zs[i]'(by omega)).v.c (zs[i]'(by omega)).v.p (zs[i]'(by omega)).v.q)) ?_ ?_ ?_
   ·exact Qgh (l := [0, 1, 4, 5, 6, 7]) (B := [_, _, _, _]) (kp6 rfl rfl rfl rfl rfl rfl) rfl (by intro p hp; simp only [List.mem_cons, List.not_mem_nil, or_false] at hp; rcases hp with rfl | rfl | rfl <;> exact ⟨by repeat (first | exact QA | refine Qp (by first | decide | omega) ?_), rfl⟩) rfl (by intro p hp h; simp only [List.mem_cons, List.not_mem_nil, or_false] at hp; rcases hp with rfl | rfl | rfl | rfl <;> first | (simp only at h; omega) | (repeat (first | exact Q5 | refine Q1 ?_))) hB hC (by intro p hp k hk; simp only [List.mem_cons, List.not_mem_nil, or_false] at hp; rcases hp with rfl | rfl | rfl | rfl | rfl | rfl <;> first | (simp [D.ids, D.sid, Ze, QZ, ZB] at hk; done) | (simp [D.ids, D.sid, Ze, QZ, ZB] at hk; subst hk; repeat (first | exact Q5 | exact Zu hg | exact Zu hc | refine Q1 ?_)))
   ·exact ⟨by show i + 1 <= _; omega, Qsx hI.2 (hz _ (List.getElem_mem (by omega))).1 (by omega)⟩
   ·show zs.length - (i + 1) < zs.length - i; omega
  ·try rw [h2]
   try simp only [qA] at h2
   have hvp := (hz _ (List.getElem_mem (show i < zs.length by omega))).1
   refine Xa (Qh (Q6 (kp6 Z Z Z Z Z Z) (ZX fun K hK => Qa Z (QX Z Z (by first | exact Qr (by omega) (by omega) | rfl) (Qa Z (hK _ ?_))))))
   refine Ql (i + 1, s) ?_ ?_ ?_
   ·exact Qgh (l := [0, 1, 4, 5, 6, 7]) (B := [_, _, _]) (kp6 rfl rfl rfl rfl rfl rfl) rfl (by intro p hp; simp only [List.mem_cons, List.not_mem_nil, or_false] at hp; rcases hp with rfl | rfl | rfl <;> exact ⟨by repeat (first | exact QA | refine Qp (by first | decide | omega) ?_), rfl⟩) rfl (by intro p hp h; simp only [List.mem_cons, List.not_mem_nil, or_false] at hp; rcases hp with rfl | rfl | rfl <;> first | (simp only at h; omega) | (repeat (first | exact Q5 | refine Q1 ?_))) hB hC (by intro p hp k hk; simp only [List.mem_cons, List.not_mem_nil, or_false] at hp; rcases hp with rfl | rfl | rfl | rfl | rfl | rfl <;> first | (simp [D.ids, D.sid, Ze, QZ, ZB] at hk; done) | (simp [D.ids, D.sid, Ze, QZ, ZB] at hk; subst hk; repeat (first | exact Q5 | exact Zu hg | exact Zu hc | refine Q1 ?_)))
   ·exact ⟨by show i + 1 <= _; omega, QpZ hI.2⟩
   ·show zs.length - (i + 1) < zs.length - i; omega
 ·try rw [h1]
  try simp only [qA] at h1
  refine QbU (YI (Qy (QF (Q6 (kp3 Z Z Z) ?_))))
  refine XH ?_ -- 3
  refine Za fun K hK => Qa Z (YJ (Qcw (I := nxI I) Z (Qp (by omega) (Qp (by omega) QA)) hL (by omega)) (hK _ _ (QS (kp3 Z Z Z) ?_)))
  refine Yz (Za fun K hK => ZD Z Z (Qa Z (hK _ _ (QS (kp4 Z Z Z Z) ?_))))
  refine YQ Z (fun h3 => ?_) (fun h3 => ?_)
  ·try rw [h3]
   try simp only [qA] at h3
   refine Za fun K hK => QG (QdO) Z Z (.inl Z) (Q7 Z (Qp (by omega) Z) Z Z Z Z Z Z (hK _ _ (QS (kp1 Z) ?_)))
   refine Qfc (Qu (QaZ ?_))
   refine ⟨Qh3 Qm9, (kg, gB L (nxI (nxI I)) eg) :: H, ⟨Qm9, _, ⟨Qqh.1.up (by omega), Qqh.2.up (by omega)⟩, rfl, rfl⟩, (XX hB hC hkg rfl).1, (XX hB hC hkg rfl).2, ?_⟩
   refine QcQ (cs := [ZM Qm9.1, ZM Qm9.2]) Z (Yb (by repeat (first | exact QA | refine Qp (by first | decide | omega) ?_)) Z) Z Z Z ?_
   exact QaU (B := [_, _, _, _, _]) hB (by repeat (first | exact QA | refine Qp (by first | decide | omega) ?_)) (by intro p hp h; simp only [List.mem_cons, List.not_mem_nil, or_false] at hp; rcases hp with rfl | rfl | rfl | rfl | rfl <;> first | rfl | (simp only at h; omega))
  ·try rw [h3]
   try simp only [qA] at h3
   refine Za fun K hK => ZD Z Z (Qa Z (hK _ _ (QS (kp3 Z Z Z) ?_)))
   refine YQ Z (fun h4 => ?_) (fun h4 => ?_)
   ·try rw [h4]
    try simp only [qA] at h4
    refine Za fun K hK => QJ (cs := [_, _]) Z (Yb (Qp (by omega) Z) Z) Z Z (QG (QdQ (a := s) (hI.2.1.sm (by omega)) (hI.2.2.sm (by omega))) Z Z (.inl Z) (Q7 Z (Qp (by omega) Z) Z Z Z Z Z Z (hK _ _ (QS (kp1 Z) ?_))))
    refine Qfc (Qu (QaZ ?_))
    refine ⟨Qh3 (Qix s), (kg, gB L (nxI (nxI I)) eg) :: H, ⟨(Qix s), _, ⟨(Qog hI.2 (by omega)).1.up (by omega), (Qog hI.2 (by omega)).2.up (by omega)⟩, rfl, rfl⟩, (XX hB hC hkg rfl).1, (XX hB hC hkg rfl).2, ?_⟩
    refine QcQ (cs := [ZM (Qix s).1, ZM (Qix s).2]) Z (Yb (by repeat (first | exact QA | refine Qp (by first | decide | omega) ?_)) Z) Z Z Z ?_
    exact QaU (B := [_, _, _, _, _]) hB (by repeat (first | exact QA | refine Qp (by first | decide | omega) ?_)) (by intro p hp h; simp only [List.mem_cons, List.not_mem_nil, or_false] at hp; rcases hp with rfl | rfl | rfl | rfl | rfl <;> first | rfl | (simp only at h; omega))
   ·try rw [h4]
    try simp only [qA] at h4
    refine Xa (Qh (Q6 (kp2 Z Z) (Za fun K hK => QJ (cs := [_, _]) Z (Yb (Qp (by omega) Z) Z) Z Z (Q7 Z (Qp (by omega) Z) Z Z Z Z Z Z (hK _ _ (QS (kp1 Z) ?_))))))
    refine Qfc ?_
    refine ⟨Qh3 s, (kg, gB L (nxI (nxI I)) eg) :: H, ⟨s, _, ⟨hI.2.1.up (by omega), hI.2.2.up (by omega)⟩, rfl, rfl⟩, (XX hB hC hkg rfl).1, (XX hB hC hkg rfl).2, ?_⟩
    refine QcQ (cs := [ZM s.1, ZM s.2]) Z (Yb (by repeat (first | exact QA | refine Qp (by first | decide | omega) ?_)) Z) Z Z Z ?_
    exact QaU (B := [_, _, _, _, _]) hB (by repeat (first | exact QA | refine Qp (by first | decide | omega) ?_)) (by intro p hp h; simp only [List.mem_cons, List.not_mem_nil, or_false] at hp; rcases hp with rfl | rfl | rfl | rfl | rfl <;> first | rfl | (simp only at h; omega))
end Go.Proofs
namespace Go.Proofs
open Go Go.Abs M3 M25
set_option linter.unusedVariables false
set_option linter.unusedSimpArgs false
/-- The call of 'set', over boxes that are lent. -/
theorem Qs2 {H : List (Nat × Box)} {kg kc : Nat} {L : List Int} {I : Int} {eg ec : Nat} {pr : Bool} {zs : List CR} (hg : lk H kg = some (gB L I eg)) (hc : lk H kc = some ⟨zs.map dCR, 8, ec, pr⟩) (hne : kg ≠ kc) (hC : Closed H) (hL : ∀ x ∈ L, I64 x) (hz : ∀ z ∈ zs, Qg6 z.v) (hn : zs.length <= 16) :
  ∃ s I2, SetOk s /\ ∀ (st : St) (args : List Opd), Zx st args = some [.ref kg 0 0, .osl kc zs.length] -> (∀ j x, lk H j = some x -> lk st.H j = some x) -> Qbw Tryz.prog 74 args st H [] [(kg, gB L I2 eg)] (Qh3 s) := by
 obtain ⟨d, H2, ⟨s, I2, hs, rfl, rfl⟩, hok⟩ := QdL (H := upH H) (kg := upN kg) (kc := upN kc) (L := L) (I := I) (eg := eg) (ec := ec) (pr := pr) (zs := zs.map CR.ren) (by unfold upN; omega) (by rw [QaV, hg]; rfl) (by rw [QaV, hc, Option.map_some, Box.ren, Qnj]) (fun e => hne (Qk7 e)) Qk6 (Qe0 hC) hL
  (fun z hz' => by obtain ⟨z0, h0, rfl⟩ := List.mem_map.1 hz'; exact hz z0 h0) (by simpa using hn)
 refine ⟨s, I2, hs, fun st args ha hF => Qll (b' := gB L I2 eg) (ds' := [.ref (upN kg) 0 0, .osl (upN kc) zs.length]) ha hF hC (fun x hx j hj => ?_) (Zu hg) Z Z Z Z ?_⟩
 ·simp only [List.mem_cons, List.not_mem_nil, or_false] at hx
  rcases hx with rfl | rfl
  ·simp [D.ids, D.sid] at hj; subst hj; exact Zu hg
  ·simp [D.ids, D.sid] at hj; subst hj; exact Zu hc
 ·rw [List.length_map] at hok; exact hok
theorem Qdk {H : List (Nat × Box)} {kg ku : Nat} {L : List Int} {I : Int} {eg eu ec : Nat} {us : List UR} (hkg : 1000000 <= kg) (hg : lk H kg = some (gB L I eg)) (hU : Fam H kg ku eu ec us) (hB : Big H) (hC : Closed H) (hL : ∀ x ∈ L, I64 x) (h2n : 2 <= us.length) (hn : us.length <= 48) : ∃ d H2, (∃ x I2, WantIn us.length x /\ d = .agg (Qff x) /\ H2 = (kg, gB L I2 eg) :: H) /\ OkH Tryz.prog 43 [.ref kg 0 0, .osl ku us.length] H d H2 := by
 obtain ⟨pu, hu⟩ := hU.u
 have hku := hB _ _ hu
 have hne := hU.ne
 have hx0 := QhB (v := QoW L (IntKind.i64.wrap (nxI I - 1))) (n := (us.length : Int) - 1)
 have hx1 := QhA (v := QoW L (IntKind.i64.wrap (nxI I - 1))) (n := (us.length : Int) - 1) (by omega)
 change 0 <= nx L I ((us.length : Int) - 1) at hx0
 change nx L I ((us.length : Int) - 1) < _ at hx1
 obtain ⟨hyk, pr, hy⟩ := hU.c (us[(1 + nx L I ((us.length : Int) - 1)).toNat]'(by omega)) (List.getElem_mem _)
 obtain ⟨hv1, hv2⟩ := hU.v (us[(1 + nx L I ((us.length : Int) - 1)).toNat]'(by omega)) (List.getElem_mem _)
 obtain ⟨s, I2, hs, hcall⟩ := Qs2 (H := (kg, gB L (nxI I) eg) :: H) QA (Qp (Ne.symm hyk) hy) (Ne.symm hyk) (hC.pr rfl) hL hv2 hv1
 refine OkH.ofX (R := fun d H2 => ∃ x I2, WantIn us.length x /\ d = .agg (Qff x) /\ H2 = (kg, gB L I2 eg) :: H) ZT Tryz.func43 Quj (Nat.le_of_ble_eq_true Z) ?_
 show TX _ _ tf43.body _ _
 refine Za fun K hK => ?_
 refine ZG (by repeat (first | exact hB.none (by decide) | refine Zv (by first | decide | omega) ?_)) ?_
 refine hK _ _ (QS (kp3 Z Z Z) ?_)
 refine Za fun K hK => Qa Z (Qa Z ?_)
 first | refine QQ rfl QU ?_ | refine QQ rfl rfl ?_
 refine X7 Z Z (by first | exact Qr (by omega) (by omega) | rfl) (YJ (Qcw (I := I) Z (Qp (by omega) hg) hL (by omega)) (QX Z Z (by first | exact Qr (by omega) (by omega) | rfl) (Qa Z (hK _ _ (QS (kp4 Z Z Z Z) ?_)))))
 refine Za fun K hK => Qa rfl (Qa rfl (Qa rfl (Qa rfl (YY rfl rfl (Qp (by omega) (Qp (by omega) hu)) (by simp) (by omega) (by omega) rfl (Qj rfl (Zu (Qp (by omega) (Qp (by omega) hu))) (QB rfl (Yb (Qp (by omega) (Qp (by omega) hu)) (ZE (by omega) (by omega))) rfl (YJ (hcall _ _ rfl (QaU (B := [_, _]) hB QA (by intro p hp h; simp only [List.mem_cons, List.not_mem_nil, or_false] at hp; rcases hp with rfl | rfl <;> first | rfl | (simp only at h; omega)))) (QV rfl rfl (Q7 rfl (Qp (by omega) (Qp (by omega) rfl)) rfl rfl rfl rfl rfl rfl (hK _ _ (QS (kp1 rfl) ?_)))))))))))
 refine Qfc ?_
 refine ⟨.agg (Qff ⟨1 + nx L I ((us.length : Int) - 1), s⟩), (kg, gB L I2 eg) :: H, ⟨⟨1 + nx L I ((us.length : Int) - 1), s⟩, _, ⟨by show 1 <= 1 + _; omega, by show 1 + _ < (us.length : Int); omega, hs⟩, rfl, rfl⟩, (XX hB hC hkg rfl).1, (XX hB hC hkg rfl).2, ?_⟩
 refine QcQ (cs := Qff ⟨1 + nx L I ((us.length : Int) - 1), s⟩) Z (Yb (by repeat (first | exact QA | refine Qp (by first | decide | omega) ?_)) Z) Z Z Z ?_
 exact QaU (B := [_, _, _, _]) hB (by repeat (first | exact QA | refine Qp (by first | decide | omega) ?_)) (by intro p hp h; simp only [List.mem_cons, List.not_mem_nil, or_false] at hp; rcases hp with rfl | rfl | rfl | rfl <;> first | rfl | (simp only at h; omega))
/-- The call of 'want'. -/
theorem QlZ {H : List (Nat × Box)} {kg ku : Nat} {L : List Int} {I : Int} {eg eu ec : Nat} {us : List UR} (hg : lk H kg = some (gB L I eg)) (hU : Fam H kg ku eu ec us) (hC : Closed H) (hL : ∀ x ∈ L, I64 x) (h2 : 2 <= us.length) (hn : us.length <= 48) :
  ∃ x I2, WantIn us.length x /\ ∀ (st : St) (args : List Opd), Zx st args = some [.ref kg 0 0, .osl ku us.length] -> (∀ j x, lk H j = some x -> lk st.H j = some x) -> Qbw Tryz.prog 43 args st H [] [(kg, gB L I2 eg)] (.agg (Qff x)) := by
 obtain ⟨d, H2, ⟨x, I2, hx, rfl, rfl⟩, hok⟩ := Qdk (H := upH H) (kg := upN kg) (ku := upN ku) (L := L) (I := I) (eg := eg) (eu := eu) (ec := ec) (us := us.map UR.ren) (by unfold upN; omega) (by rw [QaV, hg]; rfl) hU.up Qk6 (Qe0 hC) hL (by simpa using h2) (by simpa using hn)
 obtain ⟨pu, hu⟩ := hU.u
 rw [List.length_map] at hx hok
 refine ⟨x, I2, hx, fun st args ha hF => Qll (b' := gB L I2 eg) (ds' := [.ref (upN kg) 0 0, .osl (upN ku) us.length]) ha hF hC (fun x hx j hj => ?_) (Zu hg) Z Z Z Z hok⟩
 simp only [List.mem_cons, List.not_mem_nil, or_false] at hx
 rcases hx with rfl | rfl
 ·simp [D.ids, D.sid] at hj; subst hj; exact Zu hg
 ·simp [D.ids, D.sid] at hj; subst hj; exact Zu hu
end Go.Proofs
namespace Go.Proofs
open Go Go.Abs M3 M25
set_option linter.unusedVariables false
set_option linter.unusedSimpArgs false
theorem QcY {H : List (Nat × Box)} {kg ku : Nat} {L : List Int} {I most : Int} {eg eu ec : Nat} {us : List UR} (hkg : 1000000 <= kg) (hg : lk H kg = some (gB L I eg)) (hU : Fam H kg ku eu ec us) (hB : Big H) (hC : Closed H) (hL : ∀ x ∈ L, I64 x) (h2n : 2 <= us.length) (hn : us.length <= 48) (hm0 : 0 <= most) (hm1 : most <= 10) : ∃ d H2, (∃ ns I2, QfJ us.length most ns /\ d = QZ ns /\ H2 = (kg, gB L I2 eg) :: H) /\ OkH Tryz.prog 40 [.ref kg 0 0, .osl ku us.length, .int .i64 most] H d H2 := by
 obtain ⟨pu, hu⟩ := hU.u
 have hku := hB _ _ hu
 have hne := hU.ne
 have hk0 : 0 <= nx L I (most + 1) := QhB
 have hk1 : nx L I (most + 1) < most + 1 := QhA (by omega)
 refine OkH.ofX (R := fun d H2 => ∃ ns I2, QfJ us.length most ns /\ d = QZ ns /\ H2 = (kg, gB L I2 eg) :: H) ZT Tryz.func40 Qug (Nat.le_of_ble_eq_true Z) ?_
 show TX _ _ tf40.body _ _
 refine Za fun K hK => Qa Z (hK _ _ (QS (kp3 Z Z Z) ?_))
 refine Za fun K hK => Qa Z (hK _ _ (QS (kp4 Z Z Z Z) ?_))
 refine XH ?_ -- 0
 refine Za fun K hK => Qa Z (Qa Z (QX Z Z (by first | exact Qr (by omega) (by omega) | rfl) (YJ (Qcw (I := I) Z hg hL (by omega)) (Qa Z (hK _ _ (QS (kp4 Z Z Z Z) ?_))))))
 refine Yz ?_
 refine QdE (ι := Nat × List (List WantT) × Int) (fun ⟨k, ns, J⟩ => ⟨[(0, .ref kg 0 0), (1, .osl ku us.length), (7, .osl 7 ns.length), (8, .int .i64 k)], [(7, ⟨(ns).map (fun r => [Ze r]), 1, 69, true⟩), (kg, gB L J eg)] ++ H⟩) (fun ⟨k, ns, J⟩ => (ns.length : Int) + k <= most /\ ∀ r ∈ ns, Qi3 us.length r) (fun ⟨k, ns, J⟩ => k) ((nx L I (most + 1)).toNat, [], nxI I) ?_ ?_ ?_
 ·exact le_trans (Yp 7 7 1 69 rfl (by repeat (first | exact hB.none (by decide) | refine Zv (by first | decide | omega) ?_))) (Qgh (l := [0, 1, 7, 8]) (B := [_, _]) (kp4 rfl rfl rfl rfl) (by simp only [Int.toNat_of_nonneg hk0] <;> rfl) (by intro p hp; simp only [List.mem_cons, List.not_mem_nil, or_false] at hp; rcases hp with rfl | rfl <;> exact ⟨by repeat (first | exact QA | refine Qp (by first | decide | omega) ?_), rfl⟩) rfl (by intro p hp h; simp only [List.mem_cons, List.not_mem_nil, or_false] at hp; rcases hp with rfl | rfl <;> first | (simp only at h; omega) | (repeat (first | exact Q5 | refine Q1 ?_))) hB hC (by intro p hp k hk; simp only [List.mem_cons, List.not_mem_nil, or_false] at hp; rcases hp with rfl | rfl | rfl | rfl <;> first | (simp [D.ids, D.sid, Ze, QZ, ZB] at hk; done) | (simp [D.ids, D.sid, Ze, QZ, ZB] at hk; subst hk; repeat (first | exact Q5 | exact Zu hg | exact Zu hu | refine Q1 ?_))))
 ·exact ⟨by simp only [List.length_nil]; omega, by simp⟩
 intro ⟨k, ns, J⟩ hI
 try dsimp only at hI
 try dsimp only
 refine XH ?_ -- 1
 refine Za fun K hK => Qa Z (QhT Z Z (hK _ _ (QS (kp5 Z Z Z Z Z) ?_)))
 refine YQ Z (fun h1 => ?_) (fun h1 => ?_)
 ·try rw [h1]
  try simp only [qA] at h1
  refine Xa (Q6 (kp4 Z Z Z Z) ?_)
  refine XH ?_ -- 2
  refine Yz (Za fun K hK => Qa Z (Qa Z ?_))
  obtain ⟨x1, J1, hx1, hc1⟩ := QlZ (I := J) (H := (kg, gB L (J) eg) :: H) QA hU.cons (hC.pr rfl) hL h2n hn
  refine YJ (hc1 _ _ rfl (QaU (B := [_, _]) hB (by repeat (first | exact QA | refine Qp (by first | decide | omega) ?_)) (by intro p hp h; simp only [List.mem_cons, List.not_mem_nil, or_false] at hp; rcases hp with rfl | rfl <;> first | rfl | (simp only at h; omega)))) ?_
  refine QI Z (by repeat (first | exact hB.none (by decide) | refine Zv (by first | decide | omega) ?_)) ?_
  refine Qa Z (hK _ _ (QS (kp5 Z Z Z Z Z) ?_))
  refine Qr3 (ι := List WantT × Int) (fun ⟨r, J4⟩ => ⟨[(0, .ref kg 0 0), (1, .osl ku us.length), (7, .osl 7 ns.length), (8, .int .i64 k), (9, Ze r)], [(7, ⟨(ns).map (fun r => [Ze r]), 1, 69, true⟩), (kg, gB L J4 eg)] ++ H⟩) (fun ⟨r, J4⟩ => Qi3 us.length r) ?_ ?_
  ·skip
   refine Za fun K hK => Qa Z (YJ (Qcw (I := J1) Z (Qp (by omega) QA) hL (by omega)) (ZD Z Z (hK _ _ (QS (kp6 Z Z Z Z Z Z) ?_))))
   refine YQ Z (fun h2 => ?_) (fun h2 => ?_)
   ·try rw [h2]
    try simp only [qA] at h2
    refine ZX fun K hK => Qa Z (Qa Z (Qa Z ?_))
    obtain ⟨x2, J2, hx2, hc2⟩ := QlZ (I := nxI J1) (H := (kg, gB L (nxI J1) eg) :: H) QA hU.cons (hC.pr rfl) hL h2n hn
    refine YJ (hc2 _ _ rfl (QaU (B := [_, _, _, _, _]) hB (by repeat (first | exact QA | refine Qp (by first | decide | omega) ?_)) (by intro p hp h; simp only [List.mem_cons, List.not_mem_nil, or_false] at hp; rcases hp with rfl | rfl | rfl | rfl | rfl <;> first | rfl | (simp only at h; omega)))) ?_
    refine QI Z (by repeat (first | exact hB.none (by decide) | refine Zv (by first | decide | omega) ?_)) ?_
    refine QqM Z Z (by simp [D.ids, D.sid]) ⟨_, rfl, rfl, rfl, rfl, rfl⟩ (by repeat (first | exact hB.none (by decide) | refine Zv (by first | decide | omega) ?_)) (Qp (by decide) (Qp (by omega) (Qp (by omega) Z))) Z Z Z (by simp) (by simp) ?_
    refine Qa Z (hK _ ?_)
    refine Z5 ([x1, x2], J2) ?_ ?_
    ·exact le_trans (QkB (l := [0, 1, 7, 8]) (B := [_, _, _, _, _, _, _, _, _]) (A := [(7, ⟨(ns).map (fun r => [Ze r]), 1, 69, true⟩), (kg, gB L J2 eg)]) 30 9 (kp4 rfl rfl rfl rfl) rfl rfl rfl (by first | (simp; done) | (simp; omega)) (by intro p hp hk; simp only [List.mem_cons, List.not_mem_nil, or_false] at hp; rcases hp with rfl | rfl | rfl | rfl <;> first | (simp [D.ids, D.sid, Ze, QZ, ZB] at hk; done) | (simp [D.ids, D.sid, Ze, QZ, ZB] at hk; omega)) (by intro p hp; simp only [List.mem_cons, List.not_mem_nil, or_false] at hp; rcases hp with rfl | rfl <;> exact ⟨by first | decide | (simp only; omega), by repeat (first | exact QA | refine Qp (by first | decide | omega) ?_), rfl⟩) (by intro p hp h; simp only [List.mem_cons, List.not_mem_nil, or_false] at hp; rcases hp with rfl | rfl | rfl | rfl | rfl | rfl | rfl | rfl | rfl <;> first | (simp only at h; omega) | (repeat (first | exact Q5 | refine Q1 ?_))) hB hC (by intro p hp k hk; simp only [List.mem_cons, List.not_mem_nil, or_false] at hp; rcases hp with rfl | rfl | rfl | rfl <;> first | (simp [D.ids, D.sid, Ze, QZ, ZB] at hk; done) | (simp [D.ids, D.sid, Ze, QZ, ZB] at hk; subst hk; repeat (first | exact Q5 | exact Zu hg | exact Zu hu | refine Q1 ?_)))) (Qgh (l := [0, 1, 7, 8, 9]) (B := [_, _]) (kp5 rfl rfl rfl rfl rfl) rfl (by intro p hp; simp only [List.mem_cons, List.not_mem_nil, or_false] at hp; rcases hp with rfl | rfl <;> exact ⟨by repeat (first | exact QA | refine Qp (by first | decide | omega) ?_), rfl⟩) rfl (by intro p hp h; simp only [List.mem_cons, List.not_mem_nil, or_false] at hp; rcases hp with rfl | rfl <;> first | (simp only at h; omega) | (repeat (first | exact Q5 | refine Q1 ?_))) hB hC (by intro p hp k hk; simp only [List.mem_cons, List.not_mem_nil, or_false] at hp; rcases hp with rfl | rfl | rfl | rfl | rfl <;> first | (simp [D.ids, D.sid, Ze, QZ, ZB] at hk; done) | (simp [D.ids, D.sid, Ze, QZ, ZB] at hk; subst hk; repeat (first | exact Q5 | exact Zu hg | exact Zu hu | refine Q1 ?_))))
    ·exact Qrx hx1 hx2
   ·try rw [h2]
    try simp only [qA] at h2
    refine Xa ?_
    refine Z5 ([x1], nxI J1) ?_ ?_
    ·exact le_trans (QkB (l := [0, 1, 7, 8]) (B := [_, _, _, _, _]) (A := [(7, ⟨(ns).map (fun r => [Ze r]), 1, 69, true⟩), (kg, gB L (nxI J1) eg)]) 21 9 (kp4 rfl rfl rfl rfl) rfl (Qp (by omega) rfl) rfl (by first | (simp; done) | (simp; omega)) (by intro p hp hk; simp only [List.mem_cons, List.not_mem_nil, or_false] at hp; rcases hp with rfl | rfl | rfl | rfl <;> first | (simp [D.ids, D.sid, Ze, QZ, ZB] at hk; done) | (simp [D.ids, D.sid, Ze, QZ, ZB] at hk; omega)) (by intro p hp; simp only [List.mem_cons, List.not_mem_nil, or_false] at hp; rcases hp with rfl | rfl <;> exact ⟨by first | decide | (simp only; omega), by repeat (first | exact QA | refine Qp (by first | decide | omega) ?_), rfl⟩) (by intro p hp h; simp only [List.mem_cons, List.not_mem_nil, or_false] at hp; rcases hp with rfl | rfl | rfl | rfl | rfl <;> first | (simp only at h; omega) | (repeat (first | exact Q5 | refine Q1 ?_))) hB hC (by intro p hp k hk; simp only [List.mem_cons, List.not_mem_nil, or_false] at hp; rcases hp with rfl | rfl | rfl | rfl <;> first | (simp [D.ids, D.sid, Ze, QZ, ZB] at hk; done) | (simp [D.ids, D.sid, Ze, QZ, ZB] at hk; subst hk; repeat (first | exact Q5 | exact Zu hg | exact Zu hu | refine Q1 ?_)))) (Qgh (l := [0, 1, 7, 8, 9]) (B := [_, _]) (kp5 rfl rfl rfl rfl rfl) rfl (by intro p hp; simp only [List.mem_cons, List.not_mem_nil, or_false] at hp; rcases hp with rfl | rfl <;> exact ⟨by repeat (first | exact QA | refine Qp (by first | decide | omega) ?_), rfl⟩) rfl (by intro p hp h; simp only [List.mem_cons, List.not_mem_nil, or_false] at hp; rcases hp with rfl | rfl <;> first | (simp only at h; omega) | (repeat (first | exact Q5 | refine Q1 ?_))) hB hC (by intro p hp k hk; simp only [List.mem_cons, List.not_mem_nil, or_false] at hp; rcases hp with rfl | rfl | rfl | rfl | rfl <;> first | (simp [D.ids, D.sid, Ze, QZ, ZB] at hk; done) | (simp [D.ids, D.sid, Ze, QZ, ZB] at hk; subst hk; repeat (first | exact Q5 | exact Zu hg | exact Zu hu | refine Q1 ?_))))
    ·exact Qrw hx1
  intro ⟨r, J4⟩ hJ
  try dsimp only at hJ
  try dsimp only
  refine ZX fun K hK => Qa Z (Qa Z ?_)
  refine QI Z (by repeat (first | exact hB.none (by decide) | refine Zv (by first | decide | omega) ?_)) ?_
  refine XI Z Z (fun _ h => Xr Z Z Z h) Z (by simp) Z Z Z (by simp; omega) (by simp; omega) (Qa Z (hK _ ?_))
  refine Qh (Q6 (kp4 Z Z Z Z) (ZX fun K hK => Qa Z (X7 Z Z (by first | exact Qr (by omega) (by omega) | rfl) (Qa Z (hK _ ?_)))))
  refine Ql (k - 1, ns ++ [r], J4) ?_ ?_ ?_
  ·exact le_trans (Qsl (B := [_, _, _, _]) 7 hB hC) (Qgh (l := [0, 1, 7, 8]) (A := [(7, ⟨ns.map (fun r => [Ze r]) ++ [[Ze r]], 1, 69, true⟩), (kg, gB L J4 eg)]) (B := [_, _, _, _]) (kp4 rfl rfl rfl rfl) (by simp [D.scrub, show ¬ kg = 7 by omega, show ¬ ku = 7 by omega] <;> omega) (by intro p hp; simp only [List.mem_cons, List.not_mem_nil, or_false] at hp; rcases hp with rfl | rfl <;> exact ⟨by repeat (first | exact QA | refine Qp (by first | decide | omega) ?_), rfl⟩) (by simp) (by intro p hp h; simp only [List.mem_cons, List.not_mem_nil, or_false] at hp; rcases hp with rfl | rfl | rfl | rfl <;> first | (simp only at h; omega) | (repeat (first | exact Q5 | refine Q1 ?_))) hB hC (by intro p hp k hk; simp only [List.mem_cons, List.not_mem_nil, or_false] at hp; rcases hp with rfl | rfl | rfl | rfl <;> first | (simp [D.ids, D.sid, Ze, QZ, ZB] at hk; done) | (simp [D.ids, D.sid, Ze, QZ, ZB] at hk; subst hk; repeat (first | exact Q5 | exact Zu hg | exact Zu hu | refine Q1 ?_))))
  ·exact ⟨by simp only [List.length_append, List.length_singleton]; omega, QoA hI.2 hJ⟩
  ·show k - 1 < k; omega
 ·try rw [h1]
  try simp only [qA] at h1
  refine QbU (YI (Qy (QF (Q6 (kp1 Z) (Za fun K hK => Qa Z (Qa Z (hK _ _ (QS (kp1 Z) ?_))))))))
  refine Qfc ?_
  refine ⟨QZ ns, (kg, gB L J eg) :: H, ⟨ns, _, ⟨by omega, hI.2⟩, rfl, rfl⟩, (XX hB hC hkg rfl).1, (XX hB hC hkg rfl).2, ?_⟩
  refine Xc Z (by simp [QmU, D.fz, D.fzS, Qfk, lk, D.can, D.canS, QZ]) ?_
  exact QaU (B := [_, _]) hB (by repeat (first | exact QA | refine Qp (by first | decide | omega) ?_)) (by intro p hp h; simp only [List.mem_cons, List.not_mem_nil, or_false] at hp; rcases hp with rfl | rfl <;> first | rfl | (simp only at h; omega))
end Go.Proofs
