/- Part 4 of the means of the proof: a verified abstract evaluator, the prepared functions, and contracts of functions. It states nothing of the claim by itself. -/
import Derived.Test.YtnkkhniiddjibaaGreatB3
set_option linter.unusedSimpArgs false
set_option linter.unusedVariables false
namespace Go.Proofs
open Go Go.Abs M3
set_option linter.unusedVariables false
set_option linter.unusedSimpArgs false
theorem Xq {a b c : Int} {p q : List UInt8} (hp : p.length <= 1000000) (hq : q.length <= 1000000) {a' b' c' : Int} {p' q' : List UInt8} (hp' : p'.length <= 1000000) (hq' : q'.length <= 1000000) : Ok Tryz.prog 115 [.agg [.int .i64 a, .int .i64 b, .int .i64 c, .str p, .str q], .agg [.int .i64 a', .int .i64 b', .int .i64 c', .str p', .str q']] (.int .i64 (Qmi a b c p q a' b' c' p' q')) := by
 refine Ok.ofT ZY Tryz.func115 Qq4 (Nat.le_of_ble_eq_true rfl) ?_
 show TW _ _ tf115.body _ _
 refine Qf fun K hK => Zv rfl rfl rfl (Zv rfl rfl rfl (Qa rfl ?_))
 refine hK _ _ (Qb (kp2 rfl rfl) ?_)
 refine QB ?_ -- 0
 refine Qf fun K hK => QH (cs := [_, _, _, _, _]) rfl rfl rfl rfl (QI (Zf (by omega) (by omega)) rfl rfl (.inr rfl) (Ym rfl (Qa rfl ?_)))
 refine QE (g := 11) rfl (fun h1 => ?_) (fun h1 => ?_)
 ·try rw [h1]
  try simp only [qa, qb, qc, qd, qe] at h1
  refine Qt rfl (Qt rfl (Qt rfl (Qo rfl rfl ?_)))
  refine hK _ _ (Qb (kp3 rfl rfl rfl) ?_)
  refine Zt rfl (Qf fun K hK => Qa rfl ?_)
  refine hK _ _ (Qb (kp1 rfl) ?_)
  refine Qu (Qj (QG rfl ?_))
  simp [Qmi, h1]
 ·try rw [h1]
  try simp only [qa, qb, qc, qd, qe] at h1
  refine Qk rfl (QH (cs := [_, _, _, _, _]) rfl rfl rfl rfl (Qk rfl (QI (Zf (by omega) (by omega)) rfl rfl (.inr rfl) (Qk rfl (Ym rfl (Qo rfl rfl ?_))))))
  refine hK _ _ (Qb (kp3 rfl rfl rfl) ?_)
  refine Qw rfl (fun h2 => ?_) (fun h2 => ?_)
  ·try rw [h2]
   try simp only [qa, qb, qc, qd, qe] at h2
   refine Qf fun K hK => Qa rfl ?_
   refine hK _ _ (Qb (kp1 rfl) ?_)
   refine Qu (Qj (QG rfl ?_))
   simp [Qmi, h1, h2]
  ·try rw [h2]
   try simp only [qa, qb, qc, qd, qe] at h2
   refine Qv (Qd (kp2 rfl rfl) ?_)
   refine QB ?_ -- 1
   refine Qf fun K hK => Qh rfl rfl (QA rfl rfl rfl (Qh rfl rfl (QA rfl rfl rfl (QI (Zu) rfl rfl (.inr rfl) (Qa rfl ?_)))))
   refine hK _ _ (Qb (kp3 rfl rfl rfl) ?_)
   refine Qf fun K hK => Qa rfl (X8 rfl rfl ?_)
   refine hK _ _ (Qb (kp4 rfl rfl rfl rfl) ?_)
   refine Qw rfl (fun h3 => ?_) (fun h3 => ?_)
   ·try rw [h3]
    try simp only [qa, qb, qc, qd, qe] at h3
    refine Qf fun K hK => Qa rfl (Qa rfl ?_)
    refine hK _ _ (Qb (kp1 rfl) ?_)
    refine Qu (Qj (QG rfl ?_))
    simp [Qmi, h1, h2, h3]
   ·try rw [h3]
    try simp only [qa, qb, qc, qd, qe] at h3
    refine Qv (Qd (kp2 rfl rfl) ?_)
    refine QB ?_ -- 2
    refine Qf fun K hK => Qh rfl rfl (QA rfl rfl rfl (Qh rfl rfl (QA rfl rfl rfl (QI (Zu) rfl rfl (.inr rfl) (Qa rfl ?_)))))
    refine hK _ _ (Qb (kp3 rfl rfl rfl) ?_)
    refine Qf fun K hK => Qa rfl (X8 rfl rfl ?_)
    refine hK _ _ (Qb (kp4 rfl rfl rfl rfl) ?_)
    refine Qw rfl (fun h4 => ?_) (fun h4 => ?_)
    ·try rw [h4]
     try simp only [qa, qb, qc, qd, qe] at h4
     refine Qf fun K hK => Qa rfl (Qa rfl ?_)
     refine hK _ _ (Qb (kp1 rfl) ?_)
     refine Qu (Qj (QG rfl ?_))
     simp [Qmi, h1, h2, h3, h4]
    ·try rw [h4]
     try simp only [qa, qb, qc, qd, qe] at h4
     refine Qv (Qd (kp2 rfl rfl) ?_)
     refine QB ?_ -- 3
     refine Qf fun K hK => Qh rfl rfl (QA rfl rfl rfl (Qh rfl rfl (QA rfl rfl rfl (QI (Zu) rfl rfl (.inr rfl) (Qa rfl ?_)))))
     refine hK _ _ (Qb (kp3 rfl rfl rfl) ?_)
     refine Qf fun K hK => Qa rfl (X8 rfl rfl ?_)
     refine hK _ _ (Qb (kp4 rfl rfl rfl rfl) ?_)
     refine Qw rfl (fun h5 => ?_) (fun h5 => ?_)
     ·try rw [h5]
      try simp only [qa, qb, qc, qd, qe] at h5
      refine Qf fun K hK => Qa rfl (Qa rfl ?_)
      refine hK _ _ (Qb (kp1 rfl) ?_)
      refine Qu (Qj (QG rfl ?_))
      simp [Qmi, h1, h2, h3, h4, h5]
     ·try rw [h5]
      try simp only [qa, qb, qc, qd, qe] at h5
      refine Qv (Qd (kp2 rfl rfl) (Qf fun K hK => Qh rfl rfl (QA rfl rfl rfl (Qh rfl rfl (QA rfl rfl rfl (QI (QcZ (by omega) (by omega)) rfl rfl (.inr rfl) (Qa rfl ?_)))))))
      refine hK _ _ (Qb (kp1 rfl) ?_)
      refine Qu (QG rfl ?_)
      simp [Qmi, h1, h2, h3, h4, h5]
theorem Ye {e a b c : Int} {p q : List UInt8} {f : Bool} (hp : p.length <= 1000000) (hq : q.length <= 1000000) : Ok Tryz.prog 113 [.agg [.int .i64 e, .int .i64 a, .int .i64 b, .int .i64 c, .str p, .str q, .bool f]] (.bool (Qep e a b c p q f)) := by
 refine Ok.ofT ZY Tryz.func113 Qq2 (Nat.le_of_ble_eq_true rfl) ?_
 show TW _ _ tf113.body _ _
 refine Qf fun K hK => Zv rfl rfl rfl (Qa rfl ?_)
 refine hK _ _ (Qb (kp1 rfl) ?_)
 refine QB ?_ -- 0
 refine Qf fun K hK => Qh rfl rfl (QA rfl rfl rfl (ZO rfl rfl ?_))
 refine hK _ _ (Qb (kp2 rfl rfl) ?_)
 refine Qw rfl (fun h1 => ?_) (fun h1 => ?_)
 ·try rw [h1]
  try simp only [qa, qb, qc, qd, qe] at h1
  refine Qf fun K hK => Qh rfl rfl (QH (cs := [_, _, _, _, _]) rfl rfl rfl rfl (QI (Zf (by omega) (by omega)) rfl rfl (.inr rfl) (Qa rfl ?_)))
  refine QE (g := 9) rfl (fun h2 => ?_) (fun h2 => ?_)
  ·try rw [h2]
   try simp only [qa, qb, qc, qd, qe] at h2
   refine Qk rfl (Qh rfl rfl (Qk rfl (Qh rfl rfl (Qk rfl (QA rfl rfl rfl (Qk rfl (Qg1 rfl rfl (Qo rfl rfl (Qa rfl ?_)))))))))
   refine hK _ _ (Qb (kp1 rfl) ?_)
   refine Qu (Qj (Qs rfl ?_))
   simp_all [Qep]
  ·try rw [h2]
   try simp only [qa, qb, qc, qd, qe] at h2
   refine Qt rfl (Qt rfl (Qt rfl (Qt rfl (Qo rfl rfl (Qa rfl ?_)))))
   refine hK _ _ (Qb (kp1 rfl) ?_)
   refine Qu (Qj (Qs rfl ?_))
   simp_all [Qep]
 ·try rw [h1]
  try simp only [qa, qb, qc, qd, qe] at h1
  refine Qv (Qd (kp1 rfl) (Qf fun K hK => Qh rfl rfl (QA rfl rfl rfl (ZO rfl rfl (Qa rfl ?_)))))
  refine QE (g := 18) rfl (fun h3 => ?_) (fun h3 => ?_)
  ·try rw [h3]
   try simp only [qa, qb, qc, qd, qe] at h3
   refine Qt rfl (Qt rfl (Qt rfl (Qo rfl rfl (Qa rfl (Qk rfl (Qh rfl rfl (Qk rfl (QH (cs := [_, _, _, _, _]) rfl rfl rfl rfl (Qk rfl (QX rfl rfl (Qk rfl ?_)))))))))))
   refine QlC rfl rfl rfl (Qo rfl rfl (Qa rfl ?_))
   refine QE (g := 29) rfl (fun h4 => ?_) (fun h4 => ?_)
   ·try rw [h4]
    try simp only [qa, qb, qc, qd, qe] at h4
    refine Qk rfl (Qh rfl rfl (Qk rfl (QA rfl rfl rfl (Qk rfl (Ym rfl (Qo rfl rfl (Qa rfl ?_)))))))
    refine hK _ _ (Qb (kp1 rfl) ?_)
    refine Qu (Qs rfl ?_)
    simp_all [Qep]
   ·try rw [h4]
    try simp only [qa, qb, qc, qd, qe] at h4
    refine Qt rfl (Qt rfl (Qt rfl (Qo rfl rfl (Qa rfl ?_))))
    refine hK _ _ (Qb (kp1 rfl) ?_)
    refine Qu (Qs rfl ?_)
    simp_all [Qep]
  ·try rw [h3]
   try simp only [qa, qb, qc, qd, qe] at h3
   refine Qk rfl (Qh rfl rfl (Qk rfl (QA rfl rfl rfl (Qk rfl (ZO rfl rfl (Qo rfl rfl (Qa rfl ?_)))))))
   refine QE (g := 23) rfl (fun h5 => ?_) (fun h5 => ?_)
   ·try rw [h5]
    try simp only [qa, qb, qc, qd, qe] at h5
    refine Qk rfl (Qh rfl rfl (Qk rfl (QH (cs := [_, _, _, _, _]) rfl rfl rfl rfl (Qk rfl (QX rfl rfl (Qk rfl (QlC rfl rfl rfl (Qo rfl rfl (Qa rfl ?_)))))))))
    refine QE (g := 29) rfl (fun h6 => ?_) (fun h6 => ?_)
    ·try rw [h6]
     try simp only [qa, qb, qc, qd, qe] at h6
     refine Qk rfl (Qh rfl rfl (Qk rfl (QA rfl rfl rfl (Qk rfl (Ym rfl (Qo rfl rfl (Qa rfl ?_)))))))
     refine hK _ _ (Qb (kp1 rfl) ?_)
     refine Qu (Qs rfl ?_)
     simp_all [Qep]
    ·try rw [h6]
     try simp only [qa, qb, qc, qd, qe] at h6
     refine Qt rfl (Qt rfl (Qt rfl (Qo rfl rfl (Qa rfl ?_))))
     refine hK _ _ (Qb (kp1 rfl) ?_)
     refine Qu (Qs rfl ?_)
     simp_all [Qep]
   ·try rw [h5]
    try simp only [qa, qb, qc, qd, qe] at h5
    refine Qt rfl (Qt rfl (Qt rfl (Qt rfl (Qo rfl rfl (Qa rfl (Qt rfl (Qt rfl (Qt rfl (Qo rfl rfl (Qa rfl ?_))))))))))
    refine hK _ _ (Qb (kp1 rfl) ?_)
    refine Qu (Qs rfl ?_)
    simp_all [Qep]
theorem Zs {e a b c : Int} {p q : List UInt8} {f : Bool} (hp : p.length <= 1000000) (hq : q.length <= 1000000) {e' a' b' c' : Int} {p' q' : List UInt8} {f' : Bool} (hp' : p'.length <= 1000000) (hq' : q'.length <= 1000000) : Ok Tryz.prog 110 [.agg [.int .i64 e, .int .i64 a, .int .i64 b, .int .i64 c, .str p, .str q, .bool f], .agg [.int .i64 e', .int .i64 a', .int .i64 b', .int .i64 c', .str p', .str q', .bool f']] (.int .i64 (Qbi e a b c p q f e' a' b' c' p' q' f')) := by
 refine Ok.ofT ZY Tryz.func110 QqZ (Nat.le_of_ble_eq_true rfl) ?_
 show TW _ _ tf110.body _ _
 refine Qf fun K hK => Zv rfl rfl rfl (Zv rfl rfl rfl (Qa rfl ?_))
 refine hK _ _ (Qb (kp2 rfl rfl) ?_)
 refine QB ?_ -- 0
 refine Qf fun K hK => QH (cs := [_, _, _, _, _, _, _]) rfl rfl rfl rfl (QI (Ye (by omega) (by omega)) rfl rfl (.inr rfl) (Ym rfl (Qa rfl ?_)))
 refine QE (g := 9) rfl (fun h1 => ?_) (fun h1 => ?_)
 ·try rw [h1]
  try simp only [qa, qb, qc, qd, qe] at h1
  refine Qt rfl (Qt rfl (Qt rfl (Qo rfl rfl ?_)))
  refine hK _ _ (Qb (kp3 rfl rfl rfl) ?_)
  refine Zt rfl (Qf fun K hK => Qa rfl ?_)
  refine hK _ _ (Qb (kp1 rfl) ?_)
  refine Qu (Qj (QG rfl ?_))
  first | (simp [Qbi, h1]; done) | (simp_all [Qbi]; done)
 ·try rw [h1]
  try simp only [qa, qb, qc, qd, qe] at h1
  refine Qk rfl (QH (cs := [_, _, _, _, _, _, _]) rfl rfl rfl rfl (Qk rfl (QI (Ye (by omega) (by omega)) rfl rfl (.inr rfl) (Qk rfl (Ym rfl (Qo rfl rfl ?_))))))
  refine hK _ _ (Qb (kp3 rfl rfl rfl) ?_)
  refine Qw rfl (fun h2 => ?_) (fun h2 => ?_)
  ·try rw [h2]
   try simp only [qa, qb, qc, qd, qe] at h2
   refine Qf fun K hK => Qa rfl ?_
   refine hK _ _ (Qb (kp1 rfl) ?_)
   refine Qu (Qj (QG rfl ?_))
   first | (simp [Qbi, h1, h2]; done) | (simp_all [Qbi]; done)
  ·try rw [h2]
   try simp only [qa, qb, qc, qd, qe] at h2
   refine Qv (Qd (kp2 rfl rfl) ?_)
   refine QB ?_ -- 1
   refine Qf fun K hK => Qh rfl rfl (QA rfl rfl rfl (Qh rfl rfl (QA rfl rfl rfl ?_)))
   first | refine X8 rfl rfl ?_ | refine Qnl rfl rfl ?_
   refine Qa rfl ?_
   refine QE (g := 19) rfl (fun h3 => ?_) (fun h3 => ?_)
   ·try rw [h3]
    try simp only [qa, qb, qc, qd, qe] at h3
    refine Qt rfl (Qt rfl (Qt rfl (Qo rfl rfl ?_)))
    refine hK _ _ (Qb (kp3 rfl rfl rfl) ?_)
    refine Zt rfl (Qf fun K hK => Qh rfl rfl (QA rfl rfl rfl (Qh rfl rfl (QA rfl rfl rfl (QI (Zu) rfl rfl (.inr rfl) (Qa rfl ?_))))))
    refine hK _ _ (Qb (kp1 rfl) ?_)
    refine Qu (Qj (QG rfl ?_))
    first | (simp [Qbi, h1, h2, h3]; done) | (simp_all [Qbi]; done)
   ·try rw [h3]
    try simp only [qa, qb, qc, qd, qe] at h3
    refine Qk rfl (Qh rfl rfl (Qk rfl (QA rfl rfl rfl (Qk rfl (X8 rfl rfl (Qo rfl rfl ?_))))))
    refine hK _ _ (Qb (kp3 rfl rfl rfl) ?_)
    refine Qw rfl (fun h4 => ?_) (fun h4 => ?_)
    ·try rw [h4]
     try simp only [qa, qb, qc, qd, qe] at h4
     refine Qf fun K hK => Qh rfl rfl (QA rfl rfl rfl (Qh rfl rfl (QA rfl rfl rfl (QI (Zu) rfl rfl (.inr rfl) (Qa rfl ?_)))))
     refine hK _ _ (Qb (kp1 rfl) ?_)
     refine Qu (Qj (QG rfl ?_))
     first | (simp [Qbi, h1, h2, h3, h4]; done) | (simp_all [Qbi]; done)
    ·try rw [h4]
     try simp only [qa, qb, qc, qd, qe] at h4
     refine Qv (Qd (kp2 rfl rfl) ?_)
     refine QB ?_ -- 2
     refine Qf fun K hK => Qh rfl rfl (QH (cs := [_, _, _, _, _]) rfl rfl rfl rfl (Qh rfl rfl (QH (cs := [_, _, _, _, _]) rfl rfl rfl rfl (QI (Xq (by omega) (by omega) (by omega) (by omega)) rfl rfl (.inr rfl) (Qa rfl ?_)))))
     refine hK _ _ (Qb (kp3 rfl rfl rfl) ?_)
     refine Qf fun K hK => Qa rfl (X8 rfl rfl ?_)
     refine hK _ _ (Qb (kp4 rfl rfl rfl rfl) ?_)
     refine Qw rfl (fun h5 => ?_) (fun h5 => ?_)
     ·try rw [h5]
      try simp only [qa, qb, qc, qd, qe] at h5
      refine Qf fun K hK => Qa rfl (Qa rfl ?_)
      refine hK _ _ (Qb (kp1 rfl) ?_)
      refine Qu (Qj (QG rfl ?_))
      first | (simp [Qbi, h1, h2, h3, h4, h5]; done) | (simp_all [Qbi]; done)
     ·try rw [h5]
      try simp only [qa, qb, qc, qd, qe] at h5
      refine Qv (Qd (kp2 rfl rfl) ?_)
      refine QB ?_ -- 3
      refine Qz (Qf fun K hK => Qh rfl rfl (QA rfl rfl rfl (Qh rfl rfl (QA rfl rfl rfl (Qqv rfl rfl (Qa rfl ?_))))))
      refine hK _ _ (Qb (kp2 rfl rfl) ?_)
      refine Qw rfl (fun h6 => ?_) (fun h6 => ?_)
      ·try rw [h6]
       try simp only [qa, qb, qc, qd, qe] at h6
       refine Qf fun K hK => Qa rfl ?_
       refine hK _ _ (Qb (kp1 rfl) ?_)
       refine Qu (Qr (Qj (QG rfl ?_)))
       first | (simp [Qbi, h1, h2, h3, h4, h5, h6]; done) | (simp_all [Qbi]; done)
      ·try rw [h6]
       try simp only [qa, qb, qc, qd, qe] at h6
       refine Qf fun K hK => Qh rfl rfl (QA rfl rfl rfl (Qa rfl ?_))
       refine hK _ _ (Qb (kp1 rfl) ?_)
       refine Qw rfl (fun h7 => ?_) (fun h7 => ?_)
       ·try rw [h7]
        try simp only [qa, qb, qc, qd, qe] at h7
        refine Qf fun K hK => Qa rfl ?_
        refine hK _ _ (Qb (kp1 rfl) ?_)
        refine Qu (Qr (Qj (QG rfl ?_)))
        first | (simp [Qbi, h1, h2, h3, h4, h5, h6, h7]; done) | (simp_all [Qbi]; done)
       ·try rw [h7]
        try simp only [qa, qb, qc, qd, qe] at h7
        refine Qv (Qg (Qd (Q6) (Qf fun K hK => Qa rfl ?_)))
        refine hK _ _ (Qb (kp1 rfl) ?_)
        refine Qu (QG rfl ?_)
        first | (simp [Qbi, h1, h2, h3, h4, h5, h6, h7]; done) | (simp_all [Qbi]; done)
theorem XQ {e a b c : Int} {p q : List UInt8} {f : Bool} (hp : p.length <= 1000000) (hq : q.length <= 1000000) {a' b' c' : Int} {p' q' : List UInt8} (hp' : p'.length <= 1000000) (hq' : q'.length <= 1000000) : Ok Tryz.prog 116 [.agg [.int .i64 e, .int .i64 a, .int .i64 b, .int .i64 c, .str p, .str q, .bool f], .agg [.int .i64 a', .int .i64 b', .int .i64 c', .str p', .str q']] (.bool (Qah e a b c p q f a' b' c' p' q')) := by
 refine Ok.ofT ZY Tryz.func116 Qq5 (Nat.le_of_ble_eq_true rfl) ?_
 show TW _ _ tf116.body _ _
 refine Qf fun K hK => Zv rfl rfl rfl (Zv rfl rfl rfl (Qa rfl ?_))
 refine hK _ _ (Qb (kp2 rfl rfl) ?_)
 refine QB ?_ -- 0
 refine Qf fun K hK => QH (cs := [_, _, _, _, _, _, _]) rfl rfl rfl rfl (QI (Ye (by omega) (by omega)) rfl rfl (.inr rfl) (Ym rfl (Qa rfl ?_)))
 refine QE (g := 9) rfl (fun h1 => ?_) (fun h1 => ?_)
 ·try rw [h1]
  try simp only [qa, qb, qc, qd, qe] at h1
  refine Qt rfl (Qt rfl (Qt rfl (Qo rfl rfl ?_)))
  refine hK _ _ (Qb (kp3 rfl rfl rfl) ?_)
  refine Zt rfl (Qf fun K hK => Qa rfl ?_)
  refine hK _ _ (Qb (kp1 rfl) ?_)
  refine Qu (Qj (Qs rfl ?_))
  first | (simp [Qah, h1]; done) | (simp_all [Qah]; done)
 ·try rw [h1]
  try simp only [qa, qb, qc, qd, qe] at h1
  refine Qk rfl (QH (cs := [_, _, _, _, _]) rfl rfl rfl rfl (Qk rfl (QI (Zf (by omega) (by omega)) rfl rfl (.inr rfl) (Qk rfl (Ym rfl (Qo rfl rfl ?_))))))
  refine hK _ _ (Qb (kp3 rfl rfl rfl) ?_)
  refine Qw rfl (fun h2 => ?_) (fun h2 => ?_)
  ·try rw [h2]
   try simp only [qa, qb, qc, qd, qe] at h2
   refine Qf fun K hK => Qa rfl ?_
   refine hK _ _ (Qb (kp1 rfl) ?_)
   refine Qu (Qj (Qs rfl ?_))
   first | (simp [Qah, h1, h2]; done) | (simp_all [Qah]; done)
  ·try rw [h2]
   try simp only [qa, qb, qc, qd, qe] at h2
   refine Qv (Qd (kp2 rfl rfl) ?_)
   refine QB ?_ -- 1
   refine Qf fun K hK => Qh rfl rfl (QA rfl rfl rfl (X8 rfl rfl ?_))
   refine hK _ _ (Qb (kp3 rfl rfl rfl) ?_)
   refine Qw rfl (fun h3 => ?_) (fun h3 => ?_)
   ·try rw [h3]
    try simp only [qa, qb, qc, qd, qe] at h3
    refine Qf fun K hK => Qh rfl rfl (QA rfl rfl rfl (Z6 rfl rfl (Qa rfl ?_)))
    refine hK _ _ (Qb (kp1 rfl) ?_)
    refine Qu (Qj (Qs rfl ?_))
    first | (simp [Qah, h1, h2, h3]; done) | (simp_all [Qah]; done)
   ·try rw [h3]
    try simp only [qa, qb, qc, qd, qe] at h3
    refine Qv (Qd (kp2 rfl rfl) (Qf fun K hK => Qh rfl rfl (QH (cs := [_, _, _, _, _]) rfl rfl rfl rfl (QH (cs := [_, _, _, _, _]) rfl rfl rfl rfl (QI (Xq (by omega) (by omega) (by omega) (by omega)) rfl rfl (.inr rfl) (Qa rfl ?_))))))
    refine hK _ _ (Qb (kp2 rfl rfl) ?_)
    refine Qf fun K hK => Qa rfl (Z6 rfl rfl (Qa rfl ?_))
    refine QE (g := 26) rfl (fun h4 => ?_) (fun h4 => ?_)
    ·try rw [h4]
     try simp only [qa, qb, qc, qd, qe] at h4
     refine Qt rfl (Qt rfl (Qt rfl (Zx rfl (Zx rfl (Zx rfl (Qt rfl (Qo rfl rfl (Qa rfl ?_))))))))
     refine hK _ _ (Qb (kp1 rfl) ?_)
     refine Qu (Qs rfl ?_)
     first | (simp [Qah, h1, h2, h3, h4]; done) | (simp_all [Qah]; done)
    ·try rw [h4]
     try simp only [qa, qb, qc, qd, qe] at h4
     refine Qk rfl (Qa rfl (Qk rfl (ZO rfl rfl (Qk rfl (Qa rfl ?_)))))
     refine QE (g := 29) rfl (fun h5 => ?_) (fun h5 => ?_)
     ·try rw [h5]
      try simp only [qa, qb, qc, qd, qe] at h5
      refine Qk rfl (Qh rfl rfl (Qk rfl (QA rfl rfl rfl (Qk rfl (Ym rfl (Qk rfl (Qo rfl rfl (Qo rfl rfl (Qa rfl ?_)))))))))
      refine hK _ _ (Qb (kp1 rfl) ?_)
      refine Qu (Qs rfl ?_)
      first | (simp [Qah, h1, h2, h3, h4, h5]; done) | (simp_all [Qah]; done)
     ·try rw [h5]
      try simp only [qa, qb, qc, qd, qe] at h5
      refine Qt rfl (Qt rfl (Qt rfl (Qk rfl (Qo rfl rfl (Qo rfl rfl (Qa rfl ?_))))))
      refine hK _ _ (Qb (kp1 rfl) ?_)
      refine Qu (Qs rfl ?_)
      first | (simp [Qah, h1, h2, h3, h4, h5]; done) | (simp_all [Qah]; done)
theorem YF {e a b c : Int} {p q : List UInt8} {f : Bool} (hp : p.length <= 1000000) (hq : q.length <= 1000000) {e' a' b' c' : Int} {p' q' : List UInt8} {f' : Bool} (hp' : p'.length <= 1000000) (hq' : q'.length <= 1000000) : Ok Tryz.prog 109 [.agg [.int .i64 e, .int .i64 a, .int .i64 b, .int .i64 c, .str p, .str q, .bool f, .int .i64 e', .int .i64 a', .int .i64 b', .int .i64 c', .str p', .str q', .bool f']] (.bool (QhB e a b c p q f e' a' b' c' p' q' f')) := by
 refine Ok.ofT ZY Tryz.func109 QqY (Nat.le_of_ble_eq_true rfl) ?_
 show TW _ _ tf109.body _ _
 refine Qf fun K hK => Zv rfl rfl rfl (Qa rfl ?_)
 refine hK _ _ (Qb (kp1 rfl) ?_)
 refine Qf fun K hK => Qh rfl rfl (QH (cs := [_, _, _, _, _, _, _]) rfl rfl rfl rfl (QI (Ye (by omega) (by omega)) rfl rfl (.inr rfl) (Qa rfl ?_)))
 refine QE (g := 6) rfl (fun h1 => ?_) (fun h1 => ?_)
 ·try rw [h1]
  try simp only [qa, qb, qc, qd, qe] at h1
  refine Qk rfl (Qh rfl rfl (Qk rfl (QH (cs := [_, _, _, _, _, _, _]) rfl rfl rfl rfl (Qk rfl (QI (Ye (by omega) (by omega)) rfl rfl (.inr rfl) (Qo rfl rfl (Qa rfl ?_)))))))
  refine QE (g := 11) rfl (fun h2 => ?_) (fun h2 => ?_)
  ·try rw [h2]
   try simp only [qa, qb, qc, qd, qe] at h2
   refine Qk rfl (Qh rfl rfl (Qk rfl (QH (cs := [_, _, _, _, _, _, _]) rfl rfl rfl rfl (Qk rfl (Qh rfl rfl (Qk rfl (QH (cs := [_, _, _, _, _, _, _]) rfl rfl rfl rfl (Qk rfl (QI (Zs (by omega) (by omega) (by omega) (by omega)) rfl rfl (.inr rfl) (Qk rfl (Z6 rfl rfl ?_)))))))))))
   refine Qo rfl rfl (Qa rfl ?_)
   refine hK _ _ (Qb (kp1 rfl) ?_)
   refine Qu (Qs rfl ?_)
   first | (simp [QhB, h1, h2]; done) | (simp_all [QhB]; done)
  ·try rw [h2]
   try simp only [qa, qb, qc, qd, qe] at h2
   refine Qt rfl (Qt rfl (Qt rfl (Qt rfl (Qt rfl (Qt rfl (Qo rfl rfl (Qa rfl ?_)))))))
   refine hK _ _ (Qb (kp1 rfl) ?_)
   refine Qu (Qs rfl ?_)
   first | (simp [QhB, h1, h2]; done) | (simp_all [QhB]; done)
 ·try rw [h1]
  try simp only [qa, qb, qc, qd, qe] at h1
  refine Qt rfl (Qt rfl (Qt rfl (Qo rfl rfl (Qa rfl (Qt rfl (Qt rfl (Qt rfl (Qt rfl (Qt rfl (Qt rfl (Qo rfl rfl ?_)))))))))))
  refine Qa rfl ?_
  refine hK _ _ (Qb (kp1 rfl) ?_)
  refine Qu (Qs rfl ?_)
  first | (simp [QhB, h1]; done) | (simp_all [QhB]; done)
theorem QcL {e a b c : Int} {p q : List UInt8} {f : Bool} (hp : p.length <= 1000000) (hq : q.length <= 1000000) {e' a' b' c' : Int} {p' q' : List UInt8} {f' : Bool} (hp' : p'.length <= 1000000) (hq' : q'.length <= 1000000) {x y z : Int} {r s : List UInt8} (hr : r.length <= 1000000) (hs : s.length <= 1000000) : Ok Tryz.prog 112 [.agg [.int .i64 e, .int .i64 a, .int .i64 b, .int .i64 c, .str p, .str q, .bool f, .int .i64 e', .int .i64 a', .int .i64 b', .int .i64 c', .str p', .str q', .bool f'], .agg [.int .i64 x, .int .i64 y, .int .i64 z, .str r, .str s]] (.bool (QcR e a b c p q f e' a' b' c' p' q' f' x y z r s)) := by
 refine Ok.ofT ZY Tryz.func112 Qq1 (Nat.le_of_ble_eq_true rfl) ?_
 show TW _ _ tf112.body _ _
 refine Qf fun K hK => Zv rfl rfl rfl (Zv rfl rfl rfl (Qa rfl ?_))
 refine hK _ _ (Qb (kp2 rfl rfl) ?_)
 refine Qf fun K hK => QH (cs := [_, _, _, _, _, _, _, _, _, _, _, _, _, _]) rfl rfl rfl rfl (QI (YF (by omega) (by omega) (by omega) (by omega)) rfl rfl (.inr rfl) (Qa rfl ?_))
 refine QE (g := 7) rfl (fun h1 => ?_) (fun h1 => ?_)
 ·try rw [h1]
  try simp only [qa, qb, qc, qd, qe] at h1
  refine Qk rfl (QH (cs := [_, _, _, _, _]) rfl rfl rfl rfl (Qk rfl (QI (Zf (by omega) (by omega)) rfl rfl (.inr rfl) (Qo rfl rfl (Qa rfl ?_)))))
  refine QE (g := 11) rfl (fun h2 => ?_) (fun h2 => ?_)
  ·try rw [h2]
   try simp only [qa, qb, qc, qd, qe] at h2
   refine Qk rfl (Qh rfl rfl (Qk rfl (QH (cs := [_, _, _, _, _, _, _]) rfl rfl rfl rfl (Qk rfl (QH (cs := [_, _, _, _, _]) rfl rfl rfl rfl (Qk rfl (QI (XQ (by omega) (by omega) (by omega) (by omega)) rfl rfl (.inr rfl) (Qo rfl rfl (Qa rfl ?_)))))))))
   refine QE (g := 17) rfl (fun h3 => ?_) (fun h3 => ?_)
   ·try rw [h3]
    try simp only [qa, qb, qc, qd, qe] at h3
    refine Qk rfl (Qh rfl rfl (Qk rfl (QH (cs := [_, _, _, _, _, _, _]) rfl rfl rfl rfl (Qk rfl (QH (cs := [_, _, _, _, _]) rfl rfl rfl rfl (Qk rfl (QI (XQ (by omega) (by omega) (by omega) (by omega)) rfl rfl (.inr rfl) (Qk rfl (Ym rfl (Qo rfl rfl (Qa rfl ?_)))))))))))
    refine hK _ _ (Qb (kp1 rfl) ?_)
    refine Qu (Qs rfl ?_)
    first | (simp [QcR, h1, h2, h3]; done) | (simp_all [QcR]; done)
   ·try rw [h3]
    try simp only [qa, qb, qc, qd, qe] at h3
    refine Qt rfl (Qt rfl (Qt rfl (Qt rfl (Qt rfl (Qo rfl rfl (Qa rfl ?_))))))
    refine hK _ _ (Qb (kp1 rfl) ?_)
    refine Qu (Qs rfl ?_)
    first | (simp [QcR, h1, h2, h3]; done) | (simp_all [QcR]; done)
  ·try rw [h2]
   try simp only [qa, qb, qc, qd, qe] at h2
   refine Qt rfl (Qt rfl (Qt rfl (Qt rfl (Qo rfl rfl (Qa rfl (Qt rfl (Qt rfl (Qt rfl (Qt rfl (Qt rfl (Qo rfl rfl ?_)))))))))))
   refine Qa rfl ?_
   refine hK _ _ (Qb (kp1 rfl) ?_)
   refine Qu (Qs rfl ?_)
   first | (simp [QcR, h1, h2]; done) | (simp_all [QcR]; done)
 ·try rw [h1]
  try simp only [qa, qb, qc, qd, qe] at h1
  refine Qt rfl (Qt rfl (Qo rfl rfl (Qa rfl (Qt rfl (Qt rfl (Qt rfl (Qt rfl (Qo rfl rfl (Qa rfl (Qt rfl (Qt rfl ?_)))))))))))
  refine Qt rfl (Qt rfl (Qt rfl (Qo rfl rfl (Qa rfl ?_))))
  refine hK _ _ (Qb (kp1 rfl) ?_)
  refine Qu (Qs rfl ?_)
  first | (simp [QcR, h1]; done) | (simp_all [QcR]; done)
end Go.Proofs
namespace M3
open Go Go.Abs
end M3
namespace M3
open Go Go.Abs
end M3
namespace M3
open Go Go.Abs
end M3
namespace M25
open Go Go.Abs M3
def QgH (a b c : Int) : Bool := decide (a = 0) && decide (b = 0) && decide (c = 0)
def XZ (a b c : Int) (p q : List UInt8) (part : Int) : Option (Int × Int × Int) :=
 if QhU a b c p q = false \/ part < 0 \/ 2 < part then none
 else
  let o := if part = 0 then (a + 1, 0, 0) else if part = 1 then (a, b + 1, 0) else (a, b, c + 1)
  if QhU o.1 o.2.1 o.2.2 [] [] = true then some o else none
def dOV (o : Option (Int × Int × Int)) : D := .tup [.agg [.int .i64 (o.getD (0, 0, 0)).1, .int .i64 (o.getD (0, 0, 0)).2.1, .int .i64 (o.getD (0, 0, 0)).2.2, .str [], .str []], .bool o.isSome]
def XC (a b c : Int) (p q : List UInt8) : Nat -> Option (Int × Int × Int)
 | 0 => none
 | n + 1 => if (XZ a b c p q n).isSome = true then XZ a b c p q n else XC a b c p q n
def QiB (a b c : Int) (p q : List UInt8) : Option (Int × Int × Int) :=
 if QhU a b c p q = false then none else if p ≠ [] then some (a, b, c) else XC a b c p q 3
theorem Qcm {a b c : Int} {p q : List UInt8} (h : QhU a b c p q = true) : (0 <= a /\ a <= 9999) /\ (0 <= b /\ b <= 9999) /\ (0 <= c /\ c <= 9999) := by
 simp only [QhU, Qjw, Bool.and_eq_true, decide_eq_true_eq] at h
 omega
theorem Qje {a b c : Int} {p q : List UInt8} {m : Nat} (hm : 0 < m) (h : (XZ a b c p q ((m : Int) - 1)).isSome = false) : XC a b c p q m = XC a b c p q (m - 1) := by
 obtain ⟨n, rfl⟩ : ∃ n, m = n + 1 := ⟨m - 1, by omega⟩
 rw [show ((n + 1 : Nat) : Int) - 1 = (n : Int) by omega] at h
 rw [XC, if_neg (by rw [h]; simp)]; rfl
theorem Qh4 {a b c : Int} {p q : List UInt8} {m : Nat} (hm : 0 < m) (h : (XZ a b c p q ((m : Int) - 1)).isSome = true) : XC a b c p q m = XZ a b c p q ((m : Int) - 1) := by
 obtain ⟨n, rfl⟩ : ∃ n, m = n + 1 := ⟨m - 1, by omega⟩
 rw [show ((n + 1 : Nat) : Int) - 1 = (n : Int) by omega] at h ⊢
 rw [XC, if_pos h]
def dCu (x : Cu) : List D := [.int .i64 x.e, .int .i64 x.a, .int .i64 x.b, .int .i64 x.c, .str x.p, .str x.q, .bool x.f]
def QeU (s : Cu × Cu) : List D := dCu s.1 ++ dCu s.2
def ZJ (l : List (Cu × Cu)) : D := .sl (l.map QeU)
def Qg9 (s : List (Cu × Cu) × List (Cu × Cu)) : D := .agg [ZJ s.1, ZJ s.2]
def Qbw : Cu := ⟨-1, 0, 0, 0, [], [], false⟩
def QeW : Cu := ⟨1, 0, 0, 0, [], [], false⟩
def QfT (a b c : Int) : Cu := if QgH a b c = true then Qbw else ⟨0, a, b, c, [], [], false⟩
def QdD (a b c : Int) : Cu := match QiB a b c [] [] with
 | none => QeW
 | some o => ⟨0, o.1, o.2.1, o.2.2, [], [], false⟩
def Xa (a b c : Int) (p q : List UInt8) : List (Cu × Cu) × List (Cu × Cu) :=
 if QhU a b c p q = false then ([], []) else if p ≠ [] then ([], [(⟨0, a, b, c, p, [], false⟩, ⟨0, a, b, c, p, [], true⟩)]) else ([(QfT a b c, QdD a b c)], [])
def QgJ (e a b c : Int) (p q : List UInt8) (f : Bool) : Bool := !decide (e = 0) || (!f && decide (p = []) && !QgH a b c)
def Cu.sm (x : Cu) : Prop := x.p.length <= 1000000 /\ x.q.length <= 1000000
def Sm (l : List (Cu × Cu)) : Prop := l.length <= 1000000 /\ ∀ s ∈ l, Cu.sm s.1 /\ Cu.sm s.2
theorem Sm.at {l : List (Cu × Cu)} (h : Sm l) {i : Nat} (hi : i < l.length) : (l[i].1.p.length <= 1000000 /\ l[i].1.q.length <= 1000000) /\ (l[i].2.p.length <= 1000000 /\ l[i].2.q.length <= 1000000) := h.2 _ (List.getElem_mem hi)
def QdK (s : Cu × Cu) : Bool := QhB s.1.e s.1.a s.1.b s.1.c s.1.p s.1.q s.1.f s.2.e s.2.a s.2.b s.2.c s.2.p s.2.q s.2.f
def Qbj (x y : Cu) : Int := Qbi x.e x.a x.b x.c x.p x.q x.f y.e y.a y.b y.c y.p y.q y.f
def QpH (l : List (Cu × Cu)) (i : Nat) : Bool := match l[i]? with
 | none => true
 | some s => QdK s && (decide (i = 0) || match l[i - 1]? with | none => true | some r => decide (Qbj r.2 s.1 < 0))
theorem QmB {l : List (Cu × Cu)} {i : Nat} (h : i < l.length) : QpH l i = (QdK l[i] && (decide (i = 0) || decide (Qbj (l[i - 1]'(by omega)).2 l[i].1 < 0))) := by
 unfold QpH
 rw [List.getElem?_eq_getElem h, List.getElem?_eq_getElem (show i - 1 < l.length by omega)]
theorem QoC {l : List (Cu × Cu)} {i : Nat} (h : i < l.length) (h1 : QdK l[i] = true) (h2 : i = 0 \/ Qbj (l[i - 1]'(by omega)).2 l[i].1 < 0) : QpH l i = true := by
 rw [QmB h, h1]; simpa using h2
theorem QgP {l : List (Cu × Cu)} {i : Nat} (h : i < l.length) (h1 : QdK l[i] = false \/ (i ≠ 0 /\ 0 <= Qbj (l[i - 1]'(by omega)).2 l[i].1)) : QpH l i = false := by
 rw [QmB h]
 rcases h1 with h1 | ⟨h1, h2⟩
 ·rw [h1]; rfl
 ·simp only [Bool.and_eq_false_iff, Bool.or_eq_false_iff, decide_eq_false_iff_not]
  exact .inr ⟨h1, by omega⟩
def Qeq (l : List (Cu × Cu)) : Bool := (List.range l.length).all (QpH l)
theorem Qcp {n i : Nat} {p : Nat -> Bool} (h : i < n) (hp : p i = false) : (List.range n).all p = false := by
 rw [Bool.eq_false_iff]; intro ha
 rw [List.all_eq_true] at ha
 rw [ha i (List.mem_range.2 h)] at hp; cases hp
theorem QkF {i : Nat} {p : Nat -> Bool} (h : (List.range i).all p = true) (hp : p i = true) : (List.range (i + 1)).all p = true := by
 rw [List.range_succ, List.all_append, h]; simp [hp]
theorem QhF {i : Nat} {p : Nat -> Bool} {n : Nat} (h : (List.range i).all p = true) (hn : n <= i) : (List.range n).all p = true := by
 rw [List.all_eq_true] at h ⊢
 exact fun x hx => h x (List.mem_range.2 (Nat.lt_of_lt_of_le (List.mem_range.1 hx) hn))
def Qhx (s : Cu × Cu) (a b c : Int) (p q : List UInt8) : Bool := QcR s.1.e s.1.a s.1.b s.1.c s.1.p s.1.q s.1.f s.2.e s.2.a s.2.b s.2.c s.2.p s.2.q s.2.f a b c p q
def Qhw (l : List (Cu × Cu)) (a b c : Int) (p q : List UInt8) : Bool := Qeq l && l.any fun s => Qhx s a b c p q
theorem Qhj {l : List (Cu × Cu)} {a b c : Int} {p q : List UInt8} {i : Nat} (hi : l.length <= i) (h : (l.take i).any (fun s => Qhx s a b c p q) = false) : Qhw l a b c p q = false := by
 rw [List.take_of_length_le hi] at h; rw [Qhw, h, Bool.and_false]
theorem Qhk {l : List (Cu × Cu)} {a b c : Int} {p q : List UInt8} (h : Qeq l = false) : Qhw l a b c p q = false := by rw [Qhw, h]; rfl
theorem Qhl {l : List (Cu × Cu)} {a b c : Int} {p q : List UInt8} {i : Nat} (h : Qeq l = true) (hi : i < l.length) (hp : Qhx l[i] a b c p q = true) : Qhw l a b c p q = true := by
 rw [Qhw, h, Bool.true_and]; exact List.any_eq_true.2 ⟨_, List.getElem_mem hi, hp⟩
def inC (x y : Cu) (s : Cu × Cu) : Bool := decide (Qbj s.1 x <= 0) && decide (Qbj y s.2 <= 0)
theorem Qp2 {x y : Cu} {s : Cu × Cu} (h1 : Qbj s.1 x <= 0) (h2 : Qbj y s.2 <= 0) : inC x y s = true := by simp [inC, h1, h2]
theorem Qp1 {x y : Cu} {s : Cu × Cu} (h : ¬ Qbj s.1 x <= 0 \/ ¬ Qbj y s.2 <= 0) : inC x y s = false := by
 simp only [inC, Bool.and_eq_false_iff, decide_eq_false_iff_not]; exact h
def mIn (l : List (Cu × Cu)) (x y : Cu) : Bool := l.any (inC x y)
theorem Qjc {α : Type} {s : List α} {p : α -> Bool} {i : Nat} (h : i < s.length) (hp : p s[i] = true) : s.any p = true := List.any_eq_true.2 ⟨_, List.getElem_mem h, hp⟩
theorem QlF {α : Type} {s : List α} {p : α -> Bool} {i : Nat} (hi : s.length <= i) (h : (s.take i).any p = false) : s.any p = false := by rwa [List.take_of_length_le hi] at h
theorem Qh0 {α : Type} {s : List α} {p : α -> Bool} {i : Nat} (h : i < s.length) (ha : (s.take i).any p = false) (hp : p s[i] = false) : (s.take (i + 1)).any p = false := by
 rw [List.take_succ_eq_append_getElem h, List.any_append, ha]; simp [hp]
def Qby (x : Cu) : Bool := QgJ x.e x.a x.b x.c x.p x.q x.f
def QfU (s : List (Cu × Cu) × List (Cu × Cu)) : Bool := Qeq s.1 && Qeq s.2 && s.1.all fun x => Qby x.1 && Qby x.2
def Qli (s : List (Cu × Cu) × List (Cu × Cu)) (a b c : Int) (p q : List UInt8) : Bool :=
 QfU s && QhU a b c p q && (if p = [] then Qhw s.1 a b c p q else Qhw s.2 a b c p q)
theorem QaK {s : List (Cu × Cu) × List (Cu × Cu)} (h : Qeq s.1 = false \/ Qeq s.2 = false) : QfU s = false := by
 rw [QfU]; rcases h with h | h <;> simp [h]
theorem QaJ {s : List (Cu × Cu) × List (Cu × Cu)} {i : Nat} (hi : i < s.1.length) (h : Qby s.1[i].1 = false \/ Qby s.1[i].2 = false) : QfU s = false := by
 have : (s.1.all fun x => Qby x.1 && Qby x.2) = false := XH hi (by rcases h with h | h <;> simp [h])
 rw [QfU, this, Bool.and_false]
theorem QdN {s : List (Cu × Cu) × List (Cu × Cu)} {i : Nat} (h1 : Qeq s.1 = true) (h2 : Qeq s.2 = true) (hi : s.1.length <= i) (h : (s.1.take i).all (fun x => Qby x.1 && Qby x.2) = true) : QfU s = true := by
 rw [List.take_of_length_le hi] at h
 rw [QfU, h1, h2, h]; rfl
def Qg8 (l : List Cu) : D := .sl (l.map dCu)
theorem QiQ {l : List Cu} : ∀ r ∈ l.map dCu, r.length = 7 := fun r hr => by obtain ⟨x, _, rfl⟩ := List.mem_map.1 hr; rfl
theorem Qn5 {l : List Cu} {a b : Nat} : ∀ r ∈ ((l.map dCu).take a).drop b, r.length = 7 := fun r hr => QiQ r (List.mem_of_mem_take (List.mem_of_mem_drop hr))
def Qb3 : List Cu -> Cu -> List Cu
 | [], c => [c]
 | x :: r, c => if Qbj x c < 0 then x :: Qb3 r c else if Qbj x c = 0 then x :: r else c :: x :: r
theorem Qmr {l : List Cu} {c : Cu} {k : Nat} (hk : k < l.length) (h : Qbj l[k] c < 0) (hi : Qb3 l c = l.take k ++ Qb3 (l.drop k) c) : Qb3 l c = l.take (k + 1) ++ Qb3 (l.drop (k + 1)) c := by
 rw [hi, List.drop_eq_getElem_cons hk, Qb3, if_pos h, List.take_succ_eq_append_getElem hk, List.append_assoc]; rfl
theorem Qmq {l : List Cu} {c : Cu} {k : Nat} (hk : k < l.length) (h : Qbj l[k] c = 0) (hi : Qb3 l c = l.take k ++ Qb3 (l.drop k) c) : Qb3 l c = l := by
 rw [hi, List.drop_eq_getElem_cons hk, Qb3, if_neg (by omega), if_pos h, <- List.drop_eq_getElem_cons hk, List.take_append_drop]
theorem Qkt {l : List Cu} {c : Cu} {k : Nat} (h : l.length <= k \/ ∃ hk : k < l.length, ¬ Qbj l[k] c < 0 /\ Qbj l[k] c ≠ 0) (hi : Qb3 l c = l.take k ++ Qb3 (l.drop k) c) : Qb3 l c = l.take k ++ c :: l.drop k := by
 rw [hi]
 rcases h with h | ⟨hk, h1, h2⟩
 ·rw [List.drop_eq_nil_of_le h, Qb3]
 ·rw [List.drop_eq_getElem_cons hk, Qb3, if_neg h1, if_neg h2]
theorem Qfb : ∀ (l : List Cu) (c : Cu), (Qb3 l c).length <= l.length + 1
 | [], c => by simp [Qb3]
 | x :: r, c => by
  have := Qfb r c
  simp only [Qb3]
  (repeat' split) <;> simp <;> omega
theorem Qhz : ∀ {l : List Cu} {c : Cu}, (∀ x ∈ l, Cu.sm x) -> Cu.sm c -> ∀ x ∈ Qb3 l c, Cu.sm x
 | [], c, _, hc, x, hx => by simp [Qb3] at hx; exact hx ▸ hc
 | y :: r, c, hl, hc, x, hx => by
  simp only [Qb3] at hx
  split at hx
  ·rcases List.mem_cons.1 hx with rfl | hx
   ·exact hl _ (by simp)
   ·exact Qhz (fun z hz => hl z (by simp [hz])) hc x hx
  ·split at hx
   ·exact hl x hx
   ·rcases List.mem_cons.1 hx with rfl | hx
    ·exact hc
    ·exact hl x hx
def YR (l : List (Cu × Cu)) : List Cu := l.foldl (fun out s => Qb3 (Qb3 out s.1) s.2) [Qbw, QeW]
theorem QnR {l : List (Cu × Cu)} {i : Nat} (h : i < l.length) : YR (l.take (i + 1)) = Qb3 (Qb3 (YR (l.take i)) l[i].1) l[i].2 := by
 rw [List.take_succ_eq_append_getElem h, YR, List.foldl_append]; rfl
theorem QgF : ∀ (l : List (Cu × Cu)) (out : List Cu), (l.foldl (fun out s => Qb3 (Qb3 out s.1) s.2) out).length <= out.length + 2 * l.length
 | [], out => by simp
 | s :: l, out => by
  have h1 := Qfb out s.1
  have h2 := Qfb (Qb3 out s.1) s.2
  have := QgF l (Qb3 (Qb3 out s.1) s.2)
  simp only [List.foldl_cons, List.length_cons]; omega
theorem QbZ (l : List (Cu × Cu)) : (YR l).length <= 2 + 2 * l.length := QgF l _
theorem Qix : ∀ {l : List (Cu × Cu)} {out : List Cu}, (∀ s ∈ l, Cu.sm s.1 /\ Cu.sm s.2) -> (∀ x ∈ out, Cu.sm x) -> ∀ x ∈ l.foldl (fun out s => Qb3 (Qb3 out s.1) s.2) out, Cu.sm x
 | [], _, _, h => h
 | s :: l, out, hl, h => by
  rw [List.foldl_cons]
  exact Qix (fun t ht => hl t (by simp [ht])) (Qhz (Qhz h (hl s (by simp)).1) (hl s (by simp)).2)
theorem Qkp {l : List (Cu × Cu)} (hl : ∀ s ∈ l, Cu.sm s.1 /\ Cu.sm s.2) : ∀ x ∈ YR l, Cu.sm x := Qix hl (by
 intro x hx
 simp only [List.mem_cons, List.not_mem_nil, or_false] at hx
 rcases hx with rfl | rfl <;> exact ⟨Nat.zero_le _, Nat.zero_le _⟩)
theorem Qfa {l : List (Cu × Cu)} (hl : Sm l) (i : Nat) : (YR (l.take i)).length <= 2000002 /\ ∀ x ∈ YR (l.take i), Cu.sm x := by
 refine ⟨?_, Qkp fun s hs => hl.2 s (List.mem_of_mem_take hs)⟩
 have := QbZ (l.take i)
 have h2 : (l.take i).length <= l.length := List.length_take_le' ..
 have := hl.1
 omega
def Qb1 (l : List (Cu × Cu)) (x y : Cu) : List (Cu × Cu) := match l.getLast? with
 | some s => if Qbj s.2 x = 0 then l.dropLast ++ [(s.1, y)] else l ++ [(x, y)]
 | none => l ++ [(x, y)]
theorem Qiy {l : List (Cu × Cu)} {x y : Cu} {i : Nat} (hi : i + 1 = l.length) (h : Qbj (l[i]'(by omega)).2 x = 0) : Qb1 l x y = l.set i ((l[i]'(by omega)).1, y) := by
 have hg : l.getLast? = some (l[i]'(by omega)) := by
  rw [List.getLast?_eq_getElem?, show l.length - 1 = i by omega, List.getElem?_eq_getElem]
 rw [Qb1, hg]
 simp only [h, if_true]
 rw [List.dropLast_eq_take, show l.length - 1 = i by omega, List.set_eq_take_append_cons_drop, if_pos (by omega), List.drop_eq_nil_of_le (by omega)]
theorem QdH {l : List (Cu × Cu)} {x y : Cu} (h : l = [] \/ ∃ i, ∃ hi : i + 1 = l.length, Qbj (l[i]'(by omega)).2 x ≠ 0) : Qb1 l x y = l ++ [(x, y)] := by
 rcases h with rfl | ⟨i, hi, h⟩
 ·rfl
 ·have hg : l.getLast? = some (l[i]'(by omega)) := by
   rw [List.getLast?_eq_getElem?, show l.length - 1 = i by omega, List.getElem?_eq_getElem]
  rw [Qb1, hg]
  simp only [if_neg h]
theorem Qiz (l : List (Cu × Cu)) (x y : Cu) : (Qb1 l x y).length <= l.length + 1 := by
 unfold Qb1
 split
 ·split
  ·simp
  ·simp
 ·simp
theorem Qkq {l : List (Cu × Cu)} {x y : Cu} (hl : ∀ s ∈ l, Cu.sm s.1 /\ Cu.sm s.2) (hx : Cu.sm x) (hy : Cu.sm y) : ∀ s ∈ Qb1 l x y, Cu.sm s.1 /\ Cu.sm s.2 := by
 intro s hs
 unfold Qb1 at hs
 split at hs
 ·rename_i t ht
  have ht' := List.mem_of_getLast? ht
  split at hs
  ·rcases List.mem_append.1 hs with hs | hs
   ·exact hl s (List.dropLast_subset _ hs)
   ·simp at hs; subst hs; exact ⟨(hl t ht').1, hy⟩
  ·rcases List.mem_append.1 hs with hs | hs
   ·exact hl s hs
   ·simp at hs; subst hs; exact ⟨hx, hy⟩
 ·rcases List.mem_append.1 hs with hs | hs
  ·exact hl s hs
  ·simp at hs; subst hs; exact ⟨hx, hy⟩
theorem Qkf {α β : Type} {l : List α} {f : α -> β} {i : Nat} (h : i + 1 < l.length) : (l.map f)[((i : Int) + 1).toNat]? = some (f l[i + 1]) := by
 rw [show ((i : Int) + 1).toNat = i + 1 by omega, List.getElem?_map, List.getElem?_eq_getElem h]; rfl
def Qb0 (f : Cu -> Cu -> Bool) : List Cu -> List (Cu × Cu) -> List (Cu × Cu)
 | x :: y :: r, out => Qb0 f (y :: r) (if f x y = true then Qb1 out x y else out)
 | _, out => out
def Qjx (l : List (Cu × Cu)) : List (Cu × Cu) := if l.all QdK = true then Qb0 (mIn l) (YR l) [] else []
theorem QgG {f : Cu -> Cu -> Bool} {c : List Cu} {out : List (Cu × Cu)} {i : Nat} (h : i + 1 < c.length) : Qb0 f (c.drop i) out = Qb0 f (c.drop (i + 1)) (if f c[i] c[i + 1] = true then Qb1 out c[i] c[i + 1] else out) := by
 rw [List.drop_eq_getElem_cons (show i < c.length by omega), List.drop_eq_getElem_cons h, Qb0]
theorem Qmk {f : Cu -> Cu -> Bool} {c : List Cu} {out : List (Cu × Cu)} {i : Nat} (h : c.length <= i + 1) : Qb0 f (c.drop i) out = out := by
 have : (c.drop i).length <= 1 := by simp; omega
 match hd : c.drop i with
 | [] => rfl
 | [x] => rfl
 | x :: y :: r => rw [hd] at this; simp at this
def FillI (f : Cu -> Cu -> Bool) (c : List Cu) (i : Nat) (out : List (Cu × Cu)) : Prop :=
 out.length <= i /\ (∀ s ∈ out, Cu.sm s.1 /\ Cu.sm s.2) /\ Qb0 f c [] = Qb0 f (c.drop i) out
theorem FillI.zero {f : Cu -> Cu -> Bool} {c : List Cu} : FillI f c 0 [] := ⟨Nat.zero_le _, by simp, by simp⟩
theorem FillI.take {f : Cu -> Cu -> Bool} {c : List Cu} {i : Nat} {out : List (Cu × Cu)} (h : FillI f c i out) (hc : ∀ x ∈ c, Cu.sm x) (hi : i + 1 < c.length) (ht : f c[i] c[i + 1] = true) : FillI f c (i + 1) (Qb1 out c[i] c[i + 1]) := by
 obtain ⟨h1, h2, h3⟩ := h
 refine ⟨Nat.le_trans (Qiz ..) (by omega), Qkq h2 (hc _ (List.getElem_mem _)) (hc _ (List.getElem_mem _)), ?_⟩
 rw [h3, QgG hi, if_pos ht]
theorem FillI.skip {f : Cu -> Cu -> Bool} {c : List Cu} {i : Nat} {out : List (Cu × Cu)} (h : FillI f c i out) (hi : i + 1 < c.length) (ht : f c[i] c[i + 1] = false) : FillI f c (i + 1) out := by
 obtain ⟨h1, h2, h3⟩ := h
 exact ⟨by omega, h2, by rw [h3, QgG hi, if_neg (by rw [ht]; simp)]⟩
theorem FillI.done {f : Cu -> Cu -> Bool} {c : List Cu} {i : Nat} {out : List (Cu × Cu)} (h : FillI f c i out) (hi : c.length <= i + 1) : Qb0 f c [] = out := by rw [h.2.2, Qmk hi]
theorem Qnc {i : Nat} : ((i : Int) + 1).toNat = i + 1 := by omega
theorem Yz {l : List (Cu × Cu)} (hl : Sm l) : ∀ x ∈ YR l, Cu.sm x := Qkp hl.2
def Qoz (a b : List (Cu × Cu)) : List (Cu × Cu) := if Qeq a = true /\ Qeq b = true then Qjx (a ++ b) else []
def Qjy (a : List (Cu × Cu)) : List (Cu × Cu) := if Qeq a = true then Qb0 (fun x y => !mIn a x y) (YR a) [] else []
theorem QoE {l : List (Cu × Cu)} : ∀ r ∈ l.map QeU, r.length = 14 := fun r hr => by obtain ⟨x, _, rfl⟩ := List.mem_map.1 hr; rfl
theorem Sm.app {a b : List (Cu × Cu)} (ha : Sm a) (hb : Sm b) (h : a.length + b.length <= 1000000) : Sm (a ++ b) := by
 refine ⟨by simp; omega, fun s hs => ?_⟩
 rcases List.mem_append.1 hs with hs | hs
 ·exact ha.2 s hs
 ·exact hb.2 s hs
theorem QqG {H : List (Nat × Box)} {S : Nat -> Bool} {k n : Nat} {b : Box} (hS : S k = true) (hb : lk H k = some b) (hp : b.pr = true) (hn : n = b.rows.length) : (D.osl k n).fz H S = .sl b.rows := by
 simp only [D.fz, D.fzS, hS, hb, if_true, hp, hn, and_self]
abbrev Qe0 := List (Cu × Cu) × List (Cu × Cu)
def QoA (a b : Qe0) : Qe0 := if QfU a = true /\ QfU b = true then (Qoz a.1 b.1, Qoz a.2 b.2) else ([], [])
def Qhy (a : Qe0) : Qe0 := if QfU a = true then (Qjy a.1, Qjy a.2) else ([], [])
def mPl (v n : Int) : Int := if n < 1 then 0 else QfV v n
theorem QiD {v n : Int} : 0 <= mPl v n := by
 unfold mPl; split
 ·omega
 ·exact Qn1 (by omega)
theorem QiC {v n : Int} (h : 1 <= n) : mPl v n < n := by
 rw [mPl, if_neg (by omega)]; exact Qn0 (by omega)
def Qng (l : List Int) (i : Int) : Int := if i < 0 \/ (l.length : Int) <= i then i.tmod 3 else l.getD i.toNat 0
theorem Qmh {l : List Int} {i : Int} (h0 : 0 <= i) (h : i < l.length) : Qng l i = l[i.toNat]'(by omega) := by
 rw [Qng, if_neg (by omega), List.getD_eq_getElem?_getD, List.getElem?_eq_getElem (by omega)]; rfl
def I64 (x : Int) : Prop := -9223372036854775808 <= x /\ x <= 9223372036854775807
theorem QnQ {l : List Int} {i : Int} (hl : ∀ x ∈ l, I64 x) (hi : I64 i) : I64 (Qng l i) := by
 by_cases h : i < 0 \/ (l.length : Int) <= i
 ·rw [Qng, if_pos h]
  have h1 := Int.tmod_lt_of_pos i (show (0 : Int) < 3 by omega)
  have h2 := Int.lt_tmod_of_pos i (show (0 : Int) < 3 by omega)
  exact ⟨by omega, by omega⟩
 ·rw [Qmh (by omega) (by omega)]
  exact hl _ (List.getElem_mem _)
theorem Qgd (x : Int) : I64 (IntKind.i64.wrap x) := by
 unfold IntKind.wrap I64
 simp only [IntKind.bits, IntKind.signed, Bool.true_and]
 split
 ·rename_i h
  have := of_decide_eq_true h
  omega
 ·rename_i h
  have : ¬ (x % 2 ^ 64 >= 2 ^ (64 - 1)) := fun hh => h (decide_eq_true hh)
  omega
theorem Qeo {α : Type} {k : Nat} {v : α} {l : List (Nat × α)} : lk ((k, v) :: l) k = some v := by rw [Qm, if_pos rfl]
theorem Qe9 {α : Type} {k : Nat} {v : α} {l : List (Nat × α)} : (lk ((k, v) :: l) k).isSome = true := by rw [Qeo]; rfl
def gB (L : List Int) (I : Int) (et : Nat) : Box := ⟨[[Zo L, .int .i64 I]], 2, et, true⟩
def nxI (I : Int) : Int := IntKind.i64.wrap (I + 1)
def nx (L : List Int) (I n : Int) : Int := mPl (Qng L (IntKind.i64.wrap (nxI I - 1))) n
def Zw (h m : Int) : Int := if Qal .and .i64 h m = h then 2 else if Qal .and .i64 h m = 0 then 0 else 1
def QaI (h m : Int) : Int := if Qal .andNot .i64 h m = 0 then 2 else if Qal .and .i64 h m = 0 then 0 else 1
theorem QhD {i : Nat} (h : i <= 62) : 1 <= (2 : Int) ^ i /\ (2 : Int) ^ i <= 4611686018427387904 := by
 have h1 : (2 : Nat) ^ i <= 2 ^ 62 := Nat.pow_le_pow_right (by omega) h
 have h2 : 1 <= (2 : Nat) ^ i := Nat.one_le_two_pow
 have h3 : ((2 ^ i : Nat) : Int) = (2 : Int) ^ i := by simp
 rw [<- h3]
 have h4 : (2 : Nat) ^ 62 = 4611686018427387904 := by decide
 omega
structure Vr where
 a : Int
 b : Int
 c : Int
 p : List UInt8
 q : List UInt8
def dVr (v : Vr) : List D := [.int .i64 v.a, .int .i64 v.b, .int .i64 v.c, .str v.p, .str v.q]
def Vr.sm (v : Vr) : Prop := v.p.length <= 100 /\ v.q.length <= 100
def versions : List Vr := [⟨1, 0, 0, [], []⟩, ⟨1, 2, 0, [], []⟩, ⟨2, 0, 0, [97, 46, 49], []⟩, ⟨2, 0, 0, [], []⟩]
theorem QjS : ∀ v ∈ versions, v.sm := by
 intro v hv
 simp only [versions, List.mem_cons, List.not_mem_nil, or_false] at hv
 rcases hv with rfl | rfl | rfl | rfl <;> exact ⟨by decide, by decide⟩
theorem QdQ {i : Nat} : ((i : Int) - 1).toNat = i - 1 := by omega
end M25
namespace Go.Proofs
open Go Go.Abs M3 M25
set_option linter.unusedVariables false
set_option linter.unusedSimpArgs false
theorem Qab {a b c : Int} {p q : List UInt8} : Ok Tryz.prog 78 [.agg [.int .i64 a, .int .i64 b, .int .i64 c, .str p, .str q]] (.agg [.int .i64 a, .int .i64 b, .int .i64 c, .str p, .str []]) := by
 refine Ok.ofT ZY Tryz.func78 Qsg (Nat.le_of_ble_eq_true rfl) ?_
 show TW _ _ tf78.body _ _
 refine Qf fun K hK => Zv rfl rfl rfl (ZL rfl ?_)
 refine hK _ _ (Qb (kp2 rfl rfl) ?_)
 refine Qf fun K hK => Qh rfl rfl (Q7 rfl rfl rfl rfl rfl rfl rfl rfl ?_)
 refine hK _ _ (Qb (kp2 rfl rfl) ?_)
 refine Qf fun K hK => QH (cs := [_, _, _, _, _]) rfl rfl rfl rfl (Q7 rfl rfl rfl rfl rfl rfl rfl rfl ?_)
 refine hK _ _ (Qb (kp1 rfl) ?_)
 refine Qu (ZI (cs := [_, _, _, _, _]) rfl rfl rfl rfl ?_)
 exact rfl
theorem YV  : Ok Tryz.prog 80 [] (.agg [.int .i64 (-1), .int .i64 0, .int .i64 0, .int .i64 0, .str [], .str [], .bool false]) := by
 refine Ok.ofT ZY Tryz.func80 Qsi (Nat.le_of_ble_eq_true rfl) ?_
 show TW _ _ tf80.body _ _
 refine Qf fun K hK => ZL rfl ?_
 refine hK _ _ (Qb (kp1 rfl) ?_)
 refine Qf fun K hK => QX rfl rfl (Q7 rfl rfl rfl rfl rfl rfl rfl rfl ?_)
 refine hK _ _ (Qb (kp1 rfl) ?_)
 refine Qu (ZI (cs := [_, _, _, _, _, _, _]) rfl rfl rfl rfl ?_)
 exact rfl
theorem Y5  : Ok Tryz.prog 82 [] (.agg [.int .i64 1, .int .i64 0, .int .i64 0, .int .i64 0, .str [], .str [], .bool false]) := by
 refine Ok.ofT ZY Tryz.func82 Qsk (Nat.le_of_ble_eq_true rfl) ?_
 show TW _ _ tf82.body _ _
 refine Qf fun K hK => ZL rfl ?_
 refine hK _ _ (Qb (kp1 rfl) ?_)
 refine Qf fun K hK => QX rfl rfl (Q7 rfl rfl rfl rfl rfl rfl rfl rfl ?_)
 refine hK _ _ (Qb (kp1 rfl) ?_)
 refine Qu (ZI (cs := [_, _, _, _, _, _, _]) rfl rfl rfl rfl ?_)
 exact rfl
theorem YK {a b c : Int} {p q : List UInt8} : Ok Tryz.prog 57 [.agg [.int .i64 a, .int .i64 b, .int .i64 c, .str p, .str q]] (.agg [.int .i64 0, .int .i64 a, .int .i64 b, .int .i64 c, .str p, .str [], .bool false]) := by
 refine Ok.ofT ZY Tryz.func57 QrW (Nat.le_of_ble_eq_true rfl) ?_
 show TW _ _ tf57.body _ _
 refine Qf fun K hK => Zv rfl rfl rfl (ZL rfl ?_)
 refine hK _ _ (Qb (kp2 rfl rfl) ?_)
 refine Qf fun K hK => QH (cs := [_, _, _, _, _]) rfl rfl rfl rfl (QI (Qab) rfl rfl (.inl rfl) (QX rfl rfl (Q7 rfl rfl rfl rfl rfl rfl rfl rfl ?_)))
 refine hK _ _ (Qb (kp1 rfl) ?_)
 refine Qu (ZI (cs := [_, _, _, _, _, _, _]) rfl rfl rfl rfl ?_)
 exact rfl
theorem QbM {a b c : Int} {p q : List UInt8} : Ok Tryz.prog 58 [.agg [.int .i64 a, .int .i64 b, .int .i64 c, .str p, .str q]] (.agg [.int .i64 0, .int .i64 a, .int .i64 b, .int .i64 c, .str p, .str [], .bool true]) := by
 refine Ok.ofT ZY Tryz.func58 QrX (Nat.le_of_ble_eq_true rfl) ?_
 show TW _ _ tf58.body _ _
 refine Qf fun K hK => Zv rfl rfl rfl (ZL rfl ?_)
 refine hK _ _ (Qb (kp2 rfl rfl) ?_)
 refine Qf fun K hK => QH (cs := [_, _, _, _, _]) rfl rfl rfl rfl (QI (Qab) rfl rfl (.inl rfl) (QX rfl rfl (Q7 rfl rfl rfl rfl rfl rfl rfl rfl ?_)))
 refine hK _ _ (Qb (kp1 rfl) ?_)
 refine Qu (ZI (cs := [_, _, _, _, _, _, _]) rfl rfl rfl rfl ?_)
 exact rfl
theorem XS {a b c : Int} {p q : List UInt8} : Ok Tryz.prog 79 [.agg [.int .i64 a, .int .i64 b, .int .i64 c, .str p, .str q]] (.bool (QgH a b c)) := by
 refine Ok.ofT ZY Tryz.func79 Qsh (Nat.le_of_ble_eq_true rfl) ?_
 show TW _ _ tf79.body _ _
 refine Qf fun K hK => Zv rfl rfl rfl (Qa rfl ?_)
 refine hK _ _ (Qb (kp1 rfl) ?_)
 refine Qf fun K hK => Qh rfl rfl (QA rfl rfl rfl (ZO rfl rfl (Qa rfl ?_)))
 refine QE (g := 6) rfl (fun h1 => ?_) (fun h1 => ?_)
 ·try rw [h1]
  try simp only [qa, qb, qc, qd, qe] at h1
  refine Qk rfl (Qh rfl rfl (Qk rfl (QA rfl rfl rfl (Qk rfl (ZO rfl rfl (Qo rfl rfl (Qa rfl ?_)))))))
  refine QE (g := 11) rfl (fun h2 => ?_) (fun h2 => ?_)
  ·try rw [h2]
   try simp only [qa, qb, qc, qd, qe] at h2
   refine Qk rfl (Qh rfl rfl (Qk rfl (QA rfl rfl rfl (Qk rfl (ZO rfl rfl (Qo rfl rfl (Qa rfl ?_)))))))
   refine hK _ _ (Qb (kp1 rfl) ?_)
   refine Qu (Qs rfl ?_)
   simp_all [QgH]
  ·try rw [h2]
   try simp only [qa, qb, qc, qd, qe] at h2
   refine Qt rfl (Qt rfl (Qt rfl (Qo rfl rfl (Qa rfl ?_))))
   refine hK _ _ (Qb (kp1 rfl) ?_)
   refine Qu (Qs rfl ?_)
   simp_all [QgH]
 ·try rw [h1]
  try simp only [qa, qb, qc, qd, qe] at h1
  refine Qt rfl (Qt rfl (Qt rfl (Qo rfl rfl (Qa rfl (Qt rfl (Qt rfl (Qt rfl (Qo rfl rfl (Qa rfl ?_)))))))))
  refine hK _ _ (Qb (kp1 rfl) ?_)
  refine Qu (Qs rfl ?_)
  simp_all [QgH]
end Go.Proofs
namespace Go.Proofs
open Go Go.Abs M3 M25
set_option linter.unusedVariables false
set_option linter.unusedSimpArgs false
theorem QcX {a b c : Int} {p q : List UInt8} (hp : p.length <= 1000000) (hq : q.length <= 1000000) {part : Int} : Ok Tryz.prog 96 [.agg [.int .i64 a, .int .i64 b, .int .i64 c, .str p, .str q], .int .i64 part] (dOV (XZ a b c p q part)) := by
 refine Ok.ofT ZY Tryz.func96 Qsy (Nat.le_of_ble_eq_true rfl) ?_
 show TW _ _ tf96.body _ _
 refine Qf fun K hK => Zv rfl rfl rfl (ZL rfl (Qa rfl ?_))
 refine hK _ _ (Qb (kp3 rfl rfl rfl) ?_)
 refine QB ?_ -- 0
 refine Qf fun K hK => QH (cs := [_, _, _, _, _]) rfl rfl rfl rfl (QI (Zf (by omega) (by omega)) rfl rfl (.inr rfl) (Ym rfl (Qa rfl ?_)))
 refine QE (g := 10) rfl (fun h1 => ?_) (fun h1 => ?_)
 ·try rw [h1]
  try simp only [qa, qb, qc, qd, qe] at h1
  refine Qt rfl (Qt rfl (Qo rfl rfl (Qa rfl (Qt rfl (Qt rfl (Qo rfl rfl ?_))))))
  refine hK _ _ (Qb (kp4 rfl rfl rfl rfl) ?_)
  refine Zt rfl (Qf fun K hK => QX rfl rfl (Q7 rfl rfl rfl rfl rfl rfl rfl rfl (Qa rfl ?_)))
  refine hK _ _ (Qb (kp2 rfl rfl) ?_)
  refine Qu (Qj (Post.eq (XA (ds := [.int .i64 _, .int .i64 _, .int .i64 _, .str _, .str _]) (d' := .bool _) (cs := [_, _, _, _, _]) rfl rfl rfl rfl rfl ⟨rfl, rfl⟩) ?_))
  first | (simp [XZ, dOV, h1]; done) | (simp_all [XZ, dOV]; done)
 ·try rw [h1]
  try simp only [qa, qb, qc, qd, qe] at h1
  refine Qk rfl (Qa rfl (Qk rfl (Z6 rfl rfl (Qo rfl rfl (Qa rfl ?_)))))
  refine QE (g := 14) rfl (fun h2 => ?_) (fun h2 => ?_)
  ·try rw [h2]
   try simp only [qa, qb, qc, qd, qe] at h2
   refine Qt rfl (Qt rfl (Qo rfl rfl ?_))
   refine hK _ _ (Qb (kp4 rfl rfl rfl rfl) ?_)
   refine Zt rfl (Qf fun K hK => QX rfl rfl (Q7 rfl rfl rfl rfl rfl rfl rfl rfl (Qa rfl ?_)))
   refine hK _ _ (Qb (kp2 rfl rfl) ?_)
   refine Qu (Qj (Post.eq (XA (ds := [.int .i64 _, .int .i64 _, .int .i64 _, .str _, .str _]) (d' := .bool _) (cs := [_, _, _, _, _]) rfl rfl rfl rfl rfl ⟨rfl, rfl⟩) ?_))
   first | (simp [XZ, dOV, h1, h2]; done) | (simp_all [XZ, dOV]; done)
  ·try rw [h2]
   try simp only [qa, qb, qc, qd, qe] at h2
   refine Qk rfl (Qa rfl (Qk rfl (QhS rfl rfl (Qo rfl rfl ?_))))
   refine hK _ _ (Qb (kp4 rfl rfl rfl rfl) ?_)
   refine Qw rfl (fun h3 => ?_) (fun h3 => ?_)
   ·try rw [h3]
    try simp only [qa, qb, qc, qd, qe] at h3
    refine Qf fun K hK => QX rfl rfl (Q7 rfl rfl rfl rfl rfl rfl rfl rfl (Qa rfl ?_))
    refine hK _ _ (Qb (kp2 rfl rfl) ?_)
    refine Qu (Qj (Post.eq (XA (ds := [.int .i64 _, .int .i64 _, .int .i64 _, .str _, .str _]) (d' := .bool _) (cs := [_, _, _, _, _]) rfl rfl rfl rfl rfl ⟨rfl, rfl⟩) ?_))
    first | (simp [XZ, dOV, h1, h2, h3]; done) | (simp_all [XZ, dOV]; done)
   ·try rw [h3]
    try simp only [qa, qb, qc, qd, qe] at h3
    refine Qv (Qd (kp3 rfl rfl rfl) (Qf fun K hK => ZL rfl ?_))
    refine hK _ _ (Qb (kp4 rfl rfl rfl rfl) ?_)
    refine QB ?_ -- 1
    refine Qf fun K hK => Qa rfl ?_
    refine hK _ _ (Qb (kp4 rfl rfl rfl rfl) ?_)
    refine Qz (Qf fun K hK => ZO rfl rfl (Qa rfl ?_))
    refine hK _ _ (Qb (kp5 rfl rfl rfl rfl rfl) ?_)
    refine Qw rfl (fun h4 => ?_) (fun h4 => ?_)
    ·try rw [h4]
     try simp only [qa, qb, qc, qd, qe] at h4
     refine QL fun K hK => Qh rfl rfl (QA rfl rfl rfl (Q2 rfl rfl (Qq (by have := Qcm (by simpa using h1); omega) (by have := Qcm (by simpa using h1); omega)) (QX rfl rfl (Q7 rfl rfl rfl rfl rfl rfl rfl rfl (hK _ ?_)))))
     refine Qg (Qd (kp2 rfl rfl) ?_)
     refine QB ?_ -- 2
     refine Qf fun K hK => QH (cs := [_, _, _, _, _]) rfl rfl rfl rfl (QI (Zf (by simp) (by simp)) rfl rfl (.inr rfl) (Ym rfl ?_))
     refine hK _ _ (Qb (kp3 rfl rfl rfl) ?_)
     refine Qw rfl (fun h5 => ?_) (fun h5 => ?_)
     ·try rw [h5]
      try simp only [qa, qb, qc, qd, qe] at h5
      refine Qf fun K hK => QX rfl rfl (Q7 rfl rfl rfl rfl rfl rfl rfl rfl (Qa rfl ?_))
      refine hK _ _ (Qb (kp2 rfl rfl) ?_)
      refine Qu (Qj (Post.eq (XA (ds := [.int .i64 _, .int .i64 _, .int .i64 _, .str _, .str _]) (d' := .bool _) (cs := [_, _, _, _, _]) rfl rfl rfl rfl rfl ⟨rfl, rfl⟩) ?_))
      first | (simp [XZ, dOV, h1, h2, h3, h4, h5]; done) | (simp_all [XZ, dOV]; done)
     ·try rw [h5]
      try simp only [qa, qb, qc, qd, qe] at h5
      refine Qv (Qd (kp2 rfl rfl) (Qf fun K hK => QH (cs := [_, _, _, _, _]) rfl rfl rfl rfl (Q7 rfl rfl rfl rfl rfl rfl rfl rfl (Qa rfl ?_))))
      refine hK _ _ (Qb (kp2 rfl rfl) ?_)
      refine Qu (Post.eq (XA (ds := [.int .i64 _, .int .i64 _, .int .i64 _, .str _, .str _]) (d' := .bool _) (cs := [_, _, _, _, _]) rfl rfl rfl rfl rfl ⟨rfl, rfl⟩) ?_)
      first | (simp [XZ, dOV, h1, h2, h3, h4, h5]; done) | (simp_all [XZ, dOV]; done)
    ·try rw [h4]
     try simp only [qa, qb, qc, qd, qe] at h4
     refine Qf fun K hK => ZO rfl rfl (Qa rfl ?_)
     refine hK _ _ (Qb (kp4 rfl rfl rfl rfl) ?_)
     refine Qw rfl (fun h6 => ?_) (fun h6 => ?_)
     ·try rw [h6]
      try simp only [qa, qb, qc, qd, qe] at h6
      refine QL fun K hK => Qh rfl rfl (QA rfl rfl rfl (Qh rfl rfl (QA rfl rfl rfl (Q2 rfl rfl (Qq (by have := Qcm (by simpa using h1); omega) (by have := Qcm (by simpa using h1); omega)) (QX rfl rfl (Q7 rfl rfl rfl rfl rfl rfl rfl rfl (hK _ ?_)))))))
      refine Qg (Qd (kp2 rfl rfl) ?_)
      refine QB ?_ -- 2
      refine Qf fun K hK => QH (cs := [_, _, _, _, _]) rfl rfl rfl rfl (QI (Zf (by simp) (by simp)) rfl rfl (.inr rfl) (Ym rfl ?_))
      refine hK _ _ (Qb (kp3 rfl rfl rfl) ?_)
      refine Qw rfl (fun h7 => ?_) (fun h7 => ?_)
      ·try rw [h7]
       try simp only [qa, qb, qc, qd, qe] at h7
       refine Qf fun K hK => QX rfl rfl (Q7 rfl rfl rfl rfl rfl rfl rfl rfl (Qa rfl ?_))
       refine hK _ _ (Qb (kp2 rfl rfl) ?_)
       refine Qu (Qj (Post.eq (XA (ds := [.int .i64 _, .int .i64 _, .int .i64 _, .str _, .str _]) (d' := .bool _) (cs := [_, _, _, _, _]) rfl rfl rfl rfl rfl ⟨rfl, rfl⟩) ?_))
       first | (simp [XZ, dOV, h1, h2, h3, h4, h6, h7]; done) | (simp_all [XZ, dOV]; done)
      ·try rw [h7]
       try simp only [qa, qb, qc, qd, qe] at h7
       refine Qv (Qd (kp2 rfl rfl) (Qf fun K hK => QH (cs := [_, _, _, _, _]) rfl rfl rfl rfl (Q7 rfl rfl rfl rfl rfl rfl rfl rfl (Qa rfl ?_))))
       refine hK _ _ (Qb (kp2 rfl rfl) ?_)
       refine Qu (Post.eq (XA (ds := [.int .i64 _, .int .i64 _, .int .i64 _, .str _, .str _]) (d' := .bool _) (cs := [_, _, _, _, _]) rfl rfl rfl rfl rfl ⟨rfl, rfl⟩) ?_)
       first | (simp [XZ, dOV, h1, h2, h3, h4, h6, h7]; done) | (simp_all [XZ, dOV]; done)
     ·try rw [h6]
      try simp only [qa, qb, qc, qd, qe] at h6
      refine QL fun K hK => Qh rfl rfl (QA rfl rfl rfl (Qh rfl rfl (QA rfl rfl rfl (Qh rfl rfl (QA rfl rfl rfl (Q2 rfl rfl (Qq (by have := Qcm (by simpa using h1); omega) (by have := Qcm (by simpa using h1); omega)) (QX rfl rfl (Q7 rfl rfl rfl rfl rfl rfl rfl rfl (hK _ ?_)))))))))
      refine Qg (Qd (kp2 rfl rfl) ?_)
      refine QB ?_ -- 2
      refine Qf fun K hK => QH (cs := [_, _, _, _, _]) rfl rfl rfl rfl (QI (Zf (by simp) (by simp)) rfl rfl (.inr rfl) (Ym rfl ?_))
      refine hK _ _ (Qb (kp3 rfl rfl rfl) ?_)
      refine Qw rfl (fun h8 => ?_) (fun h8 => ?_)
      ·try rw [h8]
       try simp only [qa, qb, qc, qd, qe] at h8
       refine Qf fun K hK => QX rfl rfl (Q7 rfl rfl rfl rfl rfl rfl rfl rfl (Qa rfl ?_))
       refine hK _ _ (Qb (kp2 rfl rfl) ?_)
       refine Qu (Qj (Post.eq (XA (ds := [.int .i64 _, .int .i64 _, .int .i64 _, .str _, .str _]) (d' := .bool _) (cs := [_, _, _, _, _]) rfl rfl rfl rfl rfl ⟨rfl, rfl⟩) ?_))
       first | (simp [XZ, dOV, h1, h2, h3, h4, h6, h8]; done) | (simp_all [XZ, dOV]; done)
      ·try rw [h8]
       try simp only [qa, qb, qc, qd, qe] at h8
       refine Qv (Qd (kp2 rfl rfl) (Qf fun K hK => QH (cs := [_, _, _, _, _]) rfl rfl rfl rfl (Q7 rfl rfl rfl rfl rfl rfl rfl rfl (Qa rfl ?_))))
       refine hK _ _ (Qb (kp2 rfl rfl) ?_)
       refine Qu (Post.eq (XA (ds := [.int .i64 _, .int .i64 _, .int .i64 _, .str _, .str _]) (d' := .bool _) (cs := [_, _, _, _, _]) rfl rfl rfl rfl rfl ⟨rfl, rfl⟩) ?_)
       first | (simp [XZ, dOV, h1, h2, h3, h4, h6, h8]; done) | (simp_all [XZ, dOV]; done)
theorem QcY {a b c : Int} {p q : List UInt8} (hp : p.length <= 1000000) (hq : q.length <= 1000000) : Ok Tryz.prog 81 [.agg [.int .i64 a, .int .i64 b, .int .i64 c, .str p, .str q]] (dOV (QiB a b c p q)) := by
 refine Ok.ofT ZY Tryz.func81 Qsj (Nat.le_of_ble_eq_true rfl) ?_
 show TW _ _ tf81.body _ _
 refine Qf fun K hK => Zv rfl rfl rfl (ZL rfl (Qa rfl ?_))
 refine hK _ _ (Qb (kp2 rfl rfl) ?_)
 refine QB ?_ -- 0
 refine Qf fun K hK => QH (cs := [_, _, _, _, _]) rfl rfl rfl rfl (QI (Zf (by omega) (by omega)) rfl rfl (.inr rfl) (Ym rfl ?_))
 refine hK _ _ (Qb (kp3 rfl rfl rfl) ?_)
 refine Qw rfl (fun h1 => ?_) (fun h1 => ?_)
 ·try rw [h1]
  try simp only [qa, qb, qc, qd, qe] at h1
  refine Qf fun K hK => QX rfl rfl (Q7 rfl rfl rfl rfl rfl rfl rfl rfl (Qa rfl ?_))
  refine hK _ _ (Qb (kp2 rfl rfl) ?_)
  refine Qu (Qj (Post.eq (XA (ds := [.int .i64 _, .int .i64 _, .int .i64 _, .str _, .str _]) (d' := .bool _) (cs := [_, _, _, _, _]) rfl rfl rfl rfl rfl ⟨rfl, rfl⟩) ?_))
  simp [QiB, dOV, h1]
 ·try rw [h1]
  try simp only [qa, qb, qc, qd, qe] at h1
  refine Qv (Qd (kp2 rfl rfl) ?_)
  refine QB ?_ -- 1
  refine Qf fun K hK => Qh rfl rfl (QA rfl rfl rfl (Qnl rfl rfl ?_))
  refine hK _ _ (Qb (kp3 rfl rfl rfl) ?_)
  refine Qw rfl (fun h2 => ?_) (fun h2 => ?_)
  ·try rw [h2]
   try simp only [qa, qb, qc, qd, qe] at h2
   refine Qf fun K hK => Qh rfl rfl (QA rfl rfl rfl (Qh rfl rfl (QA rfl rfl rfl (Qh rfl rfl (QA rfl rfl rfl (QX rfl rfl (Q7 rfl rfl rfl rfl rfl rfl rfl rfl (Qa rfl ?_))))))))
   refine hK _ _ (Qb (kp2 rfl rfl) ?_)
   refine Qu (Qj (Post.eq (XA (ds := [.int .i64 _, .int .i64 _, .int .i64 _, .str _, .str _]) (d' := .bool _) (cs := [_, _, _, _, _]) rfl rfl rfl rfl rfl ⟨rfl, rfl⟩) ?_))
   simp [QiB, dOV, h1, h2]
  ·try rw [h2]
   try simp only [qa, qb, qc, qd, qe] at h2
   refine Qv (Qd (kp2 rfl rfl) ?_)
   refine QB ?_ -- 2
   refine Qf fun K hK => Qa rfl ?_
   refine hK _ _ (Qb (kp3 rfl rfl rfl) ?_)
   refine Qz ?_
   refine Zj (ι := Nat) (fun m => ⟨[(1, .ref 1 0 0), (2, .ref 2 0 0), (4, .int .i64 ((m : Int) - 1))], [(1, ⟨[[.int .i64 a, .int .i64 b, .int .i64 c, .str p, .str q]], 5, 67, true⟩), (2, ⟨[[.int .i64 0, .int .i64 0, .int .i64 0, .str [], .str []]], 5, 67, true⟩)]⟩) (fun m => m <= 3 /\ XC a b c p q 3 = XC a b c p q m) (fun m => m) 3 ?_ ?_ ?_
   ·exact Q1 (l := [1, 2, 4]) (lH := [1, 2]) (kp3 rfl rfl rfl) (Qe rfl (Qe rfl Ql)) rfl rfl rfl
   ·exact ⟨by omega, rfl⟩
   intro m hI
   obtain ⟨hI1, hI2⟩ := hI
   try dsimp only
   refine QB ?_ -- 3
   refine Qf fun K hK => Qa rfl (QeS rfl rfl ?_)
   refine hK _ _ (Qb (kp4 rfl rfl rfl rfl) ?_)
   refine Qw rfl (fun h3 => ?_) (fun h3 => ?_)
   ·try rw [h3]
    try simp only [qa, qb, qc, qd, qe] at h3
    rcases Nat.eq_zero_or_pos m with hm | hm <;> first | omega | skip
    refine Qv (Qd (kp3 rfl rfl rfl) ?_)
    refine QB ?_ -- 4
    refine Qz (Qf fun K hK => QH (cs := [_, _, _, _, _]) rfl rfl rfl rfl (Qa rfl (QI (QcX (by omega) (by omega)) rfl rfl (.inl rfl) (Qa rfl (QR rfl rfl (QR rfl rfl (ZL rfl (Q7 rfl rfl rfl rfl rfl rfl rfl rfl (Qa rfl ?_)))))))))
    refine hK _ _ (Qb (kp5 rfl rfl rfl rfl rfl) ?_)
    refine Qf fun K hK => Qa rfl ?_
    refine hK _ _ (Qb (kp5 rfl rfl rfl rfl rfl) ?_)
    refine Qw rfl (fun h4 => ?_) (fun h4 => ?_)
    ·try rw [h4]
     try simp only [qa, qb, qc, qd, qe] at h4
     refine Qf fun K hK => QH (cs := [_, _, _, _, _]) rfl rfl rfl rfl (Q7 rfl rfl rfl rfl rfl rfl rfl rfl (Qa rfl ?_))
     refine hK _ _ (Qb (kp2 rfl rfl) ?_)
     refine Qu (Qr (Qj (Q4 (Qr (Qj (Post.eq (XA (ds := [.int .i64 _, .int .i64 _, .int .i64 _, .str _, .str _]) (d' := .bool _) (cs := [_, _, _, _, _]) rfl rfl rfl rfl rfl ⟨rfl, rfl⟩) ?_))))))
     subst h2
     simp [QiB, dOV, h1, hI2, Qh4 hm h4, h4]
    ·try rw [h4]
     try simp only [qa, qb, qc, qd, qe] at h4
     refine Qv (Qg (Qd (kp3 rfl rfl rfl) (QL fun K hK => Qa rfl (QaD rfl rfl (by first | exact Qq (by omega) (by omega) | rfl) (Qa rfl (hK _ ?_))))))
     refine Qi (m - 1) ?_ ?_ ?_
     ·refine Q1 (l := [1, 2, 4]) (lH := [1, 2]) (kp3 rfl rfl rfl) (Qe rfl (Qe rfl Ql)) ?_ rfl rfl; simp only [List.cons.injEq, Prod.mk.injEq, D.int.injEq, and_true, true_and]; omega
     ·exact ⟨by omega, by rw [hI2]; exact Qje hm h4⟩
     ·show m - 1 < m; omega
   ·try rw [h3]
    try simp only [qa, qb, qc, qd, qe] at h3
    rcases Nat.eq_zero_or_pos m with hm | hm <;> first | omega | skip
    refine Zh (QJ (Qx (QD (Qd (kp1 rfl) (Qf fun K hK => QX rfl rfl (Q7 rfl rfl rfl rfl rfl rfl rfl rfl (Qa rfl ?_)))))))
    refine hK _ _ (Qb (kp2 rfl rfl) ?_)
    refine Qu (Post.eq (XA (ds := [.int .i64 _, .int .i64 _, .int .i64 _, .str _, .str _]) (d' := .bool _) (cs := [_, _, _, _, _]) rfl rfl rfl rfl rfl ⟨rfl, rfl⟩) ?_)
    subst h2
    subst hm
    have hb : XC a b c [] q 3 = none := hI2
    simp [QiB, dOV, h1, hb]
end Go.Proofs
namespace Go.Proofs
open Go Go.Abs M3 M25
set_option linter.unusedVariables false
set_option linter.unusedSimpArgs false
theorem XT {e a b c : Int} {p q : List UInt8} {f : Bool} : Ok Tryz.prog 103 [.agg [.int .i64 e, .int .i64 a, .int .i64 b, .int .i64 c, .str p, .str q, .bool f]] (.bool (QgJ e a b c p q f)) := by
 refine Ok.ofT ZY Tryz.func103 QqS (Nat.le_of_ble_eq_true rfl) ?_
 show TW _ _ tf103.body _ _
 refine Qf fun K hK => Zv rfl rfl rfl (Qa rfl ?_)
 refine hK _ _ (Qb (kp1 rfl) ?_)
 refine Qf fun K hK => Qh rfl rfl (QA rfl rfl rfl (X8 rfl rfl (Qa rfl ?_)))
 refine QE (g := 6) rfl (fun h1 => ?_) (fun h1 => ?_)
 ·try rw [h1]
  try simp only [qa, qb, qc, qd, qe] at h1
  refine Qt rfl (Qt rfl (Qt rfl (Qt rfl (Zx rfl (Zx rfl (Zx rfl (Zx rfl (Qt rfl (Qt rfl (Zx rfl (Zx rfl ?_)))))))))))
  refine Zx rfl (Zx rfl (Qt rfl (Qo rfl rfl (Qa rfl ?_))))
  refine hK _ _ (Qb (kp1 rfl) ?_)
  refine Qu (Qs rfl ?_)
  simp_all [QgJ]
 ·try rw [h1]
  try simp only [qa, qb, qc, qd, qe] at h1
  refine Qk rfl (Qh rfl rfl (Qk rfl (QA rfl rfl rfl (Qk rfl (Ym rfl (Qk rfl (Qa rfl ?_)))))))
  refine QE (g := 10) rfl (fun h2 => ?_) (fun h2 => ?_)
  ·try rw [h2]
   try simp only [qa, qb, qc, qd, qe] at h2
   refine Qk rfl (Qh rfl rfl (Qk rfl (Qh rfl rfl (Qk rfl (QA rfl rfl rfl (Qk rfl (Qg1 rfl rfl (Qk rfl (Qo rfl rfl (Qk rfl (Qa rfl ?_)))))))))))
   refine QE (g := 16) rfl (fun h3 => ?_) (fun h3 => ?_)
   ·try rw [h3]
    try simp only [qa, qb, qc, qd, qe] at h3
    refine Qk rfl (Qh rfl rfl (Qk rfl (QH (cs := [_, _, _, _, _]) rfl rfl rfl rfl (Qk rfl (QI (XS) rfl rfl (.inr rfl) (Qk rfl (Ym rfl (Qk rfl (Qo rfl rfl (Qo rfl rfl (Qa rfl ?_)))))))))))
    refine hK _ _ (Qb (kp1 rfl) ?_)
    refine Qu (Qs rfl ?_)
    simp_all [QgJ]
   ·try rw [h3]
    try simp only [qa, qb, qc, qd, qe] at h3
    refine Qt rfl (Qt rfl (Qt rfl (Qt rfl (Qk rfl (Qo rfl rfl (Qo rfl rfl (Qa rfl ?_)))))))
    refine hK _ _ (Qb (kp1 rfl) ?_)
    refine Qu (Qs rfl ?_)
    simp_all [QgJ]
  ·try rw [h2]
   try simp only [qa, qb, qc, qd, qe] at h2
   refine Qt rfl (Qt rfl (Qt rfl (Qt rfl (Qk rfl (Qo rfl rfl (Qk rfl (Qa rfl (Qt rfl (Qt rfl (Qt rfl (Qt rfl ?_)))))))))))
   refine Qk rfl (Qo rfl rfl (Qo rfl rfl (Qa rfl ?_)))
   refine hK _ _ (Qb (kp1 rfl) ?_)
   refine Qu (Qs rfl ?_)
   simp_all [QgJ]
theorem QcM {a b c : Int} {p q : List UInt8} : Ok Tryz.prog 59 [.agg [.int .i64 a, .int .i64 b, .int .i64 c, .str p, .str q]] (.agg (dCu (QfT a b c))) := by
 refine Ok.ofT ZY Tryz.func59 QrY (Nat.le_of_ble_eq_true rfl) ?_
 show TW _ _ tf59.body _ _
 refine Qf fun K hK => Zv rfl rfl rfl (ZL rfl ?_)
 refine hK _ _ (Qb (kp2 rfl rfl) ?_)
 refine QB ?_ -- 0
 refine Qf fun K hK => QH (cs := [_, _, _, _, _]) rfl rfl rfl rfl (QI (XS) rfl rfl (.inr rfl) ?_)
 refine hK _ _ (Qb (kp3 rfl rfl rfl) ?_)
 refine Qw rfl (fun h1 => ?_) (fun h1 => ?_)
 ·try rw [h1]
  try simp only [qa, qb, qc, qd, qe] at h1
  refine Qf fun K hK => QI (YV) rfl rfl (.inl rfl) (Q7 rfl rfl rfl rfl rfl rfl rfl rfl ?_)
  refine hK _ _ (Qb (kp1 rfl) ?_)
  refine Qu (Qj (Post.eq (ZI (ds := [.int .i64 _, .int .i64 _, .int .i64 _, .int .i64 _, .str _, .str _, .bool _]) (cs := [_, _, _, _, _, _, _]) rfl rfl rfl rfl rfl) ?_))
  simp [QfT, dCu, Qbw, h1]
 ·try rw [h1]
  try simp only [qa, qb, qc, qd, qe] at h1
  refine Qv (Qd (kp2 rfl rfl) (Qf fun K hK => Qh rfl rfl (QA rfl rfl rfl (Qh rfl rfl (QA rfl rfl rfl (Qh rfl rfl (QA rfl rfl rfl (QX rfl rfl (QI (YK) rfl rfl (.inl rfl) (Q7 rfl rfl rfl rfl rfl rfl rfl rfl ?_))))))))))
  refine hK _ _ (Qb (kp1 rfl) ?_)
  refine Qu (Post.eq (ZI (ds := [.int .i64 _, .int .i64 _, .int .i64 _, .int .i64 _, .str _, .str _, .bool _]) (cs := [_, _, _, _, _, _, _]) rfl rfl rfl rfl rfl) ?_)
  simp [QfT, dCu, Qbw, h1]
theorem QbN {a b c : Int} {p q : List UInt8} : Ok Tryz.prog 60 [.agg [.int .i64 a, .int .i64 b, .int .i64 c, .str p, .str q]] (.agg (dCu (QdD a b c))) := by
 refine Ok.ofT ZY Tryz.func60 QrZ (Nat.le_of_ble_eq_true rfl) ?_
 show TW _ _ tf60.body _ _
 refine Qf fun K hK => Zv rfl rfl rfl (ZL rfl ?_)
 refine hK _ _ (Qb (kp2 rfl rfl) ?_)
 refine Qf fun K hK => Qh rfl rfl (QA rfl rfl rfl (Qh rfl rfl (QA rfl rfl rfl (Qh rfl rfl (QA rfl rfl rfl (QX rfl rfl (QI (QcY (by simp) (by simp)) rfl rfl (.inl rfl) (Qa rfl (QR rfl rfl (QR rfl rfl ?_))))))))))
 refine ZL rfl (Q7 rfl rfl rfl rfl rfl rfl rfl rfl (Qa rfl ?_))
 refine hK _ _ (Qb (kp3 rfl rfl rfl) ?_)
 refine QB ?_ -- 0
 refine Qf fun K hK => Qa rfl (Ym rfl ?_)
 refine hK _ _ (Qb (kp3 rfl rfl rfl) ?_)
 refine Qw rfl (fun h1 => ?_) (fun h1 => ?_)
 ·try rw [h1]
  try simp only [qa, qb, qc, qd, qe] at h1
  refine Qf fun K hK => QI (Y5) rfl rfl (.inl rfl) (Q7 rfl rfl rfl rfl rfl rfl rfl rfl ?_)
  refine hK _ _ (Qb (kp1 rfl) ?_)
  refine Qu (Qj (Post.eq (ZI (ds := [.int .i64 _, .int .i64 _, .int .i64 _, .int .i64 _, .str _, .str _, .bool _]) (cs := [_, _, _, _, _, _, _]) rfl rfl rfl rfl rfl) ?_))
  cases hn : QiB a b c [] [] <;> simp [QdD, dCu, QeW, hn] at *
 ·try rw [h1]
  try simp only [qa, qb, qc, qd, qe] at h1
  refine Qv (Qd (kp2 rfl rfl) (Qf fun K hK => QH (cs := [_, _, _, _, _]) rfl rfl rfl rfl (QI (YK) rfl rfl (.inl rfl) (Q7 rfl rfl rfl rfl rfl rfl rfl rfl ?_))))
  refine hK _ _ (Qb (kp1 rfl) ?_)
  refine Qu (Post.eq (ZI (ds := [.int .i64 _, .int .i64 _, .int .i64 _, .int .i64 _, .str _, .str _, .bool _]) (cs := [_, _, _, _, _, _, _]) rfl rfl rfl rfl rfl) ?_)
  cases hn : QiB a b c [] [] <;> simp [QdD, dCu, QeW, hn] at *
theorem XU  : Ok Tryz.prog 75 [] (ZJ [(Qbw, QeW)]) := by
 refine Ok.ofT ZY Tryz.func75 Qsd (Nat.le_of_ble_eq_true rfl) ?_
 show TW _ _ tf75.body _ _
 refine Qf fun K hK => Qa rfl ?_
 refine hK _ _ (Qb (Q6) ?_)
 refine Qf fun K hK => QI (YV) rfl rfl (.inl rfl) (QI (Y5) rfl rfl (.inl rfl) (QX rfl rfl (QC rfl rfl (Qa rfl ?_))))
 refine hK _ _ (Qb (kp1 rfl) ?_)
 refine Qu (Yg rfl ?_)
 rfl
theorem Z8  : Ok Tryz.prog 56 [] (Qg9 ([], [])) := by
 refine Ok.ofT ZY Tryz.func56 QrV (Nat.le_of_ble_eq_true rfl) ?_
 show TW _ _ tf56.body _ _
 refine Qf fun K hK => ZL rfl ?_
 refine hK _ _ (Qb (kp1 rfl) ?_)
 refine Qf fun K hK => QX rfl rfl (Q7 rfl rfl rfl rfl rfl rfl rfl rfl ?_)
 refine hK _ _ (Qb (kp1 rfl) ?_)
 refine Qu (Post.eq (ZI (ds := [.sl _, .sl _]) (cs := [_, _]) rfl rfl rfl rfl rfl) ?_)
 rfl
theorem Qau  : Ok Tryz.prog 54 [] (Qg9 ([(Qbw, QeW)], [(Qbw, QeW)])) := by
 refine Ok.ofT ZY Tryz.func54 QrT (Nat.le_of_ble_eq_true rfl) ?_
 show TW _ _ tf54.body _ _
 refine Qf fun K hK => ZL rfl ?_
 refine hK _ _ (Qb (kp1 rfl) ?_)
 refine Qf fun K hK => QI (XU) rfl rfl (.inl rfl) (QI (XU) rfl rfl (.inl rfl) (QX rfl rfl (Q7 rfl rfl rfl rfl rfl rfl rfl rfl ?_)))
 refine hK _ _ (Qb (kp1 rfl) ?_)
 refine Qu (Post.eq (ZI (ds := [.sl _, .sl _]) (cs := [_, _]) rfl rfl rfl rfl rfl) ?_)
 rfl
theorem XR {a b c : Int} {p q : List UInt8} (hp : p.length <= 1000000) (hq : q.length <= 1000000) : Ok Tryz.prog 35 [.agg [.int .i64 a, .int .i64 b, .int .i64 c, .str p, .str q]] (Qg9 (Xa a b c p q)) := by
 refine Ok.ofT ZY Tryz.func35 QrC (Nat.le_of_ble_eq_true rfl) ?_
 show TW _ _ tf35.body _ _
 refine Qf fun K hK => Zv rfl rfl rfl (ZL rfl ?_)
 refine hK _ _ (Qb (kp2 rfl rfl) ?_)
 refine QB ?_ -- 0
 refine Qf fun K hK => QH (cs := [_, _, _, _, _]) rfl rfl rfl rfl (QI (Zf (by omega) (by omega)) rfl rfl (.inr rfl) (Ym rfl ?_))
 refine hK _ _ (Qb (kp3 rfl rfl rfl) ?_)
 refine Qw rfl (fun h1 => ?_) (fun h1 => ?_)
 ·try rw [h1]
  try simp only [qa, qb, qc, qd, qe] at h1
  refine Qf fun K hK => QI (Z8) rfl rfl (.inl rfl) (Q7 rfl rfl rfl rfl rfl rfl rfl rfl ?_)
  refine hK _ _ (Qb (kp1 rfl) ?_)
  refine Qu (Qj (Post.eq (ZI (ds := [.sl _, .sl _]) (cs := [_, _]) rfl rfl rfl rfl rfl) ?_))
  simp [Xa, Qg9, ZJ, QeU, dCu, h1]
 ·try rw [h1]
  try simp only [qa, qb, qc, qd, qe] at h1
  refine Qv (Qd (kp2 rfl rfl) ?_)
  refine QB ?_ -- 1
  refine Qf fun K hK => Qh rfl rfl (QA rfl rfl rfl (Qnl rfl rfl ?_))
  refine hK _ _ (Qb (kp3 rfl rfl rfl) ?_)
  refine Qw rfl (fun h2 => ?_) (fun h2 => ?_)
  ·try rw [h2]
   try simp only [qa, qb, qc, qd, qe] at h2
   refine Qf fun K hK => QN (ds0 := [6, 3, 2, 1, 0]) (cs := [_, _, _, _, _]) rfl rfl rfl rfl rfl rfl (QT (ds0 := [3, 2, 1, 0]) (YK) rfl rfl (.inl rfl) rfl rfl (QN (ds0 := [4, 3, 2, 1, 0]) (cs := [_, _, _, _, _]) rfl rfl rfl rfl rfl rfl (QT (ds0 := [3, 2, 1, 0]) (QbM) rfl rfl (.inl rfl) rfl rfl (QX rfl rfl (QC rfl rfl (QX rfl rfl (YZ (ds0 := []) rfl rfl rfl rfl rfl rfl rfl rfl rfl rfl ?_)))))))
   refine hK _ _ (Qb (kp1 rfl) ?_)
   refine Qu (Qj (Post.eq (ZI (ds := [.sl _, .sl _]) (cs := [_, _]) rfl rfl rfl rfl rfl) ?_))
   simp [Xa, Qg9, ZJ, QeU, dCu, h1, h2]
  ·try rw [h2]
   try simp only [qa, qb, qc, qd, qe] at h2
   refine Qv (Qd (kp2 rfl rfl) (Qf fun K hK => QN (ds0 := [6, 3, 2, 1, 0]) (cs := [_, _, _, _, _]) rfl rfl rfl rfl rfl rfl (QT (ds0 := [3, 2, 1, 0]) (QcM) rfl rfl (.inl rfl) rfl rfl (QN (ds0 := [4, 3, 2, 1, 0]) (cs := [_, _, _, _, _]) rfl rfl rfl rfl rfl rfl (QT (ds0 := [3, 2, 1, 0]) (QbN) rfl rfl (.inl rfl) rfl rfl (QX rfl rfl (QC rfl rfl (QX rfl rfl (YZ (ds0 := []) rfl rfl rfl rfl rfl rfl rfl rfl rfl rfl ?_)))))))))
   refine hK _ _ (Qb (kp1 rfl) ?_)
   refine Qu (Post.eq (ZI (ds := [.sl _, .sl _]) (cs := [_, _]) rfl rfl rfl rfl rfl) ?_)
   subst h2
   simp [Xa, Qg9, ZJ, QeU, dCu, h1]
end Go.Proofs
namespace Go.Proofs
open Go Go.Abs M3 M25
set_option linter.unusedVariables false
set_option linter.unusedSimpArgs false
theorem ZV {l : List (Cu × Cu)} (hl : Sm l) : Ok Tryz.prog 102 [ZJ l] (.bool (Qeq l)) := by
 refine Ok.ofT ZY Tryz.func102 QqR (Nat.le_of_ble_eq_true rfl) ?_
 show TW _ _ tf102.body _ _
 have hn := hl.1
 refine Qf fun K hK => Qa rfl ?_
 refine hK _ _ (Qb (kp1 rfl) ?_)
 refine QB ?_ -- 0
 refine Qf fun K hK => Qa rfl ?_
 refine hK _ _ (Qb (kp2 rfl rfl) ?_)
 refine Qz ?_
 refine Zj (ι := Nat) (fun i => ⟨[(0, ZJ l), (3, .int .i64 i)], []⟩) (fun i => i <= l.length /\ (List.range i).all (QpH l) = true) (fun i => l.length - i) 0 ?_ ?_ ?_
 ·exact Zg (kp2 rfl rfl)
 ·exact ⟨Nat.zero_le _, rfl⟩
 intro i hI
 try dsimp only
 refine QB ?_ -- 1
 refine Qf fun K hK => Qa rfl (Qa rfl (QQ rfl rfl (Z6 rfl rfl ?_)))
 refine hK _ _ (Qb (kp3 rfl rfl rfl) ?_)
 refine Qw rfl (fun h1 => ?_) (fun h1 => ?_)
 ·try rw [h1]
  try simp only [qa, qb, qc, qd, qe, List.length_map] at h1
  refine Qv (Qd (kp2 rfl rfl) ?_)
  refine QB ?_ -- 2
  refine Qz (Qf fun K hK => Qa rfl (Qa rfl (QK rfl rfl rfl (by omega) (QV (by omega)) rfl (QN (ds0 := [20, 19, 18, 17, 16, 15, 14, 13, 12, 11, 10, 9, 8, 7, 6, 5, 4, 3, 2, 1, 0]) (cs := [_, _, _, _, _, _, _, _, _, _, _, _, _, _]) rfl rfl rfl rfl rfl rfl (QT (ds0 := [19, 18, 17, 16, 15, 14, 13, 12, 11, 10, 9, 8, 7, 6, 5, 4, 3, 2, 1, 0]) (YF (hl.at (i := i) (by omega)).1.1 (hl.at (i := i) (by omega)).1.2 (hl.at (i := i) (by omega)).2.1 (hl.at (i := i) (by omega)).2.2) rfl rfl (.inr rfl) rfl rfl (Ym rfl (Qa rfl ?_)))))))
  refine QE (g := 16) rfl (fun h2 => ?_) (fun h2 => ?_)
  ·try rw [h2]
   try simp only [qa, qb, qc, qd, qe, List.length_map] at h2
   refine Qt rfl (Qt rfl (Qt rfl (Zx rfl (Zx rfl (Zx rfl (Zx rfl (Zx rfl (Zx rfl (Zx rfl (Zx rfl (Zx rfl ?_)))))))))))
   refine Zx rfl (Zx rfl (Zx rfl (Zx rfl (Qt rfl (Qo rfl rfl ?_)))))
   refine hK _ _ (Qb (kp3 rfl rfl rfl) ?_)
   refine Zt rfl (Qf fun K hK => Qa rfl ?_)
   refine hK _ _ (Qb (kp1 rfl) ?_)
   refine Qu (Qr (Qj (Q4 (Qr (Qj (Qs rfl ?_))))))
   first
    | exact (QhF hI.2 (by omega)).symm
    | exact (Qcp (i := i) (by omega) (QgP (by omega) (.inl h2))).symm
    | (simp only [QdQ] at *; exact (Qcp (i := i) (by omega) (QgP (by omega) (.inr ⟨by omega, h4⟩))).symm)
  ·try rw [h2]
   try simp only [qa, qb, qc, qd, qe, List.length_map] at h2
   refine Qk rfl (Qa rfl (Qk rfl (QhS rfl rfl (Qk rfl (Qa rfl ?_)))))
   refine QE (g := 19) rfl (fun h3 => ?_) (fun h3 => ?_)
   ·try rw [h3]
    try simp only [qa, qb, qc, qd, qe, List.length_map] at h3
    refine Qk rfl (Qa rfl (Qk rfl (Qa rfl (Qk rfl (QaD rfl rfl (by first | exact Qq (by omega) (by omega) | rfl) (Qk rfl (QK rfl rfl rfl (by omega) (ZE (by omega) (by omega)) rfl (Qk rfl (Q9 rfl rfl (Qk rfl (QN (ds0 := [3, 2, 1, 0]) (cs := [_, _, _, _, _, _, _]) rfl rfl rfl rfl rfl rfl ?_)))))))))))
    refine Qk rfl (Qa rfl (Qk rfl (Qa rfl (Qk rfl (QK rfl rfl rfl (by omega) (QV (by omega)) rfl (Qk rfl (Q9 rfl rfl (Qk rfl (QN (ds0 := [3, 2, 1, 0]) (cs := [_, _, _, _, _, _, _]) rfl rfl rfl rfl rfl rfl (Qk rfl (QT (ds0 := [2, 1, 0]) (Zs (hl.at (i := ((i : Int) - 1).toNat) (by omega)).2.1 (hl.at (i := ((i : Int) - 1).toNat) (by omega)).2.2 (hl.at (i := i) (by omega)).1.1 (hl.at (i := i) (by omega)).1.2) rfl rfl (.inr rfl) rfl rfl ?_)))))))))))
    refine Qk rfl (QeS rfl rfl (Qk rfl (Qo rfl rfl (Qo rfl rfl ?_))))
    refine hK _ _ (Qb (kp3 rfl rfl rfl) ?_)
    refine Qw rfl (fun h4 => ?_) (fun h4 => ?_)
    ·try rw [h4]
     try simp only [qa, qb, qc, qd, qe, List.length_map] at h4
     refine Qf fun K hK => Qa rfl ?_
     refine hK _ _ (Qb (kp1 rfl) ?_)
     refine Qu (Qr (Qj (Q4 (Qr (Qj (Qs rfl ?_))))))
     first
      | exact (QhF hI.2 (by omega)).symm
      | exact (Qcp (i := i) (by omega) (QgP (by omega) (.inl h2))).symm
      | (simp only [QdQ] at *; exact (Qcp (i := i) (by omega) (QgP (by omega) (.inr ⟨by omega, h4⟩))).symm)
    ·try rw [h4]
     try simp only [qa, qb, qc, qd, qe, List.length_map] at h4
     refine Qv (Qg (Qd (kp2 rfl rfl) (QL fun K hK => Qa rfl (Q2 rfl rfl (by first | exact Qq (by omega) (by omega) | rfl) (Qa rfl (hK _ ?_))))))
     refine Qi (i + 1) ?_ ?_ ?_
     ·exact Zg (kp2 rfl rfl)
     ·exact ⟨by omega, QkF hI.2 (QoC (by omega) h2 (by first | exact .inl (by omega) | (simp only [QdQ] at *; exact .inr (Int.not_le.1 h4))))⟩
     ·first | omega | (simp only; omega) | (dsimp only; omega)
   ·try rw [h3]
    try simp only [qa, qb, qc, qd, qe, List.length_map] at h3
    refine Qt rfl (Qt rfl (Qt rfl (Qt rfl (Qt rfl (Qt rfl (Qt rfl (Qt rfl (Qt rfl (Qt rfl (Qt rfl (Qt rfl ?_)))))))))))
    refine Qt rfl (Qk rfl (Qo rfl rfl (Qo rfl rfl ?_)))
    refine hK _ _ (Qb (kp3 rfl rfl rfl) ?_)
    refine ZG rfl (Qv (Qg (Qd (kp2 rfl rfl) (QL fun K hK => Qa rfl (Q2 rfl rfl (by first | exact Qq (by omega) (by omega) | rfl) (Qa rfl (hK _ ?_)))))))
    refine Qi (i + 1) ?_ ?_ ?_
    ·exact Zg (kp2 rfl rfl)
    ·exact ⟨by omega, QkF hI.2 (QoC (by omega) h2 (by first | exact .inl (by omega) | (simp only [QdQ] at *; exact .inr (Int.not_le.1 h4))))⟩
    ·first | omega | (simp only; omega) | (dsimp only; omega)
 ·try rw [h1]
  try simp only [qa, qb, qc, qd, qe, List.length_map] at h1
  refine Zh (QJ (Qx (QD (Qd (Q6) (Qf fun K hK => Qa rfl ?_)))))
  refine hK _ _ (Qb (kp1 rfl) ?_)
  refine Qu (Qs rfl ?_)
  first
   | exact (QhF hI.2 (by omega)).symm
   | exact (Qcp (i := i) (by omega) (QgP (by omega) (.inl h2))).symm
   | (simp only [QdQ] at *; exact (Qcp (i := i) (by omega) (QgP (by omega) (.inr ⟨by omega, h4⟩))).symm)
theorem QaQ {l : List (Cu × Cu)} (hl : Sm l) {x y : Cu} (hx : Cu.sm x) (hy : Cu.sm y) : Ok Tryz.prog 106 [ZJ l, .agg (dCu x), .agg (dCu y)] (.bool (mIn l x y)) := by
 refine Ok.ofT ZY Tryz.func106 QqV (Nat.le_of_ble_eq_true rfl) ?_
 show TW _ _ tf106.body _ _
 have hn := hl.1
 refine Qf fun K hK => Zv rfl rfl rfl (Zv rfl rfl rfl (Qa rfl ?_))
 refine hK _ _ (Qb (kp3 rfl rfl rfl) ?_)
 refine QB ?_ -- 0
 refine Qf fun K hK => Qa rfl ?_
 refine hK _ _ (Qb (kp4 rfl rfl rfl rfl) ?_)
 refine Qz ?_
 refine Zj (ι := Nat) (fun i => ⟨[(0, ZJ l), (4, .ref 4 0 0), (5, .ref 5 0 0), (7, .int .i64 i)], [(4, ⟨[dCu x], 7, 105, true⟩), (5, ⟨[dCu y], 7, 105, true⟩)]⟩) (fun i => i <= l.length /\ (l.take i).any (inC x y) = false) (fun i => l.length - i) 0 ?_ ?_ ?_
 ·exact Q1 (l := [0, 4, 5, 7]) (lH := [4, 5]) (kp4 rfl rfl rfl rfl) (Qe rfl (Qe rfl Ql)) rfl rfl rfl
 ·exact ⟨Nat.zero_le _, by simp⟩
 intro i hI
 try dsimp only
 refine QB ?_ -- 1
 refine Qf fun K hK => Qa rfl (Qa rfl (QQ rfl rfl (Z6 rfl rfl ?_)))
 refine hK _ _ (Qb (kp5 rfl rfl rfl rfl rfl) ?_)
 refine Qw rfl (fun h1 => ?_) (fun h1 => ?_)
 ·try rw [h1]
  try simp only [qa, qb, qc, qd, qe, List.length_map] at h1
  refine Qv (Qd (kp4 rfl rfl rfl rfl) ?_)
  refine QB ?_ -- 2
  refine Qz (Qf fun K hK => Qa rfl (Qa rfl (QK rfl rfl rfl (by omega) (QV (by omega)) rfl (Q9 rfl rfl (QN (ds0 := [11, 10, 9, 8, 7, 6, 5, 4, 3, 2, 1, 0]) (cs := [_, _, _, _, _, _, _]) rfl rfl rfl rfl rfl rfl (QN (ds0 := [11, 10, 9, 8, 7, 6, 5, 4, 3, 2, 1, 0]) (cs := [_, _, _, _, _, _, _]) rfl rfl rfl rfl rfl rfl (QT (ds0 := [10, 9, 8, 7, 6, 5, 4, 3, 2, 1, 0]) (Zs (hl.at (i := i) (by omega)).1.1 (hl.at (i := i) (by omega)).1.2 hx.1 hx.2) rfl rfl (.inr rfl) rfl rfl (Qok rfl rfl (Qa rfl ?_)))))))))
  refine QE (g := 22) rfl (fun h2 => ?_) (fun h2 => ?_)
  ·try rw [h2]
   try simp only [qa, qb, qc, qd, qe, List.length_map] at h2
   refine Qk rfl (QN (ds0 := [2, 1, 0]) (cs := [_, _, _, _, _, _, _]) rfl rfl rfl rfl rfl rfl (Qk rfl (Qa rfl (Qk rfl (Qa rfl (Qk rfl (QK rfl rfl rfl (by omega) (QV (by omega)) rfl (Qk rfl (Q9 rfl rfl (Qk rfl (QN (ds0 := [2, 1, 0]) (cs := [_, _, _, _, _, _, _]) rfl rfl rfl rfl rfl rfl ?_)))))))))))
   refine Qk rfl (QT (ds0 := [1, 0]) (Zs hy.1 hy.2 (hl.at (i := i) (by omega)).2.1 (hl.at (i := i) (by omega)).2.2) rfl rfl (.inr rfl) rfl rfl (Qk rfl (Qok rfl rfl (Qo rfl rfl ?_))))
   refine hK _ _ (Qb (kp5 rfl rfl rfl rfl rfl) ?_)
   refine Qw rfl (fun h3 => ?_) (fun h3 => ?_)
   ·try rw [h3]
    try simp only [qa, qb, qc, qd, qe, List.length_map] at h3
    refine Qf fun K hK => Qa rfl ?_
    refine hK _ _ (Qb (kp1 rfl) ?_)
    refine Qu (Qr (Qj (Q4 (Qr (Qj (Qs rfl ?_))))))
    first
     | exact (QlF (i := i) (by omega) hI.2).symm
     | exact (Qjc (i := i) (by omega) (Qp2 h2 h3)).symm
   ·try rw [h3]
    try simp only [qa, qb, qc, qd, qe, List.length_map] at h3
    refine Qv (Qg (Qd (kp4 rfl rfl rfl rfl) (QL fun K hK => Qa rfl (Q2 rfl rfl (by first | exact Qq (by omega) (by omega) | rfl) (Qa rfl (hK _ ?_))))))
    refine Qi (i + 1) ?_ ?_ ?_
    ·exact Q1 (l := [0, 4, 5, 7]) (lH := [4, 5]) (kp4 rfl rfl rfl rfl) (Qe rfl (Qe rfl Ql)) rfl rfl rfl
    ·exact ⟨by omega, Qh0 (by omega) hI.2 (Qp1 (by first | exact .inl h2 | exact .inr h3))⟩
    ·first | omega | (simp only; omega) | (dsimp only; omega)
  ·try rw [h2]
   try simp only [qa, qb, qc, qd, qe, List.length_map] at h2
   refine Qt rfl (Qt rfl (Qt rfl (Qt rfl (Qt rfl (Qt rfl (Qt rfl (Qt rfl (Qo rfl rfl ?_))))))))
   refine hK _ _ (Qb (kp5 rfl rfl rfl rfl rfl) ?_)
   refine ZG rfl (Qv (Qg (Qd (kp4 rfl rfl rfl rfl) (QL fun K hK => Qa rfl (Q2 rfl rfl (by first | exact Qq (by omega) (by omega) | rfl) (Qa rfl (hK _ ?_)))))))
   refine Qi (i + 1) ?_ ?_ ?_
   ·exact Q1 (l := [0, 4, 5, 7]) (lH := [4, 5]) (kp4 rfl rfl rfl rfl) (Qe rfl (Qe rfl Ql)) rfl rfl rfl
   ·exact ⟨by omega, Qh0 (by omega) hI.2 (Qp1 (by first | exact .inl h2 | exact .inr h3))⟩
   ·first | omega | (simp only; omega) | (dsimp only; omega)
 ·try rw [h1]
  try simp only [qa, qb, qc, qd, qe, List.length_map] at h1
  refine Zh (QJ (Qx (QD (Qd (Q6) (Qf fun K hK => Qa rfl ?_)))))
  refine hK _ _ (Qb (kp1 rfl) ?_)
  refine Qu (Qs rfl ?_)
  first
   | exact (QlF (i := i) (by omega) hI.2).symm
   | exact (Qjc (i := i) (by omega) (Qp2 h2 h3)).symm
end Go.Proofs
namespace Go.Proofs
open Go Go.Abs M3 M25
set_option linter.unusedVariables false
set_option linter.unusedSimpArgs false
theorem Qar {l : List (Cu × Cu)} (hl : Sm l) {a b c : Int} {p q : List UInt8} (hp : p.length <= 1000000) (hq : q.length <= 1000000) : Ok Tryz.prog 108 [ZJ l, .agg [.int .i64 a, .int .i64 b, .int .i64 c, .str p, .str q]] (.bool (Qhw l a b c p q)) := by
 refine Ok.ofT ZY Tryz.func108 QqX (Nat.le_of_ble_eq_true rfl) ?_
 show TW _ _ tf108.body _ _
 have hn := hl.1
 refine Qf fun K hK => Zv rfl rfl rfl (Qa rfl ?_)
 refine hK _ _ (Qb (kp2 rfl rfl) ?_)
 refine QB ?_ -- 0
 refine Qf fun K hK => Qa rfl ?_
 refine hK _ _ (Qb (kp3 rfl rfl rfl) ?_)
 refine Qz ?_
 refine Zj (ι := Nat) (fun i => ⟨[(0, ZJ l), (3, .ref 3 0 0), (5, .int .i64 i)], [(3, ⟨[[.int .i64 a, .int .i64 b, .int .i64 c, .str p, .str q]], 5, 67, true⟩)]⟩) (fun i => i <= l.length /\ (l.take i).any (fun s => Qhx s a b c p q) = false) (fun i => l.length - i) 0 ?_ ?_ ?_
 ·exact Q1 (l := [0, 3, 5]) (lH := [3]) (kp3 rfl rfl rfl) (Qe rfl Ql) rfl rfl rfl
 ·exact ⟨Nat.zero_le _, by simp⟩
 intro i hI
 try dsimp only
 refine QB ?_ -- 1
 refine Qf fun K hK => Qa rfl (Qa rfl (QQ rfl rfl (Z6 rfl rfl (Qa rfl ?_))))
 refine QE (g := 10) rfl (fun h1 => ?_) (fun h1 => ?_)
 ·try rw [h1]
  try simp only [qa, qb, qc, qd, qe, List.length_map] at h1
  refine Qk rfl (Qa rfl (Qk rfl (QI (ZV hl) rfl rfl (.inr rfl) (Qo rfl rfl ?_))))
  refine hK _ _ (Qb (kp4 rfl rfl rfl rfl) ?_)
  refine Qw rfl (fun h2 => ?_) (fun h2 => ?_)
  ·try rw [h2]
   try simp only [qa, qb, qc, qd, qe, List.length_map] at h2
   refine Qv (Qd (kp3 rfl rfl rfl) ?_)
   refine QB ?_ -- 2
   refine Qz (Qf fun K hK => Qa rfl (Qa rfl (QK rfl rfl rfl (by omega) (QV (by omega)) rfl (QN (ds0 := [0]) (cs := [_, _, _, _, _, _, _, _, _, _, _, _, _, _]) rfl rfl rfl rfl rfl rfl (QN (ds0 := [0]) (cs := [_, _, _, _, _]) rfl rfl rfl rfl rfl rfl (QT (ds0 := []) (QcL (hl.at (i := i) (by omega)).1.1 (hl.at (i := i) (by omega)).1.2 (hl.at (i := i) (by omega)).2.1 (hl.at (i := i) (by omega)).2.2 hp hq) rfl rfl (.inr rfl) rfl rfl ?_))))))
   refine hK _ _ (Qb (kp4 rfl rfl rfl rfl) ?_)
   refine Qw rfl (fun h3 => ?_) (fun h3 => ?_)
   ·try rw [h3]
    try simp only [qa, qb, qc, qd, qe, List.length_map] at h3
    refine Qf fun K hK => Qa rfl ?_
    refine hK _ _ (Qb (kp1 rfl) ?_)
    refine Qu (Qr (Qj (Q4 (Qr (Qj (Qs rfl ?_))))))
    first
     | exact (Qhj (i := i) (by omega) hI.2).symm
     | exact (Qhk h2).symm
     | exact (Qhl h2 (i := i) (by omega) h3).symm
   ·try rw [h3]
    try simp only [qa, qb, qc, qd, qe, List.length_map] at h3
    refine Qv (Qg (Qd (kp3 rfl rfl rfl) (QL fun K hK => Qa rfl (Q2 rfl rfl (by first | exact Qq (by omega) (by omega) | rfl) (Qa rfl (hK _ ?_))))))
    refine Qi (i + 1) ?_ ?_ ?_
    ·exact Q1 (l := [0, 3, 5]) (lH := [3]) (kp3 rfl rfl rfl) (Qe rfl Ql) rfl rfl rfl
    ·exact ⟨by omega, Qh0 (by omega) hI.2 h3⟩
    ·first | omega | (simp only; omega) | (dsimp only; omega)
  ·try rw [h2]
   try simp only [qa, qb, qc, qd, qe, List.length_map] at h2
   refine Zh (QJ (Qx (QD (Qd (Q6) (Qf fun K hK => Qa rfl ?_)))))
   refine hK _ _ (Qb (kp1 rfl) ?_)
   refine Qu (Qs rfl ?_)
   first
    | exact (Qhj (i := i) (by omega) hI.2).symm
    | exact (Qhk h2).symm
    | exact (Qhl h2 (i := i) (by omega) h3).symm
 ·try rw [h1]
  try simp only [qa, qb, qc, qd, qe, List.length_map] at h1
  refine Qt rfl (Qt rfl (Qo rfl rfl ?_))
  refine hK _ _ (Qb (kp4 rfl rfl rfl rfl) ?_)
  refine ZG rfl (Zh (QJ (Qx (QD (Qd (Q6) (Qf fun K hK => Qa rfl ?_))))))
  refine hK _ _ (Qb (kp1 rfl) ?_)
  refine Qu (Qs rfl ?_)
  first
   | exact (Qhj (i := i) (by omega) hI.2).symm
   | exact (Qhk h2).symm
   | exact (Qhl h2 (i := i) (by omega) h3).symm
theorem YG {s : List (Cu × Cu) × List (Cu × Cu)} (h1s : Sm s.1) (h2s : Sm s.2) : Ok Tryz.prog 97 [Qg9 s] (.bool (QfU s)) := by
 refine Ok.ofT ZY Tryz.func97 Qsz (Nat.le_of_ble_eq_true rfl) ?_
 show TW _ _ tf97.body _ _
 have hn := h1s.1
 refine Qf fun K hK => Zv rfl rfl rfl (Qa rfl ?_)
 refine hK _ _ (Qb (kp1 rfl) ?_)
 refine QB ?_ -- 0
 refine Qf fun K hK => Qh rfl rfl (QA rfl rfl rfl (QI (ZV h1s) rfl rfl (.inr rfl) (Ym rfl (Qa rfl ?_))))
 refine QE (g := 8) rfl (fun h1 => ?_) (fun h1 => ?_)
 ·try rw [h1]
  try simp only [qa, qb, qc, qd, qe, List.length_map] at h1
  refine Qt rfl (Qt rfl (Qt rfl (Qt rfl (Qo rfl rfl ?_))))
  refine hK _ _ (Qb (kp2 rfl rfl) ?_)
  refine Zt rfl (Qf fun K hK => Qa rfl ?_)
  refine hK _ _ (Qb (kp1 rfl) ?_)
  refine Qu (Qj (Qs rfl ?_))
  first
   | exact (QdN (i := i) h1 h2 (by omega) hI.2).symm
   | exact (QaJ (i := i) (by omega) (.inl h4)).symm
   | exact (QaJ (i := i) (by omega) (.inr h5)).symm
   | exact (QaK (.inl h1)).symm
   | exact (QaK (.inr h2)).symm
 ·try rw [h1]
  try simp only [qa, qb, qc, qd, qe, List.length_map] at h1
  refine Qk rfl (Qh rfl rfl (Qk rfl (QA rfl rfl rfl (Qk rfl (QI (ZV h2s) rfl rfl (.inr rfl) (Qk rfl (Ym rfl (Qo rfl rfl ?_))))))))
  refine hK _ _ (Qb (kp2 rfl rfl) ?_)
  refine Qw rfl (fun h2 => ?_) (fun h2 => ?_)
  ·try rw [h2]
   try simp only [qa, qb, qc, qd, qe, List.length_map] at h2
   refine Qf fun K hK => Qa rfl ?_
   refine hK _ _ (Qb (kp1 rfl) ?_)
   refine Qu (Qj (Qs rfl ?_))
   first
    | exact (QdN (i := i) h1 h2 (by omega) hI.2).symm
    | exact (QaJ (i := i) (by omega) (.inl h4)).symm
    | exact (QaJ (i := i) (by omega) (.inr h5)).symm
    | exact (QaK (.inl h1)).symm
    | exact (QaK (.inr h2)).symm
  ·try rw [h2]
   try simp only [qa, qb, qc, qd, qe, List.length_map] at h2
   refine Qv (Qd (kp1 rfl) ?_)
   refine QB ?_ -- 1
   refine Qf fun K hK => Qa rfl ?_
   refine hK _ _ (Qb (kp2 rfl rfl) ?_)
   refine Qz ?_
   refine Zj (ι := Nat) (fun i => ⟨[(1, .ref 1 0 0), (3, .int .i64 i)], [(1, ⟨[[ZJ s.1, ZJ s.2]], 2, 74, true⟩)]⟩) (fun i => i <= s.1.length /\ (s.1.take i).all (fun x => Qby x.1 && Qby x.2) = true) (fun i => s.1.length - i) 0 ?_ ?_ ?_
   ·exact Q1 (l := [1, 3]) (lH := [1]) (kp2 rfl rfl) (Qe rfl Ql) rfl rfl rfl
   ·exact ⟨Nat.zero_le _, by simp⟩
   intro i hI
   try dsimp only
   refine QB ?_ -- 2
   refine Qf fun K hK => Qa rfl (Qh rfl rfl (QA rfl rfl rfl (QQ rfl rfl (Z6 rfl rfl ?_))))
   refine hK _ _ (Qb (kp3 rfl rfl rfl) ?_)
   refine Qw rfl (fun h3 => ?_) (fun h3 => ?_)
   ·try rw [h3]
    try simp only [qa, qb, qc, qd, qe, List.length_map] at h3
    refine Qv (Qd (kp2 rfl rfl) ?_)
    refine QB ?_ -- 3
    refine Qz (Qf fun K hK => Qh rfl rfl (QA rfl rfl rfl (Qa rfl (QK rfl rfl rfl (by omega) (QV (by omega)) rfl (Q9 rfl rfl (QH (cs := [_, _, _, _, _, _, _]) rfl rfl rfl rfl (QI (XT) rfl rfl (.inr rfl) (Ym rfl (Qa rfl ?_)))))))))
    refine QE (g := 29) rfl (fun h4 => ?_) (fun h4 => ?_)
    ·try rw [h4]
     try simp only [qa, qb, qc, qd, qe, List.length_map] at h4
     refine Qt rfl (Qt rfl (Qt rfl (Qt rfl (Qt rfl (Qt rfl (Qt rfl (Qt rfl (Qo rfl rfl ?_))))))))
     refine hK _ _ (Qb (kp3 rfl rfl rfl) ?_)
     refine Zt rfl (Qf fun K hK => Qa rfl ?_)
     refine hK _ _ (Qb (kp1 rfl) ?_)
     refine Qu (Qr (Qj (Q4 (Qr (Qj (Qs rfl ?_))))))
     first
      | exact (QdN (i := i) h1 h2 (by omega) hI.2).symm
      | exact (QaJ (i := i) (by omega) (.inl h4)).symm
      | exact (QaJ (i := i) (by omega) (.inr h5)).symm
      | exact (QaK (.inl h1)).symm
      | exact (QaK (.inr h2)).symm
    ·try rw [h4]
     try simp only [qa, qb, qc, qd, qe, List.length_map] at h4
     refine Qk rfl (Qh rfl rfl (Qk rfl (QA rfl rfl rfl (Qk rfl (Qa rfl (Qk rfl (QK rfl rfl rfl (by omega) (QV (by omega)) rfl (Qk rfl (Q9 rfl rfl (Qk rfl (QH (cs := [_, _, _, _, _, _, _]) rfl rfl rfl rfl ?_)))))))))))
     refine Qk rfl (QI (XT) rfl rfl (.inr rfl) (Qk rfl (Ym rfl (Qo rfl rfl ?_))))
     refine hK _ _ (Qb (kp3 rfl rfl rfl) ?_)
     refine Qw rfl (fun h5 => ?_) (fun h5 => ?_)
     ·try rw [h5]
      try simp only [qa, qb, qc, qd, qe, List.length_map] at h5
      refine Qf fun K hK => Qa rfl ?_
      refine hK _ _ (Qb (kp1 rfl) ?_)
      refine Qu (Qr (Qj (Q4 (Qr (Qj (Qs rfl ?_))))))
      first
       | exact (QdN (i := i) h1 h2 (by omega) hI.2).symm
       | exact (QaJ (i := i) (by omega) (.inl h4)).symm
       | exact (QaJ (i := i) (by omega) (.inr h5)).symm
       | exact (QaK (.inl h1)).symm
       | exact (QaK (.inr h2)).symm
     ·try rw [h5]
      try simp only [qa, qb, qc, qd, qe, List.length_map] at h5
      refine Qv (Qg (Qd (kp2 rfl rfl) (QL fun K hK => Qa rfl (Q2 rfl rfl (by first | exact Qq (by omega) (by omega) | rfl) (Qa rfl (hK _ ?_))))))
      refine Qi (i + 1) ?_ ?_ ?_
      ·exact Q1 (l := [1, 3]) (lH := [1]) (kp2 rfl rfl) (Qe rfl Ql) rfl rfl rfl
      ·exact ⟨by omega, Ya (by omega) hI.2 (by rw [show Qby s.1[i].1 = true from h4, show Qby s.1[i].2 = true from h5]; rfl)⟩
      ·first | omega | (simp only; omega) | (dsimp only; omega)
   ·try rw [h3]
    try simp only [qa, qb, qc, qd, qe, List.length_map] at h3
    refine Zh (QJ (Qx (QD (Qd (Q6) (Qf fun K hK => Qa rfl ?_)))))
    refine hK _ _ (Qb (kp1 rfl) ?_)
    refine Qu (Qs rfl ?_)
    first
     | exact (QdN (i := i) h1 h2 (by omega) hI.2).symm
     | exact (QaJ (i := i) (by omega) (.inl h4)).symm
     | exact (QaJ (i := i) (by omega) (.inr h5)).symm
     | exact (QaK (.inl h1)).symm
     | exact (QaK (.inr h2)).symm
theorem Qdn {s : List (Cu × Cu) × List (Cu × Cu)} (h1s : Sm s.1) (h2s : Sm s.2) {a b c : Int} {p q : List UInt8} (hp : p.length <= 1000000) (hq : q.length <= 1000000) : Ok Tryz.prog 100 [Qg9 s, .agg [.int .i64 a, .int .i64 b, .int .i64 c, .str p, .str q]] (.bool (Qli s a b c p q)) := by
 refine Ok.ofT ZY Tryz.func100 QqP (Nat.le_of_ble_eq_true rfl) ?_
 show TW _ _ tf100.body _ _
 refine Qf fun K hK => Zv rfl rfl rfl (Zv rfl rfl rfl (Qa rfl ?_))
 refine hK _ _ (Qb (kp2 rfl rfl) ?_)
 refine QB ?_ -- 0
 refine Qf fun K hK => QH (cs := [_, _]) rfl rfl rfl rfl (QI (YG h1s h2s) rfl rfl (.inr rfl) (Ym rfl (Qa rfl ?_)))
 refine QE (g := 8) rfl (fun h1 => ?_) (fun h1 => ?_)
 ·try rw [h1]
  try simp only [qa, qb, qc, qd, qe] at h1
  refine Qt rfl (Qt rfl (Qt rfl (Qo rfl rfl ?_)))
  refine hK _ _ (Qb (kp3 rfl rfl rfl) ?_)
  refine Zt rfl (Qf fun K hK => Qa rfl ?_)
  refine hK _ _ (Qb (kp1 rfl) ?_)
  refine Qu (Qj (Qs rfl ?_))
  simp_all [Qli]
 ·try rw [h1]
  try simp only [qa, qb, qc, qd, qe] at h1
  refine Qk rfl (QH (cs := [_, _, _, _, _]) rfl rfl rfl rfl (Qk rfl (QI (Zf hp hq) rfl rfl (.inr rfl) (Qk rfl (Ym rfl (Qo rfl rfl ?_))))))
  refine hK _ _ (Qb (kp3 rfl rfl rfl) ?_)
  refine Qw rfl (fun h2 => ?_) (fun h2 => ?_)
  ·try rw [h2]
   try simp only [qa, qb, qc, qd, qe] at h2
   refine Qf fun K hK => Qa rfl ?_
   refine hK _ _ (Qb (kp1 rfl) ?_)
   refine Qu (Qj (Qs rfl ?_))
   simp_all [Qli]
  ·try rw [h2]
   try simp only [qa, qb, qc, qd, qe] at h2
   refine Qv (Qd (kp2 rfl rfl) ?_)
   refine QB ?_ -- 1
   refine Qf fun K hK => Qh rfl rfl (QA rfl rfl rfl (Qg1 rfl rfl ?_))
   refine hK _ _ (Qb (kp3 rfl rfl rfl) ?_)
   refine Qw rfl (fun h3 => ?_) (fun h3 => ?_)
   ·try rw [h3]
    try simp only [qa, qb, qc, qd, qe] at h3
    refine Qf fun K hK => Qh rfl rfl (QA rfl rfl rfl (QH (cs := [_, _, _, _, _]) rfl rfl rfl rfl (QI (Qar h1s hp hq) rfl rfl (.inr rfl) (Qa rfl ?_))))
    refine hK _ _ (Qb (kp1 rfl) ?_)
    refine Qu (Qj (Qs rfl ?_))
    simp_all [Qli]
   ·try rw [h3]
    try simp only [qa, qb, qc, qd, qe] at h3
    refine Qv (Qd (kp2 rfl rfl) (Qf fun K hK => Qh rfl rfl (QA rfl rfl rfl (QH (cs := [_, _, _, _, _]) rfl rfl rfl rfl (QI (Qar h2s hp hq) rfl rfl (.inr rfl) (Qa rfl ?_))))))
    refine hK _ _ (Qb (kp1 rfl) ?_)
    refine Qu (Qs rfl ?_)
    simp_all [Qli]
end Go.Proofs
namespace Go.Proofs
open Go Go.Abs M3 M25
set_option linter.unusedVariables false
set_option linter.unusedSimpArgs false
theorem Qat {l : List Cu} {c : Cu} (hl : l.length <= 3000000) (hs : ∀ x ∈ l, Cu.sm x) (hc : Cu.sm c) : Ok Tryz.prog 111 [Qg8 l, .agg (dCu c)] (Qg8 (Qb3 l c)) := by
 refine Ok.ofT ZY Tryz.func111 Qq0 (Nat.le_of_ble_eq_true rfl) ?_
 show TW _ _ tf111.body _ _
 refine Qf fun K hK => Zv rfl rfl rfl (Qa rfl ?_)
 refine hK _ _ (Qb (kp2 rfl rfl) ?_)
 refine Qf fun K hK => Qa rfl ?_
 refine hK _ _ (Qb (kp3 rfl rfl rfl) ?_)
 refine QB ?_ -- 0
 refine Qz ?_
 refine Zj (ι := Nat) (fun k => ⟨[(0, Qg8 l), (3, .ref 3 0 0), (5, .int .i64 k)], [(3, ⟨[dCu c], 7, 105, true⟩)]⟩) (fun k => k <= l.length /\ Qb3 l c = l.take k ++ Qb3 (l.drop k) c) (fun k => l.length - k) 0 ?_ ?_ ?_
 ·exact Q1 (l := [0, 3, 5]) (lH := [3]) (kp3 rfl rfl rfl) (Qe rfl Ql) rfl rfl rfl
 ·exact ⟨Nat.zero_le _, by simp⟩
 intro k hI
 try dsimp only
 refine QB ?_ -- 1
 refine Qf fun K hK => Qa rfl (Qa rfl (QQ rfl rfl (Z6 rfl rfl (Qa rfl ?_))))
 refine QE (g := 10) rfl (fun h1 => ?_) (fun h1 => ?_)
 ·try rw [h1]
  try simp only [qa, qb, qc, qd, qe, List.length_map] at h1
  refine Qk rfl (Qa rfl (Qk rfl (Qa rfl (Qk rfl (QK rfl rfl rfl (by omega) (QV (by omega)) rfl (Qk rfl (QN (ds0 := [2, 1, 0]) (cs := [_, _, _, _, _, _, _]) rfl rfl rfl rfl rfl rfl (Qk rfl (QN (ds0 := [2, 1, 0]) (cs := [_, _, _, _, _, _, _]) rfl rfl rfl rfl rfl rfl (Qk rfl (QT (ds0 := [1, 0]) (Zs (hs _ (List.getElem_mem (by omega))).1 (hs _ (List.getElem_mem (by omega))).2 hc.1 hc.2) rfl rfl (.inr rfl) rfl rfl ?_)))))))))))
  refine Qk rfl (Z6 rfl rfl (Qo rfl rfl ?_))
  refine hK _ _ (Qb (kp4 rfl rfl rfl rfl) ?_)
  refine Qw rfl (fun h2 => ?_) (fun h2 => ?_)
  ·try rw [h2]
   try simp only [qa, qb, qc, qd, qe, List.length_map] at h2
   refine Qv (Qd (kp3 rfl rfl rfl) (Qz (QL fun K hK => Qa rfl (Q2 rfl rfl (by first | exact Qq (by omega) (by omega) | rfl) (Qa rfl (hK _ ?_))))))
   refine Qg ?_
   refine Qi (k + 1) ?_ ?_ ?_
   ·exact Q1 (l := [0, 3, 5]) (lH := [3]) (kp3 rfl rfl rfl) (Qe rfl Ql) rfl rfl rfl
   ·exact ⟨by omega, Qmr (by omega) h2 hI.2⟩
   ·first | omega | (simp only; omega) | (dsimp only; omega)
  ·try rw [h2]
   try simp only [qa, qb, qc, qd, qe, List.length_map] at h2
   refine Zh (QJ (Qx (QD (Qd (kp3 rfl rfl rfl) ?_))))
   refine QB ?_ -- 2
   refine Qf fun K hK => Qa rfl (Qa rfl (QQ rfl rfl (Z6 rfl rfl (Qa rfl ?_))))
   refine QE (g := 25) rfl (fun h3 => ?_) (fun h3 => ?_)
   ·try rw [h3]
    try simp only [qa, qb, qc, qd, qe, List.length_map] at h3
    refine Qk rfl (Qa rfl (Qk rfl (Qa rfl (Qk rfl (QK rfl rfl rfl (by omega) (QV (by omega)) rfl (Qk rfl (QN (ds0 := [2, 1, 0]) (cs := [_, _, _, _, _, _, _]) rfl rfl rfl rfl rfl rfl (Qk rfl (QN (ds0 := [2, 1, 0]) (cs := [_, _, _, _, _, _, _]) rfl rfl rfl rfl rfl rfl (Qk rfl (QT (ds0 := [1, 0]) (Zs (hs _ (List.getElem_mem (by omega))).1 (hs _ (List.getElem_mem (by omega))).2 hc.1 hc.2) rfl rfl (.inr rfl) rfl rfl ?_)))))))))))
    refine Qk rfl (ZO rfl rfl (Qo rfl rfl ?_))
    refine hK _ _ (Qb (kp4 rfl rfl rfl rfl) ?_)
    refine Qw rfl (fun h4 => ?_) (fun h4 => ?_)
    ·try rw [h4]
     try simp only [qa, qb, qc, qd, qe, List.length_map] at h4
     refine Qf fun K hK => Qa rfl (Qa rfl ?_)
     refine hK _ _ (Qb (kp1 rfl) ?_)
     refine Qu (Qj (Yg rfl ?_))
     rw [Qmq (k := k) (by omega) (by assumption) hI.2]; rfl
    ·try rw [h4]
     try simp only [qa, qb, qc, qd, qe, List.length_map] at h4
     refine Qv (Qd (kp3 rfl rfl rfl) (Qf fun K hK => Qa rfl (Qa rfl (Qea rfl rfl rfl rfl (by omega) (by omega) (by simp; omega) QiQ rfl (Qd9 (ds0 := [5, 1, 0]) rfl rfl (fun _ h => ⟨Qn5, h⟩) rfl (.inl rfl) (by simp) (by simp; omega) (by simp; omega) rfl rfl (QN (ds0 := [6, 5, 1, 0]) (cs := [_, _, _, _, _, _, _]) rfl rfl rfl rfl rfl rfl (QC rfl rfl (Qa0 (ds0 := [1, 0]) rfl rfl (by simp [D.ids, D.sid]) ⟨_, rfl, rfl, rfl, rfl, rfl⟩ rfl rfl (by simp) rfl rfl (by simp; omega) (by simp; omega) rfl rfl (Qa rfl (Qa rfl ?_))))))))))
     refine Qea rfl rfl rfl rfl (by omega) (by simp; omega) (by simp) QiQ rfl (Qa0 (ds0 := [0]) rfl rfl (by simp [D.ids, D.sid]) ⟨rfl, Qn5, rfl⟩ rfl rfl (by simp) rfl rfl (by simp; omega) (by simp; omega) rfl rfl (Qa rfl ?_))
     refine hK _ _ (Qb (kp1 rfl) ?_)
     refine Qu (Yg rfl ?_)
     rw [Qkt (k := k) (by first | exact .inl (by omega) | exact .inr ⟨by omega, by assumption, by assumption⟩) hI.2]; simp [QbI, D.fz, D.fzS, QcT, lk, D.can, D.canS, Qg8, D.sid, (show ∀ a b : Nat, a + 1 + b = a + (b + 1) from fun a b => by omega), List.take_of_length_le (show (l.map dCu).length <= l.length by simp)] <;> rfl
   ·try rw [h3]
    try simp only [qa, qb, qc, qd, qe, List.length_map] at h3
    exact absurd h1 h3
 ·try rw [h1]
  try simp only [qa, qb, qc, qd, qe, List.length_map] at h1
  refine Qt rfl (Qt rfl (Qt rfl (Qt rfl (Qt rfl (Qt rfl (Qt rfl (Qo rfl rfl ?_)))))))
  refine hK _ _ (Qb (kp4 rfl rfl rfl rfl) ?_)
  refine ZG rfl (Zh (QJ (Qx (QD (Qd (kp3 rfl rfl rfl) ?_)))))
  refine QB ?_ -- 2
  refine Qf fun K hK => Qa rfl (Qa rfl (QQ rfl rfl (Z6 rfl rfl (Qa rfl ?_))))
  refine QE (g := 25) rfl (fun h5 => ?_) (fun h5 => ?_)
  ·try rw [h5]
   try simp only [qa, qb, qc, qd, qe, List.length_map] at h5
   exact absurd h5 h1
  ·try rw [h5]
   try simp only [qa, qb, qc, qd, qe, List.length_map] at h5
   refine Qt rfl (Qt rfl (Qt rfl (Qt rfl (Qt rfl (Qt rfl (Qt rfl (Qo rfl rfl ?_)))))))
   refine hK _ _ (Qb (kp4 rfl rfl rfl rfl) ?_)
   refine ZG rfl (Qv (Qd (kp3 rfl rfl rfl) (Qf fun K hK => Qa rfl (Qa rfl (Qea rfl rfl rfl rfl (by omega) (by omega) (by simp; omega) QiQ rfl (Qd9 (ds0 := [5, 1, 0]) rfl rfl (fun _ h => ⟨Qn5, h⟩) rfl (.inl rfl) (by simp) (by simp; omega) (by simp; omega) rfl rfl (QN (ds0 := [6, 5, 1, 0]) (cs := [_, _, _, _, _, _, _]) rfl rfl rfl rfl rfl rfl (QC rfl rfl (Qa0 (ds0 := [1, 0]) rfl rfl (by simp [D.ids, D.sid]) ⟨_, rfl, rfl, rfl, rfl, rfl⟩ rfl rfl (by simp) rfl rfl (by simp; omega) (by simp; omega) rfl rfl (Qa rfl ?_))))))))))
   refine Qa rfl (Qea rfl rfl rfl rfl (by omega) (by simp; omega) (by simp) QiQ rfl (Qa0 (ds0 := [0]) rfl rfl (by simp [D.ids, D.sid]) ⟨rfl, Qn5, rfl⟩ rfl rfl (by simp) rfl rfl (by simp; omega) (by simp; omega) rfl rfl (Qa rfl ?_)))
   refine hK _ _ (Qb (kp1 rfl) ?_)
   refine Qu (Yg rfl ?_)
   rw [Qkt (k := k) (by first | exact .inl (by omega) | exact .inr ⟨by omega, by assumption, by assumption⟩) hI.2]; simp [QbI, D.fz, D.fzS, QcT, lk, D.can, D.canS, Qg8, D.sid, (show ∀ a b : Nat, a + 1 + b = a + (b + 1) from fun a b => by omega), List.take_of_length_le (show (l.map dCu).length <= l.length by simp)] <;> rfl
theorem Qad {l : List (Cu × Cu)} (hl : Sm l) : Ok Tryz.prog 105 [ZJ l] (Qg8 (YR l)) := by
 refine Ok.ofT ZY Tryz.func105 QqU (Nat.le_of_ble_eq_true rfl) ?_
 show TW _ _ tf105.body _ _
 have hn := hl.1
 refine Qf fun K hK => Qa rfl ?_
 refine hK _ _ (Qb (kp1 rfl) ?_)
 refine Qf fun K hK => QI (YV) rfl rfl (.inl rfl) (QI (Y5) rfl rfl (.inl rfl) (QC rfl rfl (Qa rfl ?_)))
 refine hK _ _ (Qb (kp2 rfl rfl) ?_)
 refine QB ?_ -- 0
 refine Qf fun K hK => Qa rfl ?_
 refine hK _ _ (Qb (kp3 rfl rfl rfl) ?_)
 refine Qz ?_
 refine Zj (ι := Nat) (fun i => ⟨[(0, ZJ l), (3, Qg8 (YR (l.take i))), (4, .int .i64 i)], []⟩) (fun i => i <= l.length) (fun i => l.length - i) 0 ?_ ?_ ?_
 ·exact le_trans (Qit 7 _ (by decide)) (Q1 (l := [0, 3, 4]) (lH := []) (kp3 rfl rfl rfl) Ql rfl rfl rfl)
 ·exact Nat.zero_le _
 intro i hI
 try dsimp only
 refine QB ?_ -- 1
 refine Qf fun K hK => Qa rfl (Qa rfl (QQ rfl rfl (Z6 rfl rfl ?_)))
 refine hK _ _ (Qb (kp4 rfl rfl rfl rfl) ?_)
 refine Qw rfl (fun h1 => ?_) (fun h1 => ?_)
 ·try rw [h1]
  try simp only [qa, qb, qc, qd, qe, List.length_map] at h1
  refine Qv (Qd (kp3 rfl rfl rfl) ?_)
  refine QB ?_ -- 2
  refine Qz (QL fun K hK => Qa rfl (Qa rfl (Qa rfl (QK rfl rfl rfl (by omega) (QV (by omega)) rfl (Q9 rfl rfl (QN (ds0 := [7, 1, 0]) (cs := [_, _, _, _, _, _, _]) rfl rfl rfl rfl rfl rfl (QT (ds0 := [1, 0]) (Qat (Nat.le_trans (Qfa hl i).1 (by omega)) (Qfa hl i).2 (hl.2 _ (List.getElem_mem (by omega))).1) rfl rfl (.inl rfl) rfl rfl (Qa rfl (Qa rfl (QK rfl rfl rfl (by omega) (QV (by omega)) rfl ?_))))))))))
  refine Q9 rfl rfl (QN (ds0 := [1, 0]) (cs := [_, _, _, _, _, _, _]) rfl rfl rfl rfl rfl rfl (QT (ds0 := [0]) (Qat (Nat.le_trans (Qfb _ _) (by have := (Qfa hl i).1; omega)) (Qhz (Qfa hl i).2 (hl.2 _ (List.getElem_mem (by omega))).1) (hl.2 _ (List.getElem_mem (by omega))).2) rfl rfl (.inl rfl) rfl rfl (Qa rfl (hK _ ?_))))
  refine Qg (Qd (kp3 rfl rfl rfl) (QL fun K hK => Qa rfl (Q2 rfl rfl (by first | exact Qq (by omega) (by omega) | rfl) (Qa rfl (hK _ ?_)))))
  refine Qi (i + 1) ?_ ?_ ?_
  ·exact Q1 (l := [0, 3, 4]) (lH := []) (kp3 rfl rfl rfl) Ql (by rw [QnR (by omega)]; rfl) rfl rfl
  ·omega
  ·first | omega | (simp only; omega) | (dsimp only; omega)
 ·try rw [h1]
  try simp only [qa, qb, qc, qd, qe, List.length_map] at h1
  refine Zh (QJ (Qx (QD (Qd (kp1 rfl) (Qf fun K hK => Qa rfl (Qa rfl ?_))))))
  refine hK _ _ (Qb (kp1 rfl) ?_)
  refine Qu (Yg rfl ?_)
  rw [List.take_of_length_le (show l.length <= i by omega)]; rfl
end Go.Proofs
namespace Go.Proofs
open Go Go.Abs M3 M25
set_option linter.unusedVariables false
set_option linter.unusedSimpArgs false
theorem Qae {l : List (Cu × Cu)} {x y : Cu} (hn : l.length <= 3000000) (hl : ∀ s ∈ l, Cu.sm s.1 /\ Cu.sm s.2) (hx : Cu.sm x) (hy : Cu.sm y) : OkH Tryz.prog 107 [.osl 500000 l.length, .agg (dCu x), .agg (dCu y)] [(500000, ⟨l.map QeU, 14, 108, true⟩)] (.osl 500000 (Qb1 l x y).length) [(500000, ⟨(Qb1 l x y).map QeU, 14, 108, true⟩)] := by
 refine OkH.mv ZY Tryz.func107 QqW (Nat.le_of_ble_eq_true rfl) rfl ?_
 show TW _ _ tf107.body _ _
 refine Qf fun K hK => Zv rfl rfl rfl (Zv rfl rfl rfl (Qa rfl ?_))
 refine hK _ _ (Qb (kp3 rfl rfl rfl) ?_)
 refine QB ?_ -- 0
 refine Qf fun K hK => Qa rfl (QQ rfl rfl (QaD rfl rfl (by first | exact Qq (by omega) (by omega) | rfl) (Qa rfl ?_)))
 refine hK _ _ (Qb (kp4 rfl rfl rfl rfl) ?_)
 refine Qf fun K hK => Qa rfl (QeS rfl rfl (Qa rfl ?_))
 refine QE (g := 13) rfl (fun h1 => ?_) (fun h1 => ?_)
 ·try rw [h1]
  try simp only [qa, qb, qc, qd, qe, List.length_map] at h1
  refine Qk rfl (Qa rfl (Qk rfl (Qa rfl (Qk rfl (XG (ds0 := [5, 4, 2, 1, 0]) rfl rfl rfl (by simp) (by omega) (by omega) rfl rfl rfl (Qk rfl (Qh rfl rfl (Qk rfl (QN (ds0 := [2, 1, 0]) (cs := [_, _, _, _, _, _, _]) rfl (Z7 rfl (ZE (by omega) (by omega))) rfl rfl rfl rfl (Qk rfl (QN (ds0 := [2, 1, 0]) (cs := [_, _, _, _, _, _, _]) rfl rfl rfl rfl rfl rfl ?_)))))))))))
  refine Qk rfl (QT (ds0 := [1, 0]) (Zs (hl _ (List.getElem_mem (by omega))).2.1 (hl _ (List.getElem_mem (by omega))).2.2 hx.1 hx.2) rfl rfl (.inr rfl) rfl rfl (Qk rfl (ZO rfl rfl (Qo rfl rfl ?_))))
  refine hK _ _ (Qb (kp5 rfl rfl rfl rfl rfl) ?_)
  refine Qw rfl (fun h2 => ?_) (fun h2 => ?_)
  ·try rw [h2]
   try simp only [qa, qb, qc, qd, qe, List.length_map] at h2
   refine Qf fun K hK => Qa rfl (Qa rfl (QH (cs := [_, _, _, _, _, _, _]) rfl rfl rfl rfl (Xf rfl rfl rfl (by simp) (by omega) (by omega) rfl (Qh rfl rfl (Q7 rfl rfl (ZE (by omega) (by omega)) rfl rfl rfl rfl rfl ?_)))))
   refine hK _ _ (Qb (kp1 rfl) ?_)
   refine Qf fun K hK => Qa rfl (Qa rfl ?_)
   refine hK _ _ (Qb (kp1 rfl) ?_)
   refine Qu (Qj ?_)
   refine YA rfl ?_ (Qcc ?_)
   ·rw [Qiy (i := ((l.length : Int) - 1).toNat) (by omega) h2]; simp [Qlu, D.fz, D.fzS, Qf9, D.can, D.canS]
   ·rw [Qiy (i := ((l.length : Int) - 1).toNat) (by omega) h2]; simp [lk, List.map_set, QeU, dCu, setRow, D.sid]
  ·try rw [h2]
   try simp only [qa, qb, qc, qd, qe, List.length_map] at h2
   refine Qv (Qd (kp3 rfl rfl rfl) (Qf fun K hK => Qa rfl (QH (cs := [_, _, _, _, _, _, _]) rfl rfl rfl rfl (QH (cs := [_, _, _, _, _, _, _]) rfl rfl rfl rfl (QX rfl rfl (QC rfl rfl (Xe rfl rfl (fun _ h => YY rfl rfl rfl h) rfl (by simp) rfl rfl rfl (by simp; omega) (by simp; omega) (Qa rfl ?_))))))))
   refine hK _ _ (Qb (kp1 rfl) ?_)
   refine Qu ?_
   refine YA rfl ?_ (Qcc ?_)
   ·rw [QdH (.inr ⟨((l.length : Int) - 1).toNat, by omega, h2⟩)]; simp [Qlu, D.fz, D.fzS, Qf9, D.can, D.canS]
   ·rw [QdH (.inr ⟨((l.length : Int) - 1).toNat, by omega, h2⟩)]; simp [lk, QeU, dCu, D.sid]
 ·try rw [h1]
  try simp only [qa, qb, qc, qd, qe, List.length_map] at h1
  refine Qt rfl (Qt rfl (Qt rfl (Qt rfl (Qt rfl (Qt rfl (Qt rfl (Qt rfl (Qo rfl rfl ?_))))))))
  refine hK _ _ (Qb (kp5 rfl rfl rfl rfl rfl) ?_)
  refine ZG rfl (Qv (Qd (kp3 rfl rfl rfl) (Qf fun K hK => Qa rfl (QH (cs := [_, _, _, _, _, _, _]) rfl rfl rfl rfl (QH (cs := [_, _, _, _, _, _, _]) rfl rfl rfl rfl (QX rfl rfl (QC rfl rfl (Xe rfl rfl (fun _ h => YY rfl rfl rfl h) rfl (by simp) rfl rfl rfl (by simp; omega) (by simp; omega) (Qa rfl ?_)))))))))
  refine hK _ _ (Qb (kp1 rfl) ?_)
  refine Qu ?_
  have h0 : l = [] := List.eq_nil_of_length_eq_zero (by omega)
  refine YA rfl ?_ (Qcc ?_)
  ·rw [QdH (.inl h0)]; simp [Qlu, D.fz, D.fzS, Qf9, D.can, D.canS]
  ·rw [QdH (.inl h0)]; simp [lk, QeU, dCu, D.sid]
end Go.Proofs
namespace Go.Proofs
open Go Go.Abs M3 M25
set_option linter.unusedVariables false
set_option linter.unusedSimpArgs false
theorem Qc0 {l : List (Cu × Cu)} (hl : Sm l) : Ok Tryz.prog 104 [ZJ l] (.tup [ZJ (Qjx l), .bool (l.all QdK)]) := by
  refine Ok.ofT ZY Tryz.func104 QqT (Nat.le_of_ble_eq_true rfl) ?_
  show TW _ _ tf104.body _ _
  have hn := hl.1
  have hc1 := QbZ l
  refine Qf fun K hK => Qa rfl (Qa rfl ?_)
  refine hK _ _ (Qb (kp1 rfl) ?_)
  refine QB ?_ -- 0
  refine Qf fun K hK => Qa rfl ?_
  refine hK _ _ (Qb (kp2 rfl rfl) ?_)
  refine Qz ?_
  refine Zj (ι := Nat) (fun i => ⟨[(0, ZJ l), (4, .int .i64 i)], []⟩) (fun i => i <= l.length /\ (l.take i).all QdK = true) (fun i => l.length - i) 0 ?_ ?_ ?_
  · exact Zg (kp2 rfl rfl)
  · exact ⟨Nat.zero_le _, by simp⟩
  intro i hI
  try dsimp only
  refine QB ?_ -- 1
  refine Qf fun K hK => Qa rfl (Qa rfl (QQ rfl rfl (Z6 rfl rfl ?_)))
  refine hK _ _ (Qb (kp3 rfl rfl rfl) ?_)
  refine Qw rfl (fun h1 => ?_) (fun h1 => ?_)
  · try rw [h1]
    try simp only [qa, qb, qc, qd, qe, List.length_map] at h1
    refine Qv (Qd (kp2 rfl rfl) ?_)
    refine QB ?_ -- 2
    refine Qz (Qf fun K hK => Qa rfl (Qa rfl (QK rfl rfl rfl (by omega) (QV (by omega)) rfl (QH (cs := [_, _, _, _, _, _, _, _, _, _, _, _, _, _]) rfl rfl rfl rfl (QI (YF (hl.at (i := i) (by omega)).1.1 (hl.at (i := i) (by omega)).1.2 (hl.at (i := i) (by omega)).2.1 (hl.at (i := i) (by omega)).2.2) rfl rfl (.inr rfl) (Ym rfl ?_))))))
    refine hK _ _ (Qb (kp3 rfl rfl rfl) ?_)
    refine Qw rfl (fun h2 => ?_) (fun h2 => ?_)
    · try rw [h2]
      try simp only [qa, qb, qc, qd, qe, List.length_map] at h2
      refine Qf fun K hK => Qa rfl (Qa rfl ?_)
      refine hK _ _ (Qb (kp2 rfl rfl) ?_)
      refine Qu (Qr (Qj (Q4 (Qr (Qj ?_)))))
      first
        | exact QS rfl rfl ⟨by rw [Qjx, if_neg (by rw [XH (i := i) (by omega) (by assumption)]; simp)]; rfl, by rw [XH (i := i) (by omega) (by assumption)]; rfl⟩
        | (have ha : l.all QdK = true := Xx (by omega) hI.2
           exact QS rfl rfl ⟨by rw [Qjx, if_pos ha, hI2.done (by omega)]; simp [QbI, D.fz, D.fzS, QcT, lk, D.can, D.canS, ZJ], by rw [ha]; rfl⟩)
    · try rw [h2]
      try simp only [qa, qb, qc, qd, qe, List.length_map] at h2
      refine Qv (Qg (Qd (kp2 rfl rfl) (QL fun K hK => Qa rfl (Q2 rfl rfl (by first | exact Qq (by omega) (by omega) | rfl) (Qa rfl (hK _ ?_))))))
      refine Qi (i + 1) ?_ ?_ ?_
      · exact Zg (kp2 rfl rfl)
      · exact ⟨by omega, Ya (by omega) hI.2 (by assumption)⟩
      · first | omega | (simp only; omega) | (dsimp only; omega)
  · try rw [h1]
    try simp only [qa, qb, qc, qd, qe, List.length_map] at h1
    refine Zh (QJ (Qx (QD (Qd (kp1 rfl) (Qf fun K hK => Qa rfl ?_)))))
    refine hK _ _ (Qb (kp2 rfl rfl) ?_)
    refine Qf fun K hK => Qa rfl (QI (Qad hl) rfl rfl (.inl rfl) (Qa rfl ?_))
    refine hK _ _ (Qb (kp3 rfl rfl rfl) ?_)
    refine QB ?_ -- 3
    refine Qf fun K hK => Qa rfl ?_
    refine hK _ _ (Qb (kp4 rfl rfl rfl rfl) ?_)
    refine Qz ?_
    refine Zj (ι := Nat × List (Cu × Cu)) (fun ⟨i, out⟩ => ⟨[(0, ZJ l), (5, .osl 5 out.length), (6, Qg8 (YR l)), (7, .int .i64 i)], [(5, ⟨out.map QeU, 14, 108, true⟩)]⟩) (fun ⟨i, out⟩ => i <= (YR l).length /\ FillI (mIn l) (YR l) i out) (fun ⟨i, out⟩ => (YR l).length - i) (0, []) ?_ ?_ ?_
    · exact le_trans (Yf 5 5 14 108 rfl rfl) (Q1 (l := [0, 5, 6, 7]) (lH := [5]) (kp4 rfl rfl rfl rfl) (Qe rfl Ql) rfl rfl rfl)
    · exact ⟨Nat.zero_le _, FillI.zero⟩
    intro ⟨i, out⟩ hI
    obtain ⟨hI1, hI2⟩ := hI
    have hI3 := hI2.1
    try dsimp only
    refine QB ?_ -- 4
    refine Qf fun K hK => Qa rfl (Q2 rfl rfl (by first | exact Qq (by omega) (by omega) | rfl) (Qa rfl (QQ rfl rfl (Z6 rfl rfl ?_))))
    refine hK _ _ (Qb (kp5 rfl rfl rfl rfl rfl) ?_)
    refine Qw rfl (fun h3 => ?_) (fun h3 => ?_)
    · try rw [h3]
      try simp only [qa, qb, qc, qd, qe, List.length_map] at h3
      refine Qv (Qd (kp4 rfl rfl rfl rfl) ?_)
      refine QB ?_ -- 5
      refine Qz (Qf fun K hK => Qa rfl (Qa rfl (Qa rfl (QK rfl rfl rfl (by omega) (QV (by omega)) rfl (QN (ds0 := [0]) (cs := [_, _, _, _, _, _, _]) rfl rfl rfl rfl rfl rfl (Qa rfl (Qa rfl (Q2 rfl rfl (by first | exact Qq (by omega) (by omega) | rfl) (QK rfl rfl rfl (by omega) (Qkf (by omega)) rfl (QN (ds0 := [0]) (cs := [_, _, _, _, _, _, _]) rfl rfl rfl rfl rfl rfl ?_))))))))))
      refine QT (ds0 := []) (QaQ hl (Yz hl _ (List.getElem_mem (by omega))) (Yz hl _ (List.getElem_mem (by omega)))) rfl rfl (.inr rfl) rfl rfl ?_
      refine hK _ _ (Qb (kp5 rfl rfl rfl rfl rfl) ?_)
      refine Qw rfl (fun h4 => ?_) (fun h4 => ?_)
      · try rw [h4]
        try simp only [qa, qb, qc, qd, qe, List.length_map] at h4
        refine QL fun K hK => Qa rfl (Qa rfl (Qa rfl (QK rfl rfl rfl (by omega) (QV (by omega)) rfl (QN (ds0 := [1, 0]) (cs := [_, _, _, _, _, _, _]) rfl rfl rfl rfl rfl rfl (Qa rfl (Qa rfl (Q2 rfl rfl (by first | exact Qq (by omega) (by omega) | rfl) (QK rfl rfl rfl (by omega) (Qkf (by omega)) rfl (QN (ds0 := [1, 0]) (cs := [_, _, _, _, _, _, _]) rfl rfl rfl rfl rfl rfl (QjV (ds0 := [0]) (Qj3 (k := 5) rfl rfl rfl (by decide) rfl (by decide) (by simp [D.ids, D.sid, dCu]) ⟨.osl 5 out.length, by simp, by simp [D.ids, D.sid]⟩ rfl rfl (Qae (by omega) hI2.2.1 (Yz hl _ (List.getElem_mem (by omega))) (Yz hl _ (List.getElem_mem (by omega))))) (fun _ h => by cases h) rfl rfl ?_))))))))))
        refine Qa rfl (hK _ ?_)
        refine Qg (Qd (kp4 rfl rfl rfl rfl) (QL fun K hK => Qa rfl (Q2 rfl rfl (by first | exact Qq (by omega) (by omega) | rfl) (Qa rfl (hK _ ?_)))))
        refine Qi (i + 1, Qb1 out (YR l)[i] (YR l)[i + 1]) ?_ ?_ ?_
        · exact le_trans (Qmb (l := [0, 6, 7]) (t := 50) (u := 5) 5 (kp3 rfl rfl rfl) rfl rfl rfl rfl) (Q1 (l := [0, 5, 6, 7]) (lH := [5]) (kp4 rfl rfl rfl rfl) (Qe rfl Ql) rfl rfl rfl)
        · exact ⟨by omega, hI2.take (Yz hl) (by omega) (by assumption)⟩
        · show (YR l).length - (i + 1) < (YR l).length - i; omega
      · try rw [h4]
        try simp only [qa, qb, qc, qd, qe, List.length_map] at h4
        refine Qv (Qg (Qd (kp4 rfl rfl rfl rfl) (QL fun K hK => Qa rfl (Q2 rfl rfl (by first | exact Qq (by omega) (by omega) | rfl) (Qa rfl (hK _ ?_))))))
        refine Qi (i + 1, out) ?_ ?_ ?_
        · exact Q1 (l := [0, 5, 6, 7]) (lH := [5]) (kp4 rfl rfl rfl rfl) (Qe rfl Ql) rfl rfl rfl
        · exact ⟨by omega, hI2.skip (by omega) (by assumption)⟩
        · show (YR l).length - (i + 1) < (YR l).length - i; omega
    · try rw [h3]
      try simp only [qa, qb, qc, qd, qe, List.length_map] at h3
      refine Zh (QJ (Qx (QD (Qd (kp1 rfl) (Qf fun K hK => Qa rfl (Qa rfl (Qa rfl ?_)))))))
      refine hK _ _ (Qb (kp2 rfl rfl) ?_)
      refine Qu ?_
      first
        | exact QS rfl rfl ⟨by rw [Qjx, if_neg (by rw [XH (i := i) (by omega) (by assumption)]; simp)]; rfl, by rw [XH (i := i) (by omega) (by assumption)]; rfl⟩
        | (have ha : l.all QdK = true := Xx (by omega) hI.2
           exact QS rfl rfl ⟨by rw [Qjx, if_pos ha, hI2.done (by omega)]; simp [QbI, D.fz, D.fzS, QcT, lk, D.can, D.canS, ZJ], by rw [ha]; rfl⟩)
end Go.Proofs
namespace Go.Proofs
open Go Go.Abs M3 M25
set_option linter.unusedVariables false
set_option linter.unusedSimpArgs false
theorem QaP {a b : List (Cu × Cu)} (ha : Sm a) (hb : Sm b) (hab : a.length + b.length <= 1000000) : Ok Tryz.prog 98 [ZJ a, ZJ b] (ZJ (Qoz a b)) := by
 refine Ok.ofT ZY Tryz.func98 QsA (Nat.le_of_ble_eq_true rfl) ?_
 show TW _ _ tf98.body _ _
 refine Qf fun K hK => Qa rfl ?_
 refine hK _ _ (Qb (kp2 rfl rfl) ?_)
 refine QB ?_ -- 0
 refine Qf fun K hK => Qa rfl (QI (ZV ha) rfl rfl (.inr rfl) (Ym rfl (Qa rfl ?_)))
 refine QE (g := 10) rfl (fun h1 => ?_) (fun h1 => ?_)
 ·try rw [h1]
  try simp only [qa, qb, qc, qd, qe] at h1
  refine Qt rfl (Qt rfl (Qt rfl (Qo rfl rfl ?_)))
  refine hK _ _ (Qb (kp3 rfl rfl rfl) ?_)
  refine Zt rfl (Qf fun K hK => Qa rfl ?_)
  refine hK _ _ (Qb (kp1 rfl) ?_)
  refine Qu (Qj (Yg rfl ?_))
  rw [Qoz, if_neg (by simp [h1])]; rfl
 ·try rw [h1]
  try simp only [qa, qb, qc, qd, qe] at h1
  refine Qk rfl (Qa rfl (Qk rfl (QI (ZV hb) rfl rfl (.inr rfl) (Qk rfl (Ym rfl (Qo rfl rfl ?_))))))
  refine hK _ _ (Qb (kp3 rfl rfl rfl) ?_)
  refine Qw rfl (fun h2 => ?_) (fun h2 => ?_)
  ·try rw [h2]
   try simp only [qa, qb, qc, qd, qe] at h2
   refine Qf fun K hK => Qa rfl ?_
   refine hK _ _ (Qb (kp1 rfl) ?_)
   refine Qu (Qj (Yg rfl ?_))
   rw [Qoz, if_neg (by simp [h1, h2])]; rfl
  ·try rw [h2]
   try simp only [qa, qb, qc, qd, qe] at h2
   refine Qv (Qd (kp2 rfl rfl) (Qf fun K hK => Qa rfl (QlA rfl rfl (fun _ h => QkN QoE h) rfl (.inl rfl) (by simp) (by simp; omega) (by simp; omega) (Qa rfl (Xe rfl rfl (fun _ h => QkN QoE h) rfl (by simp) rfl rfl rfl (by simp; omega) (by simp; omega) ?_)))))
   apply QoQ [17] (by simp)
   ·simp [St.freezeL, St.freeze, rem, D.fz, D.fzS, Box.fz, lk, D.scrub]; exact ⟨rfl, rfl⟩
   ·exact Qc0 (ha.app hb hab)
   ·rfl
   ·simp [QbI, D.fz, D.fzS, QcT, D.can, D.canS, ZJ]
   ·exact .inl rfl
   refine Qa rfl (QR rfl rfl (QR rfl rfl (Qa rfl (Qa rfl ?_))))
   refine hK _ _ (Qb (kp1 rfl) ?_)
   refine Qf fun K hK => Qa rfl (Qa rfl ?_)
   refine hK _ _ (Qb (kp1 rfl) ?_)
   refine Qu (Yg rfl ?_)
   rw [Qoz, if_pos ⟨h1, h2⟩]; rfl
theorem Qas {a : List (Cu × Cu)} (ha : Sm a) : Ok Tryz.prog 99 [ZJ a] (ZJ (Qjy a)) := by
 refine Ok.ofT ZY Tryz.func99 QsB (Nat.le_of_ble_eq_true rfl) ?_
 show TW _ _ tf99.body _ _
 have hn := ha.1
 have hc1 := QbZ a
 refine Qf fun K hK => Qa rfl ?_
 refine hK _ _ (Qb (kp1 rfl) ?_)
 refine QB ?_ -- 0
 refine Qf fun K hK => Qa rfl (QI (ZV ha) rfl rfl (.inr rfl) (Ym rfl ?_))
 refine hK _ _ (Qb (kp2 rfl rfl) ?_)
 refine Qw rfl (fun h1 => ?_) (fun h1 => ?_)
 ·try rw [h1]
  try simp only [qa, qb, qc, qd, qe, List.length_map] at h1
  refine Qf fun K hK => Qa rfl ?_
  refine hK _ _ (Qb (kp1 rfl) ?_)
  refine Qu (Qj (Yg rfl ?_))
  rw [Qjy, if_neg (by simp [h1])]; rfl
 ·try rw [h1]
  try simp only [qa, qb, qc, qd, qe, List.length_map] at h1
  refine Qv (Qd (kp1 rfl) (Qf fun K hK => Qa rfl ?_))
  refine hK _ _ (Qb (kp2 rfl rfl) ?_)
  refine Qf fun K hK => Qa rfl (QI (Qad ha) rfl rfl (.inl rfl) (Qa rfl ?_))
  refine hK _ _ (Qb (kp3 rfl rfl rfl) ?_)
  refine QB ?_ -- 1
  refine Qf fun K hK => Qa rfl ?_
  refine hK _ _ (Qb (kp4 rfl rfl rfl rfl) ?_)
  refine Qz ?_
  refine Zj (ι := Nat × List (Cu × Cu)) (fun ⟨i, out⟩ => ⟨[(0, ZJ a), (3, .osl 3 out.length), (4, Qg8 (YR a)), (5, .int .i64 i)], [(3, ⟨out.map QeU, 14, 108, true⟩)]⟩) (fun ⟨i, out⟩ => i <= (YR a).length /\ FillI (fun x y => !mIn a x y) (YR a) i out) (fun ⟨i, out⟩ => (YR a).length - i) (0, []) ?_ ?_ ?_
  ·exact le_trans (Yf 3 3 14 108 rfl rfl) (Q1 (l := [0, 3, 4, 5]) (lH := [3]) (kp4 rfl rfl rfl rfl) (Qe rfl Ql) rfl rfl rfl)
  ·exact ⟨Nat.zero_le _, FillI.zero⟩
  intro ⟨i, out⟩ hI
  obtain ⟨hI1, hI2⟩ := hI
  have hI3 := hI2.1
  try dsimp only
  refine QB ?_ -- 2
  refine Qf fun K hK => Qa rfl (Q2 rfl rfl (by first | exact Qq (by omega) (by omega) | rfl) (Qa rfl (QQ rfl rfl (Z6 rfl rfl ?_))))
  refine hK _ _ (Qb (kp5 rfl rfl rfl rfl rfl) ?_)
  refine Qw rfl (fun h2 => ?_) (fun h2 => ?_)
  ·try rw [h2]
   try simp only [qa, qb, qc, qd, qe, List.length_map] at h2
   refine Qv (Qd (kp4 rfl rfl rfl rfl) ?_)
   refine QB ?_ -- 3
   refine Qz (Qf fun K hK => Qa rfl (Qa rfl (Qa rfl (QK rfl rfl rfl (by omega) (QV (by omega)) rfl (QN (ds0 := [1, 0]) (cs := [_, _, _, _, _, _, _]) rfl rfl rfl rfl rfl rfl (Qa rfl (Qa rfl (Q2 rfl rfl (by first | exact Qq (by omega) (by omega) | rfl) (QK rfl rfl rfl (by omega) (Qkf (by omega)) rfl (QN (ds0 := [1, 0]) (cs := [_, _, _, _, _, _, _]) rfl rfl rfl rfl rfl rfl ?_))))))))))
   refine QT (ds0 := [0]) (QaQ ha (Yz ha _ (List.getElem_mem (by omega))) (Yz ha _ (List.getElem_mem (by omega)))) rfl rfl (.inr rfl) rfl rfl (Ym rfl ?_)
   refine hK _ _ (Qb (kp5 rfl rfl rfl rfl rfl) ?_)
   refine Qw rfl (fun h3 => ?_) (fun h3 => ?_)
   ·try rw [h3]
    try simp only [qa, qb, qc, qd, qe, List.length_map] at h3
    refine QL fun K hK => Qa rfl (Qa rfl (Qa rfl (QK rfl rfl rfl (by omega) (QV (by omega)) rfl (QN (ds0 := [1, 0]) (cs := [_, _, _, _, _, _, _]) rfl rfl rfl rfl rfl rfl (Qa rfl (Qa rfl (Q2 rfl rfl (by first | exact Qq (by omega) (by omega) | rfl) (QK rfl rfl rfl (by omega) (Qkf (by omega)) rfl (QN (ds0 := [1, 0]) (cs := [_, _, _, _, _, _, _]) rfl rfl rfl rfl rfl rfl (QjV (ds0 := [0]) (Qj3 (k := 3) rfl rfl rfl (by decide) rfl (by decide) (by simp [D.ids, D.sid, dCu]) ⟨.osl 3 out.length, by simp, by simp [D.ids, D.sid]⟩ rfl rfl (Qae (by omega) hI2.2.1 (Yz ha _ (List.getElem_mem (by omega))) (Yz ha _ (List.getElem_mem (by omega))))) (fun _ h => by cases h) rfl rfl ?_))))))))))
    refine Qa rfl (hK _ ?_)
    refine Qg (Qd (kp4 rfl rfl rfl rfl) (QL fun K hK => Qa rfl (Q2 rfl rfl (by first | exact Qq (by omega) (by omega) | rfl) (Qa rfl (hK _ ?_)))))
    refine Qi (i + 1, Qb1 out (YR a)[i] (YR a)[i + 1]) ?_ ?_ ?_
    ·exact le_trans (Qmb (l := [0, 4, 5]) (t := 40) (u := 3) 3 (kp3 rfl rfl rfl) rfl rfl rfl rfl) (Q1 (l := [0, 3, 4, 5]) (lH := [3]) (kp4 rfl rfl rfl rfl) (Qe rfl Ql) rfl rfl rfl)
    ·exact ⟨by omega, hI2.take (Yz ha) (by omega) (by simp; assumption)⟩
    ·show (YR a).length - (i + 1) < (YR a).length - i; omega
   ·try rw [h3]
    try simp only [qa, qb, qc, qd, qe, List.length_map] at h3
    refine Qv (Qg (Qd (kp4 rfl rfl rfl rfl) (QL fun K hK => Qa rfl (Q2 rfl rfl (by first | exact Qq (by omega) (by omega) | rfl) (Qa rfl (hK _ ?_))))))
    refine Qi (i + 1, out) ?_ ?_ ?_
    ·exact Q1 (l := [0, 3, 4, 5]) (lH := [3]) (kp4 rfl rfl rfl rfl) (Qe rfl Ql) rfl rfl rfl
    ·exact ⟨by omega, hI2.skip (by omega) (by simp; assumption)⟩
    ·show (YR a).length - (i + 1) < (YR a).length - i; omega
  ·try rw [h2]
   try simp only [qa, qb, qc, qd, qe, List.length_map] at h2
   refine Zh (QJ (Qx (QD (Qd (kp1 rfl) (Qf fun K hK => Qa rfl (Qa rfl ?_))))))
   refine hK _ _ (Qb (kp1 rfl) ?_)
   refine Qu (Yg rfl ?_)
   rw [Qjy, if_pos h1, hI2.done (by omega)]; simp [QbI, D.fz, D.fzS, QcT, lk, D.can, D.canS, ZJ]
end Go.Proofs
namespace Go.Proofs
open Go Go.Abs M3 M25
set_option linter.unusedVariables false
set_option linter.unusedSimpArgs false
theorem Qed {a b : Qe0} (h1a : Sm a.1) (h2a : Sm a.2) (h1b : Sm b.1) (h2b : Sm b.2) (hl1 : a.1.length + b.1.length <= 1000000) (hl2 : a.2.length + b.2.length <= 1000000) : Ok Tryz.prog 83 [Qg9 a, Qg9 b] (Qg9 (QoA a b)) := by
 refine Ok.ofT ZY Tryz.func83 Qsl (Nat.le_of_ble_eq_true rfl) ?_
 show TW _ _ tf83.body _ _
 refine Qf fun K hK => Zv rfl rfl rfl (Zv rfl rfl rfl (ZL rfl ?_))
 refine hK _ _ (Qb (kp3 rfl rfl rfl) ?_)
 refine QB ?_ -- 0
 refine Qf fun K hK => QH (cs := [_, _]) rfl rfl rfl rfl (QI (YG h1a h2a) rfl rfl (.inr rfl) (Ym rfl (Qa rfl ?_)))
 refine QE (g := 8) rfl (fun h1 => ?_) (fun h1 => ?_)
 ·try rw [h1]
  try simp only [qa, qb, qc, qd, qe] at h1
  refine Qt rfl (Qt rfl (Qt rfl (Qo rfl rfl ?_)))
  refine hK _ _ (Qb (kp4 rfl rfl rfl rfl) ?_)
  refine Zt rfl (Qf fun K hK => QI (Z8) rfl rfl (.inl rfl) (Q7 rfl rfl rfl rfl rfl rfl rfl rfl ?_))
  refine hK _ _ (Qb (kp1 rfl) ?_)
  refine Qu (Qj (Post.eq (ZI (ds := [.sl _, .sl _]) (cs := [_, _]) rfl rfl rfl rfl rfl) ?_))
  rw [QoA, if_neg (by simp [h1])]; rfl
 ·try rw [h1]
  try simp only [qa, qb, qc, qd, qe] at h1
  refine Qk rfl (QH (cs := [_, _]) rfl rfl rfl rfl (Qk rfl (QI (YG h1b h2b) rfl rfl (.inr rfl) (Qk rfl (Ym rfl (Qo rfl rfl ?_))))))
  refine hK _ _ (Qb (kp4 rfl rfl rfl rfl) ?_)
  refine Qw rfl (fun h2 => ?_) (fun h2 => ?_)
  ·try rw [h2]
   try simp only [qa, qb, qc, qd, qe] at h2
   refine Qf fun K hK => QI (Z8) rfl rfl (.inl rfl) (Q7 rfl rfl rfl rfl rfl rfl rfl rfl ?_)
   refine hK _ _ (Qb (kp1 rfl) ?_)
   refine Qu (Qj (Post.eq (ZI (ds := [.sl _, .sl _]) (cs := [_, _]) rfl rfl rfl rfl rfl) ?_))
   rw [QoA, if_neg (by simp [h1, h2])]; rfl
  ·try rw [h2]
   try simp only [qa, qb, qc, qd, qe] at h2
   refine Qv (Qd (kp3 rfl rfl rfl) (Qf fun K hK => Qh rfl rfl (QU (ds0 := [7, 1, 0]) rfl rfl rfl rfl rfl (Qh rfl rfl (QU (ds0 := [7, 1, 0]) rfl rfl rfl rfl rfl (QT (ds0 := [1, 0]) (QaP h1a h1b hl1) rfl rfl (.inl rfl) rfl rfl (Qh rfl rfl (QU (ds0 := [2, 1, 0]) rfl rfl rfl rfl rfl (Qh rfl rfl (QU (ds0 := [2, 1, 0]) rfl rfl rfl rfl rfl ?_))))))))))
   refine QT (ds0 := [1, 0]) (QaP h2a h2b hl2) rfl rfl (.inl rfl) rfl rfl (QX rfl rfl (YZ (ds0 := []) rfl rfl rfl rfl rfl rfl rfl rfl rfl rfl ?_))
   refine hK _ _ (Qb (kp1 rfl) ?_)
   refine Qu (Post.eq (ZI (ds := [.sl _, .sl _]) (cs := [_, _]) rfl rfl rfl rfl rfl) ?_)
   rw [QoA, if_pos ⟨h1, h2⟩]; rfl
theorem Qdo {a : Qe0} (h1a : Sm a.1) (h2a : Sm a.2) : Ok Tryz.prog 84 [Qg9 a] (Qg9 (Qhy a)) := by
 refine Ok.ofT ZY Tryz.func84 Qsm (Nat.le_of_ble_eq_true rfl) ?_
 show TW _ _ tf84.body _ _
 refine Qf fun K hK => Zv rfl rfl rfl (ZL rfl ?_)
 refine hK _ _ (Qb (kp2 rfl rfl) ?_)
 refine QB ?_ -- 0
 refine Qf fun K hK => QH (cs := [_, _]) rfl rfl rfl rfl (QI (YG h1a h2a) rfl rfl (.inr rfl) (Ym rfl ?_))
 refine hK _ _ (Qb (kp3 rfl rfl rfl) ?_)
 refine Qw rfl (fun h1 => ?_) (fun h1 => ?_)
 ·try rw [h1]
  try simp only [qa, qb, qc, qd, qe] at h1
  refine Qf fun K hK => QI (Z8) rfl rfl (.inl rfl) (Q7 rfl rfl rfl rfl rfl rfl rfl rfl ?_)
  refine hK _ _ (Qb (kp1 rfl) ?_)
  refine Qu (Qj (Post.eq (ZI (ds := [.sl _, .sl _]) (cs := [_, _]) rfl rfl rfl rfl rfl) ?_))
  rw [Qhy, if_neg (by simp [h1])]; rfl
 ·try rw [h1]
  try simp only [qa, qb, qc, qd, qe] at h1
  refine Qv (Qd (kp2 rfl rfl) (Qf fun K hK => Qh rfl rfl (QU (ds0 := [5, 1, 0]) rfl rfl rfl rfl rfl (QT (ds0 := [1, 0]) (Qas h1a) rfl rfl (.inl rfl) rfl rfl (Qh rfl rfl (QU (ds0 := [2, 1, 0]) rfl rfl rfl rfl rfl (QT (ds0 := [1, 0]) (Qas h2a) rfl rfl (.inl rfl) rfl rfl (QX rfl rfl (YZ (ds0 := []) rfl rfl rfl rfl rfl rfl rfl rfl rfl rfl ?_)))))))))
  refine hK _ _ (Qb (kp1 rfl) ?_)
  refine Qu (Post.eq (ZI (ds := [.sl _, .sl _]) (cs := [_, _]) rfl rfl rfl rfl rfl) ?_)
  rw [Qhy, if_pos h1]; rfl
end Go.Proofs
namespace Go.Proofs
open Go Go.Abs M3 M25
set_option linter.unusedVariables false
set_option linter.unusedSimpArgs false
theorem Z0 {v n : Int} (hn : n <= 9223372036854775807) (hv : I64 v) : Ok Tryz.prog 31 [.int .i64 v, .int .i64 n] (.int .i64 (mPl v n)) := by
 refine Ok.ofT ZY Tryz.func31 Qry (Nat.le_of_ble_eq_true rfl) ?_
 show TW _ _ tf31.body _ _
 refine Qf fun K hK => Qa rfl ?_
 refine hK _ _ (Qb (kp2 rfl rfl) ?_)
 refine QB ?_ -- 0
 refine Qf fun K hK => Qa rfl (Z6 rfl rfl ?_)
 refine hK _ _ (Qb (kp3 rfl rfl rfl) ?_)
 refine Qw rfl (fun h1 => ?_) (fun h1 => ?_)
 ·try rw [h1]
  try simp only [qa, qb, qc, qd, qe] at h1
  refine Qf fun K hK => Qa rfl ?_
  refine hK _ _ (Qb (kp1 rfl) ?_)
  refine Qu (Qj (QG rfl ?_))
  rw [mPl, if_pos h1]
 ·try rw [h1]
  try simp only [qa, qb, qc, qd, qe] at h1
  refine Qv (Qd (kp2 rfl rfl) (Qf fun K hK => Qa rfl (Qa rfl (Qnm rfl rfl (by omega) (Qa rfl ?_)))))
  refine hK _ _ (Qb (kp2 rfl rfl) ?_)
  refine QB ?_ -- 1
  refine Qf fun K hK => Qa rfl (Z6 rfl rfl ?_)
  refine hK _ _ (Qb (kp3 rfl rfl rfl) ?_)
  refine Qw rfl (fun h2 => ?_) (fun h2 => ?_)
  ·try rw [h2]
   try simp only [qa, qb, qc, qd, qe] at h2
   refine Qf fun K hK => Qa rfl (Qa rfl (Q2 rfl rfl (Qq (by have := Int.lt_tmod_of_pos v (show 0 < n by omega); omega) (by have := Int.tmod_lt_of_pos v (show 0 < n by omega); omega)) (Qa rfl ?_)))
   refine hK _ _ (Qb (kp1 rfl) ?_)
   refine Qu (Qj (QG rfl ?_))
   rw [mPl, if_neg h1, QfV, if_pos h2]
  ·try rw [h2]
   try simp only [qa, qb, qc, qd, qe] at h2
   refine Qv (Qd (kp1 rfl) (Qf fun K hK => Qa rfl (Qa rfl ?_)))
   refine hK _ _ (Qb (kp1 rfl) ?_)
   refine Qu (QG rfl ?_)
   rw [mPl, if_neg h1, QfV, if_neg h2]
theorem Qec {l : List Int} {i : Int} : Ok Tryz.prog 61 [Zo l, .int .i64 i] (.int .i64 (Qng l i)) := by
 refine Ok.ofT ZY Tryz.func61 Qr0 (Nat.le_of_ble_eq_true rfl) ?_
 show TW _ _ tf61.body _ _
 refine Qf fun K hK => Qa rfl ?_
 refine hK _ _ (Qb (kp2 rfl rfl) ?_)
 refine QB ?_ -- 0
 refine Qf fun K hK => Qa rfl (Z6 rfl rfl (Qa rfl ?_))
 refine QE (g := 7) rfl (fun h1 => ?_) (fun h1 => ?_)
 ·try rw [h1]
  try simp only [qa, qb, qc, qd, qe, List.length_map] at h1
  refine Qt rfl (Qt rfl (Qt rfl (Qt rfl (Qo rfl rfl ?_))))
  refine hK _ _ (Qb (kp3 rfl rfl rfl) ?_)
  refine Zt rfl (Qf fun K hK => Qa rfl (Qnm rfl rfl (by omega) (Qa rfl ?_)))
  refine hK _ _ (Qb (kp1 rfl) ?_)
  refine Qu (Qj (QG rfl ?_))
  rw [Qng, if_pos (by omega)]
 ·try rw [h1]
  try simp only [qa, qb, qc, qd, qe, List.length_map] at h1
  refine Qk rfl (Qa rfl (Qk rfl (Qa rfl (Qk rfl (QQ rfl rfl (Qk rfl (QeS rfl rfl (Qo rfl rfl ?_))))))))
  refine hK _ _ (Qb (kp3 rfl rfl rfl) ?_)
  refine Qw rfl (fun h2 => ?_) (fun h2 => ?_)
  ·try rw [h2]
   try simp only [qa, qb, qc, qd, qe, List.length_map] at h2
   refine Qf fun K hK => Qa rfl (Qnm rfl rfl (by omega) (Qa rfl ?_))
   refine hK _ _ (Qb (kp1 rfl) ?_)
   refine Qu (Qj (QG rfl ?_))
   rw [Qng, if_pos (by omega)]
  ·try rw [h2]
   try simp only [qa, qb, qc, qd, qe, List.length_map] at h2
   refine Qv (Qd (kp2 rfl rfl) (Qf fun K hK => Qa rfl (Qa rfl (QK rfl rfl rfl (by omega) (ZE (by omega) (by omega)) rfl (QA rfl rfl rfl (Qa rfl ?_))))))
   refine hK _ _ (Qb (kp1 rfl) ?_)
   refine Qu (QG rfl ?_)
   exact (Qmh (by omega) (by omega)).symm
theorem XI {k : Nat} {L : List Int} {I n : Int} (hk : 1000000 <= k) (hL : ∀ x ∈ L, I64 x) (hn : n <= 9223372036854775807) (et : Nat) : OkH Tryz.prog 36 [.ref k 0 0, .int .i64 n] [(k, gB L I et)] (.int .i64 (nx L I n)) ((k, gB L (nxI I) et) :: [(k, gB L I et)]) := by
 refine OkH.lent hk ZY Tryz.func36 QrD (Nat.le_of_ble_eq_true rfl) rfl ?_
 show TW _ _ tf36.body _ _
 refine Qf fun K hK => Qa rfl ?_
 refine hK _ _ (Qb (kp2 rfl rfl) ?_)
 refine Qf fun K hK => Qa rfl (Yc rfl rfl (Qh rfl Qe9 (QA rfl (Z7 Qeo rfl) rfl (Q2 rfl rfl rfl (Yc rfl rfl (Qh rfl Qe9 (Q7 rfl Qeo rfl rfl rfl rfl rfl rfl ?_)))))))
 refine hK _ _ (Qb (kp2 rfl rfl) ?_)
 refine Qf fun K hK => Qa rfl (Yc rfl rfl (Qh rfl Qe9 (QU (ds0 := [3, 1, 0]) rfl (Z7 Qeo rfl) rfl rfl rfl (Qa rfl (Yc rfl rfl (Qh rfl Qe9 (QU (ds0 := [4, 3, 1, 0]) rfl (Z7 Qeo rfl) rfl rfl rfl (QaD rfl rfl rfl (QT (ds0 := [1, 0]) (Qec) rfl rfl (.inr rfl) rfl rfl (Qa rfl ?_))))))))))
 refine QT (ds0 := [0]) (Z0 hn (QnQ hL (Qgd _))) rfl rfl (.inr rfl) rfl rfl (Qa rfl ?_)
 refine hK _ _ (Qb (kp1 rfl) ?_)
 refine Qu ?_
 exact YA rfl rfl (Qpx Qeo)
end Go.Proofs
namespace Go.Proofs
open Go Go.Abs M3 M25
set_option linter.unusedVariables false
set_option linter.unusedSimpArgs false
theorem Y3 {v : Int} (h0 : 0 <= v) (h1v : v <= 61) : Ok Tryz.prog 50 [.int .i64 v] (.int .i64 (2 ^ v.toNat)) := by
 refine Ok.ofT ZY Tryz.func50 QrP (Nat.le_of_ble_eq_true rfl) ?_
 show TW _ _ tf50.body _ _
 refine Qf fun K hK => Qa rfl ?_
 refine hK _ _ (Qb (kp1 rfl) ?_)
 refine Qf fun K hK => Qa rfl ?_
 refine hK _ _ (Qb (kp2 rfl rfl) ?_)
 refine QB ?_ -- 0
 refine Qf fun K hK => Qa rfl ?_
 refine hK _ _ (Qb (kp3 rfl rfl rfl) ?_)
 refine Qz ?_
 refine Zj (ι := Nat) (fun i => ⟨[(0, .int .i64 v), (3, .int .i64 (2 ^ i)), (4, .int .i64 i)], []⟩) (fun i => (i : Int) <= v) (fun i => v.toNat - i) 0 ?_ ?_ ?_
 ·exact Zg (kp3 rfl rfl rfl)
 ·exact h0
 intro i hI
 have hp := QhD (i := i + 1) (by omega)
 rw [Int.pow_succ] at hp
 try dsimp only
 refine QB ?_ -- 1
 refine Qf fun K hK => Qa rfl (Qa rfl (Z6 rfl rfl ?_))
 refine hK _ _ (Qb (kp4 rfl rfl rfl rfl) ?_)
 refine Qw rfl (fun h1 => ?_) (fun h1 => ?_)
 ·try rw [h1]
  try simp only [qa, qb, qc, qd, qe] at h1
  refine Qv (Qd (kp3 rfl rfl rfl) ?_)
  refine QB ?_ -- 2
  refine Qz (QL fun K hK => Qa rfl (QoS rfl rfl (Qq (by obtain ⟨p1, p2⟩ := hp; generalize (2 : Int) ^ i = z at *; omega) (by obtain ⟨p1, p2⟩ := hp; generalize (2 : Int) ^ i = z at *; omega)) (Qa rfl (hK _ ?_))))
  refine Qg (Qd (kp3 rfl rfl rfl) (QL fun K hK => Qa rfl (Q2 rfl rfl (Qq (by omega) (by omega)) (Qa rfl (hK _ ?_)))))
  refine Qi (i + 1) ?_ ?_ ?_
  ·exact Q1 (l := [0, 3, 4]) (lH := []) (kp3 rfl rfl rfl) Ql (by rw [Int.pow_succ]; rfl) rfl rfl
  ·show ((i + 1 : Nat) : Int) <= v; omega
  ·first | omega | (simp only; omega) | (dsimp only; omega)
 ·try rw [h1]
  try simp only [qa, qb, qc, qd, qe] at h1
  refine Zh (QJ (Qx (QD (Qd (kp1 rfl) (Qf fun K hK => Qa rfl (Qa rfl ?_))))))
  refine hK _ _ (Qb (kp1 rfl) ?_)
  refine Qu (QG rfl ?_)
  rw [show v.toNat = i by omega]
theorem XJ {h m : Int} : Ok Tryz.prog 29 [.int .i64 h, .int .i64 m] (.int .i64 (Zw h m)) := by
 refine Ok.ofT ZY Tryz.func29 Qrx (Nat.le_of_ble_eq_true rfl) ?_
 show TW _ _ tf29.body _ _
 refine Qf fun K hK => Qa rfl ?_
 refine hK _ _ (Qb (kp2 rfl rfl) ?_)
 refine QB ?_ -- 0
 refine Qz (Qf fun K hK => Qa rfl (Qa rfl (Qd8 rfl rfl (Qa rfl (ZO rfl rfl (Qa rfl ?_))))))
 refine hK _ _ (Qb (kp3 rfl rfl rfl) ?_)
 refine Qw rfl (fun h1 => ?_) (fun h1 => ?_)
 ·try rw [h1]
  try simp only [qa, qb, qc, qd, qe] at h1
  refine Qf fun K hK => Qa rfl ?_
  refine hK _ _ (Qb (kp1 rfl) ?_)
  refine Qu (Qr (Qj (QG rfl ?_)))
  rw [Zw, if_pos h1]
 ·try rw [h1]
  try simp only [qa, qb, qc, qd, qe] at h1
  refine Qf fun K hK => Qa rfl (Qa rfl (Qd8 rfl rfl (ZO rfl rfl (Qa rfl ?_))))
  refine hK _ _ (Qb (kp1 rfl) ?_)
  refine Qw rfl (fun h2 => ?_) (fun h2 => ?_)
  ·try rw [h2]
   try simp only [qa, qb, qc, qd, qe] at h2
   refine Qf fun K hK => Qa rfl ?_
   refine hK _ _ (Qb (kp1 rfl) ?_)
   refine Qu (Qr (Qj (QG rfl ?_)))
   rw [Zw, if_neg h1, if_pos h2]
  ·try rw [h2]
   try simp only [qa, qb, qc, qd, qe] at h2
   refine Qv (Qg (Qd (Q6) (Qf fun K hK => Qa rfl ?_)))
   refine hK _ _ (Qb (kp1 rfl) ?_)
   refine Qu (QG rfl ?_)
   rw [Zw, if_neg h1, if_neg h2]
theorem Qh5 {h m : Int} : Ok Tryz.prog 87 [.int .i64 h, .int .i64 m] (.int .i64 (QaI h m)) := by
 refine Ok.ofT ZY Tryz.func87 Qsp (Nat.le_of_ble_eq_true rfl) ?_
 show TW _ _ tf87.body _ _
 refine Qf fun K hK => Qa rfl ?_
 refine hK _ _ (Qb (kp2 rfl rfl) ?_)
 refine QB ?_ -- 0
 refine Qz (Qf fun K hK => Qa rfl (Qa rfl (QeZ rfl rfl (ZO rfl rfl (Qa rfl ?_)))))
 refine hK _ _ (Qb (kp3 rfl rfl rfl) ?_)
 refine Qw rfl (fun h1 => ?_) (fun h1 => ?_)
 ·try rw [h1]
  try simp only [qa, qb, qc, qd, qe] at h1
  refine Qf fun K hK => Qa rfl ?_
  refine hK _ _ (Qb (kp1 rfl) ?_)
  refine Qu (Qr (Qj (QG rfl ?_)))
  rw [QaI, if_pos h1]
 ·try rw [h1]
  try simp only [qa, qb, qc, qd, qe] at h1
  refine Qf fun K hK => Qa rfl (Qa rfl (Qd8 rfl rfl (ZO rfl rfl (Qa rfl ?_))))
  refine hK _ _ (Qb (kp1 rfl) ?_)
  refine Qw rfl (fun h2 => ?_) (fun h2 => ?_)
  ·try rw [h2]
   try simp only [qa, qb, qc, qd, qe] at h2
   refine Qf fun K hK => Qa rfl ?_
   refine hK _ _ (Qb (kp1 rfl) ?_)
   refine Qu (Qr (Qj (QG rfl ?_)))
   rw [QaI, if_neg h1, if_pos h2]
  ·try rw [h2]
   try simp only [qa, qb, qc, qd, qe] at h2
   refine Qv (Qg (Qd (Q6) (Qf fun K hK => Qa rfl ?_)))
   refine hK _ _ (Qb (kp1 rfl) ?_)
   refine Qu (QG rfl ?_)
   rw [QaI, if_neg h1, if_neg h2]
end Go.Proofs
namespace Go.Proofs
open Go Go.Abs M3 M25
set_option linter.unusedVariables false
set_option linter.unusedSimpArgs false
theorem Xh  : Ok Tryz.prog 53 [] (.sl (versions.map dVr)) := by
 refine Ok.ofT ZY Tryz.func53 QrS (Nat.le_of_ble_eq_true rfl) ?_
 show TW _ _ tf53.body _ _
 refine Qf fun K hK => Qa rfl ?_
 refine hK _ _ (Qb (Q6) ?_)
 refine Qf fun K hK => QX rfl rfl (QX rfl rfl (QX rfl rfl (QX rfl rfl (QC rfl rfl (Qa rfl ?_)))))
 refine hK _ _ (Qb (kp1 rfl) ?_)
 refine Qu (Yg rfl ?_)
 rfl
end Go.Proofs
namespace M25
open Go Go.Abs M3
structure WantT where
 u : Int
 s : Qe0
structure CandT where
 v : Vr
 sh : Int
 ns : List (List WantT)
 bs : List WantT
structure Qno where
 n : List UInt8
 f : List UInt8
 cs : List CandT
abbrev Qp := List Qno
def QeV (x : WantT) : List D := [.int .i64 x.u, ZJ x.s.1, ZJ x.s.2]
def Za (l : List WantT) : D := .sl (l.map QeV)
def QY (l : List (List WantT)) : D := .sl (l.map fun r => [Za r])
def Qo7 (c : CandT) : List D := [.int .i64 c.v.a, .int .i64 c.v.b, .int .i64 c.v.c, .str c.v.p, .str c.v.q, .int .i64 c.sh, QY c.ns, Za c.bs]
def Qj4 (l : List CandT) : D := .sl (l.map Qo7)
def Yn (u : Qno) : List D := [.str u.n, .str u.f, Qj4 u.cs]
def Z1 (w : Qp) : D := .agg [.sl (w.map Yn)]
structure TermT where
 u : Int
 m : Int
 deriving DecidableEq
structure QO where
 u : Int
 m : Int
 l : Int
 c : Int
 deriving DecidableEq
structure RowT where
 k : Int
 u : Int
 a : Int
 b : Int
 t : List TermT
def Qdr (t : TermT) : List D := [.int .i64 t.u, .int .i64 t.m]
def ZK (l : List TermT) : D := .sl (l.map Qdr)
def Qid (s : QO) : List D := [.int .i64 s.u, .int .i64 s.m, .int .i64 s.l, .int .i64 s.c]
def Zz (l : List QO) : D := .sl (l.map Qid)
def QlM (r : RowT) : List D := [.int .i64 r.k, .int .i64 r.u, .int .i64 r.a, .int .i64 r.b, ZK r.t]
def Qo8 (l : List RowT) : D := .sl (l.map QlM)
def dDb (l : List (List TermT)) : D := .sl (l.map fun t => [ZK t])
abbrev band (a b : Int) : Int := Qal .and .i64 a b
abbrev bor (a b : Int) : Int := Qal .or .i64 a b
abbrev Qe3 (a b : Int) : Int := Qal .andNot .i64 a b
def uAt (w : Qp) (u : Int) : Option Qno := if u < 0 then none else w[u.toNat]?
theorem QkR {w : Qp} {u : Int} (h0 : 0 <= u) (h : u < w.length) : uAt w u = some (w[u.toNat]'(by omega)) := by
 rw [uAt, if_neg (by omega), List.getElem?_eq_getElem (by omega)]
theorem QjO {w : Qp} {u : Int} (h : u < 0 \/ (w.length : Int) <= u) : uAt w u = none := by
 unfold uAt
 split
 ·rfl
 ·rw [List.getElem?_eq_none]; omega
def YW (w : Qp) (u : Int) : Int := match uAt w u with
 | none => 0
 | some x => 2 ^ (min x.cs.length 16 + 1) - 1
theorem Qhv {w : Qp} {u : Int} (h0 : 0 <= u) (h : u < w.length) : YW w u = 2 ^ (min (w[u.toNat]'(by omega)).cs.length 16 + 1) - 1 := by
 rw [YW, QkR h0 h]
theorem QdG {w : Qp} {u : Int} (h : u < 0 \/ (w.length : Int) <= u) : YW w u = 0 := by rw [YW, QjO h]
theorem QdF (w : Qp) (u : Int) : 0 <= YW w u /\ YW w u <= 131071 := by
 unfold YW
 split
 ·omega
 ·rename_i x _
  have h1 : (2 : Nat) ^ (min x.cs.length 16 + 1) <= 2 ^ 17 := Nat.pow_le_pow_right (by omega) (by omega)
  have h2 : 1 <= (2 : Nat) ^ (min x.cs.length 16 + 1) := Nat.one_le_two_pow
  have h3 : ((2 ^ (min x.cs.length 16 + 1) : Nat) : Int) = (2 : Int) ^ (min x.cs.length 16 + 1) := by simp
  rw [<- h3]
  have h4 : (2 : Nat) ^ 17 = 131072 := by decide
  omega
def Qgo (v : Vr) : Prop := v.p.length <= 1000000 /\ v.q.length <= 1000000
structure WSm (w : Qp) : Prop where
 len : w.length <= 48
 cs : ∀ u ∈ w, u.cs.length <= 16
 vs : ∀ u ∈ w, ∀ c ∈ u.cs, Qgo c.v
 ns : ∀ u ∈ w, ∀ c ∈ u.cs, c.ns.length <= 1000 /\ c.bs.length <= 1000
 nl : ∀ u ∈ w, ∀ c ∈ u.cs, ∀ r ∈ c.ns, r.length <= 1000
 nw : ∀ u ∈ w, ∀ c ∈ u.cs, ∀ r ∈ c.ns, ∀ x ∈ r, Sm x.s.1 /\ Sm x.s.2
 bw : ∀ u ∈ w, ∀ c ∈ u.cs, ∀ x ∈ c.bs, Sm x.s.1 /\ Sm x.s.2
def QqH (s : Qe0) (v : Vr) : Bool := Qli s v.a v.b v.c v.p v.q
def QbF (s : Qe0) (l : List CandT) : Nat -> Int
 | 0 => 0
 | n + 1 => QbF s l n + match l[n]? with
  | some c => if QqH s c.v = true then 2 ^ (n + 1) else 0
  | none => 0
theorem Qkw (s : Qe0) (l : List CandT) : ∀ n, 0 <= QbF s l n /\ QbF s l n <= 2 ^ (n + 1) - 2
 | 0 => by simp [QbF]
 | n + 1 => by
  obtain ⟨h1, h2⟩ := Qkw s l n
  have h3 : (2 : Int) ^ (n + 1 + 1) = 2 ^ (n + 1) * 2 := Int.pow_succ ..
  have h4 : (0 : Int) < 2 ^ (n + 1) := Int.pow_pos (by omega)
  rw [QbF, h3]
  generalize (2 : Int) ^ (n + 1) = z at *
  split
  ·split <;> omega
  ·omega
theorem Qmv {s : Qe0} {l : List CandT} {i : Nat} (h : i < l.length) (hp : QqH s l[i].v = true) : QbF s l (i + 1) = QbF s l i + 2 ^ (i + 1) := by
 rw [QbF, List.getElem?_eq_getElem h]; simp only [hp, if_true]
theorem QnW {s : Qe0} {l : List CandT} {i : Nat} (h : i < l.length) (hp : QqH s l[i].v = false) : QbF s l (i + 1) = QbF s l i := by
 rw [QbF, List.getElem?_eq_getElem h]; simp only [hp, Bool.false_eq_true, if_false, Int.add_zero]
def Qi7 (w : Qp) (x : WantT) : Int := match uAt w x.u with
 | none => 0
 | some un => QbF x.s un.cs (min un.cs.length 16)
theorem Qmn {w : Qp} {x : WantT} (h0 : 0 <= x.u) (h : x.u < w.length) : Qi7 w x = QbF x.s (w[x.u.toNat]'(by omega)).cs (min (w[x.u.toNat]'(by omega)).cs.length 16) := by
 rw [Qi7, QkR h0 h]
theorem Qks {w : Qp} {x : WantT} (h : x.u < 0 \/ (w.length : Int) <= x.u) : Qi7 w x = 0 := by rw [Qi7, QjO h]
theorem Qpo {n : Nat} (h : n <= 17) : 1 <= (2 : Int) ^ n /\ (2 : Int) ^ n <= 131072 := by
 have h1 : (2 : Nat) ^ n <= 2 ^ 17 := Nat.pow_le_pow_right (by omega) h
 have h2 : 1 <= (2 : Nat) ^ n := Nat.one_le_two_pow
 have h3 : ((2 ^ n : Nat) : Int) = (2 : Int) ^ n := by simp
 rw [<- h3]
 have h4 : (2 : Nat) ^ 17 = 131072 := by decide
 omega
theorem Qkv (s : Qe0) (l : List CandT) {n : Nat} (h : n <= 16) : 0 <= QbF s l n /\ QbF s l n <= 131070 := by
 obtain ⟨h1, h2⟩ := Qkw s l n
 have := Qpo (n := n + 1) (by omega)
 omega
theorem Qpj (w : Qp) (x : WantT) : 0 <= Qi7 w x /\ Qi7 w x <= 131070 := by
 unfold Qi7
 split
 ·omega
 ·exact Qkv _ _ (by omega)
def Y9 (m : Int) : Nat -> List Int
 | 0 => []
 | n + 1 => Y9 m n ++ if band m (2 ^ n) = 0 then [] else [(n : Int) - 1]
def Qbk (m : Int) : List Int := Y9 m 17
theorem Qcg (m : Int) : ∀ n, (Y9 m n).length <= n
 | 0 => Nat.le_refl _
 | n + 1 => by
  have := Qcg m n
  rw [Y9, List.length_append]
  split <;> simp <;> omega
def Qbx (f : Int) (u : Int) : List TermT -> Int
 | [] => f
 | t :: r => if t.u = u then t.m else Qbx f u r
def Qc5 (w : Qp) (l : List TermT) (u : Int) : Int := Qbx (YW w u) u l
theorem Qlm {f u : Int} {l : List TermT} {i : Nat} (h : i < l.length) (hn : ¬ l[i].u = u) : Qbx f u (l.drop i) = Qbx f u (l.drop (i + 1)) := by
 rw [List.drop_eq_getElem_cons h, Qbx, if_neg hn]
theorem Qmu {f u : Int} {l : List TermT} {i : Nat} (h : i < l.length) (hn : l[i].u = u) : Qbx f u (l.drop i) = l[i].m := by
 rw [List.drop_eq_getElem_cons h, Qbx, if_pos hn]
def QbQ (w : Qp) : Nat -> List Int
 | 0 => []
 | n + 1 => QbQ w n ++ [YW w n]
theorem Qc3 (w : Qp) : ∀ n, (QbQ w n).length = n
 | 0 => rfl
 | n + 1 => by rw [QbQ, List.length_append, Qc3 w n]; rfl
def QaV (w : Qp) : List Int := QbQ w w.length
def Xu (w : Qp) (ms : List Int) : Nat -> List TermT
 | 0 => []
 | n + 1 => Xu w ms n ++ if ms.getD n 0 = YW w n then [] else [⟨n, ms.getD n 0⟩]
theorem QgK (w : Qp) (ms : List Int) : ∀ n, (Xu w ms n).length <= n
 | 0 => Nat.le_refl _
 | n + 1 => by
  have := QgK w ms n
  rw [Xu, List.length_append]
  split <;> simp <;> omega
def QiA (w : Qp) (ms : List Int) : Option (List TermT) := if ms.all (fun m => !decide (m = 0)) = true then some (Xu w ms ms.length) else none
def dOT (o : Option (List TermT)) : D := .tup [ZK (o.getD []), .bool o.isSome]
def Xt (ms : List Int) (l : List TermT) : List Int := l.foldl (fun ms t => ms.set t.u.toNat (band (ms.getD t.u.toNat 0) t.m)) ms
def inW (w : Qp) (u : Int) : Bool := decide (0 <= u) && decide (u < w.length)
def QcS (w : Qp) (l : List TermT) : Option (List TermT) := if l.all (fun t => inW w t.u) = true then QiA w (Xt (QaV w) l) else none
def QgE (l : List TermT) (u : Int) : List TermT := l.filter fun t => !decide (t.u = u)
def Yp (l : List TermT) : Nat -> List TermT
 | 0 => []
 | n + 1 => Yp l n ++ l.filter fun t => decide (t.u = ((n : Nat) : Int))
def QhA (l : List TermT) : List TermT := Yp l 48
def Yk (w : Qp) (u : Int) (p : Nat) (l : List WantT) (bar : Bool) : Option (List TermT) :=
 QcS w (⟨u, band (YW w u) (2 * 2 ^ p)⟩ :: l.map fun x => ⟨x.u, if bar = true then Qi7 w x else YW w x.u - Qi7 w x⟩)
def Qjt (r x : RowT) : Bool := decide (x.k = r.k) && decide (x.u = r.u) && decide (QgE x.t r.u = QgE r.t r.u)
def QnJ (w : Qp) (r x : RowT) : RowT := { x with t := QhA (⟨r.u, bor (Qc5 w x.t r.u) (Qc5 w r.t r.u)⟩ :: QgE x.t r.u) }
def Xd (w : Qp) (r : RowT) : List RowT -> List RowT
 | [] => [r]
 | x :: l => if Qjt r x = true then QnJ w r x :: l else x :: Xd w r l
def YN (w : Qp) (u : Int) (p : Nat) (l : List (List WantT)) (rows : List RowT) : List RowT := l.foldl (fun rows n => match Yk w u p n false with
 | some t => Xd w ⟨2, u, 0, 0, t⟩ rows
 | none => rows) rows
def QbA (w : Qp) (u : Int) (p : Nat) (l : List WantT) (rows : List RowT) : List RowT := l.foldl (fun rows n => match Yk w u p [n] true with
 | some t => Xd w ⟨3, u, 0, 0, t⟩ rows
 | none => rows) rows
def YH (w : Qp) (u : Int) (cs : List CandT) : Nat -> List RowT -> List RowT
 | 0, rows => rows
 | n + 1, rows => match cs[n]? with
  | some c => QbA w u n c.bs (YN w u n c.ns (YH w u cs n rows))
  | none => YH w u cs n rows
def Yu (w : Qp) : Nat -> List RowT
 | 0 => [⟨1, 0, 0, 0, [⟨0, 1⟩]⟩]
 | n + 1 => match w[n]? with
  | some u => YH w n u.cs u.cs.length (Yu w n)
  | none => Yu w n
def QbY (w : Qp) : List RowT := Yu w w.length
def mDB (w : Qp) : List (List TermT) := (QbY w).map RowT.t
/-! ### Trails -/
def Zd (w : Qp) (l : List QO) (u : Int) : Int := l.foldl (fun a s => if s.u = u /\ inW w u = true then s.m else a) (YW w u)
def Xs (l : List QO) : Int := match l.getLast? with
 | none => 0
 | some s => s.l
def QdE (l : List QO) (u : Int) : Bool := l.any fun s => decide (s.u = u) && decide (s.c = -1)
def Qpm : List Int -> Int
 | [x] => x
 | _ => -1
def QfW (m : Int) : Int := Qpm (Qbk m)
def QdL (w : Qp) (l : List QO) (s : QO) : Bool :=
 inW w s.u && decide (-1 <= s.c) && decide (band s.m (Zd w l s.u) = s.m) &&
  if s.c = -1 then decide (0 <= QfW s.m) && !QdE l s.u && decide (s.l = IntKind.i64.wrap (Xs l + 1))
  else !decide (s.m = 0) && !decide (s.m = Zd w l s.u) && decide (s.l = Xs l)
def Qer (w : Qp) (l : List QO) : Bool := (List.range l.length).all fun i => match l[i]? with
 | some s => QdL w (l.take i) s
 | none => true
def Qc7 (w : Qp) (l : List QO) (inc : List TermT) : Bool := inc.all fun t => decide (Zw (Zd w l t.u) t.m = 2)
def ZF (have_ : Int -> Int) : List TermT -> Int -> Int
 | [], at_ => at_
 | t :: r, at_ => if Zw (have_ t.u) t.m = 0 then -1 else if Zw (have_ t.u) t.m = 1 then (if 0 <= at_ then -1 else ZF have_ r t.u) else ZF have_ r at_
def Qc6 (w : Qp) (l : List QO) (inc : List TermT) : Int := ZF (Zd w l) inc (-1)
def Yo (w : Qp) (l : List QO) : Nat -> List (List TermT) -> Int × Int
 | _, [] => (-1, -1)
 | i, x :: r => if Qc7 w l x = true then (i, -1) else if 0 <= Qc6 w l x then (i, Qc6 w l x) else Yo w l (i + 1) r
def Zy (w : Qp) (db : List (List TermT)) (l : List QO) : Int × Int := Yo w l 0 db
def Yl (w : Qp) (l : List QO) (t : TermT) (c : Int) : Option (List QO) :=
 if c < 0 \/ inW w t.u = false then none
 else if IntKind.i64.wrap (Zd w l t.u - band (Zd w l t.u) t.m) = 0 \/ IntKind.i64.wrap (Zd w l t.u - band (Zd w l t.u) t.m) = Zd w l t.u then none
 else some (l ++ [⟨t.u, IntKind.i64.wrap (Zd w l t.u - band (Zd w l t.u) t.m), Xs l, c⟩])
def Xj (w : Qp) (l : List QO) (u p : Int) : Option (List QO) := match uAt w u with
 | none => none
 | some x => if p < 0 \/ (x.cs.length : Int) <= p then none
  else if QdL w l ⟨u, IntKind.i64.wrap (2 * 2 ^ min p.toNat 64), IntKind.i64.wrap (Xs l + 1), -1⟩ = true then some (l ++ [⟨u, IntKind.i64.wrap (2 * 2 ^ min p.toNat 64), IntKind.i64.wrap (Xs l + 1), -1⟩]) else none
def dOS (o : Option (List QO)) : D := .tup [Zz (o.getD []), .bool o.isSome]
def Qbo (w : Qp) (db : List (List TermT)) : Nat -> List QO -> List QO × Int
 | 0, out => (out, -1)
 | n + 1, out => if (Zy w db out).2 < 0 then (out, (Zy w db out).1)
  else Qbo w db n ((Yl w out ⟨(Zy w db out).2, Qc5 w (db.getD (Zy w db out).1.toNat []) (Zy w db out).2⟩ (Zy w db out).1).getD [])
def QaH (w : Qp) (db : List (List TermT)) (l : List QO) : List QO × Int := Qbo w db (w.length * 18 + 1) l
end M25
namespace M25
open Go Go.Abs M3
section
variable {fr : List (Nat × D)} {H : List (Nat × Box)} {t u : Nat}
theorem QjX {k n : Nat} {b : Box} {d : D} (hb : lk H k = some b) (hp : b.pr = true) (hn : n = b.rows.length) (hd : .sl b.rows = d) : QbI ⟨fr, H⟩ (.osl k n) = d := by
 unfold QbI; rw [QqG (S := QcT) rfl hb hp hn]; exact hd
theorem Qaz {e : YC} {k n : Nat} {b : Box} {d : D} (h : lk fr t = some (.osl k n)) (hb : lk H k = some b) (hp : b.pr = true) (hn : n = b.rows.length) (hd : .sl b.rows = d) (he : e = .ret \/ e = .normal := by first | exact .inl rfl | exact .inr rfl) : Post [.tmp t] d e ⟨fr, H⟩ :=
 Yg h (QjX hb hp hn hd) he
theorem Qf2 {e : YC} {k n : Nat} {b : Box} {q d d' : D} (h : lk fr t = some (.osl k n)) (hb : lk H k = some b) (hp : b.pr = true) (hn : n = b.rows.length) (hd : .sl b.rows = d) (h2 : lk fr u = some q) (hd2 : QbI ⟨fr, H⟩ q = d') (he : e = .ret \/ e = .normal := by first | exact .inl rfl | exact .inr rfl) : Post [.tmp t, .tmp u] (.tup [d, d']) e ⟨fr, H⟩ :=
 QS h h2 ⟨QjX hb hp hn hd, hd2⟩ he
end
theorem QqI (n : Nat) : (min (n : Int) 16 + 1).toNat = min n 16 + 1 := by omega
theorem Qi5 {n : Nat} (h : n <= 62) : IntKind.i64.wrap ((2 : Int) ^ n - 1) = 2 ^ n - 1 := by
 have := QhD h; exact Qq (by omega) (by omega)
theorem Qqa (i : Nat) : (2 : Int) ^ ((i : Int) + 1).toNat = 2 ^ (i + 1) := by rw [Qnc]
theorem Qoi (s : Qe0) (l : List CandT) {i : Nat} (h : i < 16) : IntKind.i64.wrap (QbF s l i + (2 : Int) ^ ((i : Int) + 1).toNat) = QbF s l i + 2 ^ (i + 1) := by
 rw [Qqa]
 have h1 := Qkv s l (n := i) (by omega)
 have h2 := Qpo (n := i + 1) (by omega)
 exact Qq (by omega) (by omega)
theorem XX {m : Int} {n : Nat} (h : ¬ band m (2 ^ n) = 0) : Y9 m (n + 1) = Y9 m n ++ [(n : Int) - 1] := by rw [Y9, if_neg h]
theorem Qa9 {m : Int} {n : Nat} (h : band m (2 ^ n) = 0) : Y9 m (n + 1) = Y9 m n := by rw [Y9, if_pos h, List.append_nil]
theorem Qoq {l : List TermT} {u : Int} {i : Nat} (h : i < l.length) : QgE (l.take (i + 1)) u = QgE (l.take i) u ++ if l[i].u = u then [] else [l[i]] := by
 rw [List.take_succ_eq_append_getElem h, QgE, List.filter_append]
 congr 1
 simp only [List.filter_cons, List.filter_nil]
 by_cases hu : l[i].u = u <;> simp [hu]
theorem Qa3 {l : List TermT} {u : Int} {i : Nat} (h : i < l.length) (hn : ¬ l[i].u = u) : QgE (l.take (i + 1)) u = QgE (l.take i) u ++ [l[i]] := by rw [Qoq h, if_neg hn]
theorem Qdi {l : List TermT} {u : Int} {i : Nat} (h : i < l.length) (hn : l[i].u = u) : QgE (l.take (i + 1)) u = QgE (l.take i) u := by rw [Qoq h, if_pos hn, List.append_nil]
theorem Qfq (l : List TermT) (u : Int) : (QgE l u).length <= l.length := List.length_filter_le ..
theorem Qnt (l : List TermT) (u : Int) (i : Nat) : (QgE (l.take i) u).length <= l.length := Nat.le_trans (Qfq ..) (List.length_take_le' ..)
def QeD (l : List TermT) (u : Nat) (i : Nat) : List TermT := (l.take i).filter fun t => decide (t.u = ((u : Nat) : Int))
theorem Qpv {l : List TermT} {u i : Nat} (h : i < l.length) (hn : l[i].u = ((u : Nat) : Int)) : QeD l u (i + 1) = QeD l u i ++ [l[i]] := by
 rw [QeD, List.take_succ_eq_append_getElem h, List.filter_append]; simp [hn, QeD]
theorem Qqb {l : List TermT} {u i : Nat} (h : i < l.length) (hn : ¬ l[i].u = ((u : Nat) : Int)) : QeD l u (i + 1) = QeD l u i := by
 rw [QeD, List.take_succ_eq_append_getElem h, List.filter_append]; simp [hn, QeD]
theorem QmY (l : List TermT) (u i : Nat) : (QeD l u i).length <= l.length := Nat.le_trans (List.length_filter_le ..) (List.length_take_le' ..)
theorem QiZ (l : List TermT) (u : Nat) : Yp l (u + 1) = Yp l u ++ QeD l u l.length := by rw [Yp, QeD, List.take_length]
theorem QgW (l : List TermT) : ∀ n, (Yp l n).length <= n * l.length
 | 0 => by simp [Yp]
 | n + 1 => by
  have := QgW l n
  rw [QiZ, List.length_append, Nat.succ_mul]
  have := QmY l n l.length
  omega
theorem XY (w : Qp) (n : Nat) : QbQ w (n + 1) = QbQ w n ++ [YW w n] := rfl
theorem X0 {w : Qp} {ms : List Int} {n : Nat} (h : n < ms.length) (hn : ¬ ms[n] = YW w n) : Xu w ms (n + 1) = Xu w ms n ++ [⟨n, ms[n]⟩] := by
 rw [Xu, List.getD_eq_getElem?_getD, List.getElem?_eq_getElem h]; simp [hn]
theorem Qbl {w : Qp} {ms : List Int} {n : Nat} (h : n < ms.length) (hn : ms[n] = YW w n) : Xu w ms (n + 1) = Xu w ms n := by
 rw [Xu, List.getD_eq_getElem?_getD, List.getElem?_eq_getElem h]; simp [hn]
theorem Qlj {w : Qp} {ms : List Int} {i : Nat} (h : i < ms.length) (hz : ms[i] = 0) : QiA w ms = none := by
 rw [QiA, if_neg]
 rw [XH h (by simp [hz])]; simp
theorem Qml {w : Qp} {ms : List Int} {i : Nat} (hi : ms.length <= i) (h : (ms.take i).all (fun m => !decide (m = 0)) = true) : QiA w ms = some (Xu w ms ms.length) := by
 rw [List.take_of_length_le hi] at h; rw [QiA, if_pos h]
theorem QfH {w : Qp} {u : Int} (h0 : 0 <= u) (h : u < w.length) : inW w u = true := by simp [inW, h0, h]
theorem Qbe {w : Qp} {u : Int} (h : u < 0 \/ (w.length : Int) <= u) : inW w u = false := by
 simp only [inW, Bool.and_eq_false_iff, decide_eq_false_iff_not]; omega
theorem QbR {w : Qp} {u : Int} : inW w u = true ↔ 0 <= u /\ u < w.length := by simp [inW]
theorem Qlk (l : List TermT) : ∀ ms : List Int, (Xt ms l).length = ms.length := by
 induction l with
 | nil => intro ms; rfl
 | cons t l ih => intro ms; rw [Xt, List.foldl_cons]; exact (ih _).trans (List.length_set ..)
theorem QnU {ms : List Int} {l : List TermT} {i : Nat} (h : i < l.length) : Xt ms (l.take (i + 1)) = (Xt ms (l.take i)).set l[i].u.toNat (band ((Xt ms (l.take i)).getD l[i].u.toNat 0) l[i].m) := by
 rw [List.take_succ_eq_append_getElem h, Xt, List.foldl_append]; rfl
theorem Qku {ms : List Int} {l : List TermT} {i : Nat} (h : i < l.length) (hu : l[i].u.toNat < (Xt ms (l.take i)).length) : Xt ms (l.take (i + 1)) = (Xt ms (l.take i)).set l[i].u.toNat (band ((Xt ms (l.take i))[l[i].u.toNat]) l[i].m) := by
 rw [QnU h, List.getD_eq_getElem?_getD, List.getElem?_eq_getElem hu]; rfl
theorem Qna {x y : TermT} : QaN [0, 0] (Qdr x) (Qdr y) = some (decide (x = y)) := by
 obtain ⟨a, b⟩ := x
 obtain ⟨c, d⟩ := y
 simp only [Qdr, QaN, if_true, Option.map_some, Bool.and_true, Option.some.injEq]
 rw [Bool.eq_iff_iff]
 simp only [Bool.and_eq_true, decide_eq_true_eq, TermT.mk.injEq]
theorem Qm9 {α : Type} {a b : List α} {i : Nat} (ha : i < a.length) (hb : i < b.length) (h : a.take i = b.take i) (he : a[i] = b[i]) : a.take (i + 1) = b.take (i + 1) := by
 rw [List.take_succ_eq_append_getElem ha, List.take_succ_eq_append_getElem hb, h, he]
theorem Qpu {α : Type} [DecidableEq α] {a b : List α} {i : Nat} (ha : i < a.length) (hb : i < b.length) (he : ¬ a[i] = b[i]) : decide (a = b) = false := decide_eq_false fun e => he (by subst e; rfl)
theorem Qfh {e : Int} (h1 : 0 <= e) (h2 : e <= 18446744073709551615) : IntKind.u64.wrap e = e := by
 unfold IntKind.wrap
 simp only [IntKind.bits, IntKind.signed, Bool.false_and, Bool.false_eq_true, if_false]
 omega
theorem Qne {p : Nat} (h : p <= 60) : IntKind.i64.wrap ((2 : Int) * 2 ^ min ((p : Nat) : Int).toNat IntKind.i64.bits) = 2 * 2 ^ p := by
 rw [show min ((p : Nat) : Int).toNat IntKind.i64.bits = p from by simp only [IntKind.bits, Int.toNat_natCast]; omega]
 have := QhD (i := p + 1) (by omega)
 rw [Int.pow_succ] at this
 exact Qq (by omega) (by omega)
theorem QpB (w : Qp) (u : Int) (x : WantT) : IntKind.i64.wrap (YW w u - Qi7 w x) = YW w u - Qi7 w x := by
 have h1 := QdF w u
 have h2 := Qpj w x
 exact Qq (by omega) (by omega)
def clF (w : Qp) (bar : Bool) (x : WantT) : TermT := ⟨x.u, if bar = true then Qi7 w x else YW w x.u - Qi7 w x⟩
def clT (w : Qp) (u : Int) (p : Nat) (bar : Bool) (l : List WantT) : List TermT := ⟨u, band (YW w u) (2 * 2 ^ p)⟩ :: l.map (clF w bar)
theorem Qa7 {w : Qp} {u : Int} {p : Nat} {bar : Bool} {l : List WantT} {i : Nat} (h : i < l.length) (hb : bar = false) : clT w u p bar (l.take (i + 1)) = clT w u p bar (l.take i) ++ [⟨l[i].u, YW w l[i].u - Qi7 w l[i]⟩] := by
 rw [clT, List.take_succ_eq_append_getElem h, List.map_append, <- List.cons_append]; simp [clT, clF, hb]
theorem Qa6 {w : Qp} {u : Int} {p : Nat} {bar : Bool} {l : List WantT} {i : Nat} (h : i < l.length) (hb : bar = true) : clT w u p bar (l.take (i + 1)) = clT w u p bar (l.take i) ++ [⟨l[i].u, Qi7 w l[i]⟩] := by
 rw [clT, List.take_succ_eq_append_getElem h, List.map_append, <- List.cons_append]; simp [clT, clF, hb]
theorem QlK (w : Qp) (u : Int) (p : Nat) (bar : Bool) (l : List WantT) : (clT w u p bar l).length = l.length + 1 := by simp [clT]
theorem QgI {w : Qp} {l : List TermT} {i : Nat} (h : i < l.length) (hu : inW w l[i].u = false) : QcS w l = none := by
 rw [QcS, XH h hu]; rfl
theorem Qmm {w : Qp} {l : List TermT} (h : l.all (fun t => inW w t.u) = true) : QcS w l = QiA w (Xt (QaV w) l) := by
 rw [QcS, if_pos h]
theorem Qfz (w : Qp) (l : List TermT) : (Xt (QaV w) l).length = w.length := by rw [Qlk, QaV, Qc3]
def srt (l : List TermT) (u i : Nat) : List TermT := Yp l u ++ QeD l u i
theorem Qbr {l : List TermT} {u i : Nat} (h : i < l.length) (hn : l[i].u = ((u : Nat) : Int)) : srt l u (i + 1) = srt l u i ++ [l[i]] := by rw [srt, Qpv h hn, <- List.append_assoc]; rfl
theorem Qd3 {l : List TermT} {u i : Nat} (h : i < l.length) (hn : ¬ l[i].u = ((u : Nat) : Int)) : srt l u (i + 1) = srt l u i := by rw [srt, Qqb h hn]; rfl
theorem X4 (l : List TermT) (u : Nat) : srt l u 0 = Yp l u := by simp [srt, QeD]
theorem Qbq (l : List TermT) (u : Nat) {i : Nat} (h : l.length = i) : Yp l (u + 1) = srt l u i := by rw [QiZ, h]; rfl
theorem Qpw (l : List TermT) (u i : Nat) : (srt l u i).length <= u * l.length + l.length := by
 have h1 := QgW l u
 have h2 := QmY l u i
 rw [srt, List.length_append]; omega
end M25
namespace Go.Proofs
open Go Go.Abs M3 M25
set_option linter.unusedVariables false
set_option linter.unusedSimpArgs false
theorem ZB {w : Qp} (hw : WSm w) {u : Int} : Ok Tryz.prog 27 [Z1 w, .int .i64 u] (.int .i64 (YW w u)) := by
 refine Ok.ofT ZY Tryz.func27 Qrv (Nat.le_of_ble_eq_true rfl) ?_
 show TW _ _ tf27.body _ _
 refine Qf fun K hK => Zv rfl rfl rfl (Qa rfl ?_)
 refine hK _ _ (Qb (kp2 rfl rfl) ?_)
 refine QB ?_ -- 0
 refine Qf fun K hK => Qa rfl (Z6 rfl rfl (Qa rfl ?_))
 refine QE (g := 7) rfl (fun h1 => ?_) (fun h1 => ?_)
 ·try rw [h1]
  try simp only [qa, qb, qc, qd, qe, List.length_map] at h1
  refine Qt rfl (Qt rfl (Qt rfl (Qt rfl (Qt rfl (Qo rfl rfl ?_)))))
  refine hK _ _ (Qb (kp3 rfl rfl rfl) ?_)
  refine Zt rfl (Qf fun K hK => Qa rfl ?_)
  refine hK _ _ (Qb (kp1 rfl) ?_)
  refine Qu (Qj (QG rfl ?_))
  rw [QdG (by omega)]
 ·try rw [h1]
  try simp only [qa, qb, qc, qd, qe, List.length_map] at h1
  refine Qk rfl (Qa rfl (Qk rfl (Qh rfl rfl (Qk rfl (QA rfl rfl rfl (Qk rfl (QQ rfl rfl (Qk rfl (QeS rfl rfl (Qo rfl rfl ?_))))))))))
  refine hK _ _ (Qb (kp3 rfl rfl rfl) ?_)
  refine Qw rfl (fun h2 => ?_) (fun h2 => ?_)
  ·try rw [h2]
   try simp only [qa, qb, qc, qd, qe, List.length_map] at h2
   refine Qf fun K hK => Qa rfl ?_
   refine hK _ _ (Qb (kp1 rfl) ?_)
   refine Qu (Qj (QG rfl ?_))
   rw [QdG (by omega)]
  ·try rw [h2]
   try simp only [qa, qb, qc, qd, qe, List.length_map] at h2
   refine Qv (Qd (kp2 rfl rfl) (Qf fun K hK => Qh rfl rfl (QA rfl rfl rfl (Qa rfl (QK rfl rfl rfl (by omega) (ZE (by omega) (by omega)) rfl (Q9 rfl rfl (QA rfl rfl rfl (QQ rfl rfl (Qqy rfl rfl (Q2 rfl rfl (by first | exact Qq (by omega) (by omega) | rfl) ?_))))))))))
   refine QI (Y3 (by omega) (by omega)) rfl rfl (.inr rfl) (QaD rfl rfl (Qi5 (by omega)) (Qa rfl ?_))
   refine hK _ _ (Qb (kp1 rfl) ?_)
   refine Qu (QG rfl ?_)
   rw [Qhv (by omega) (by omega), List.length_map, QqI]
theorem YU {w : Qp} (hw : WSm w) {l : List TermT} (hl : l.length <= 1000000) {u : Int} : Ok Tryz.prog 28 [Z1 w, ZK l, .int .i64 u] (.int .i64 (Qc5 w l u)) := by
 refine Ok.ofT ZY Tryz.func28 Qrw (Nat.le_of_ble_eq_true rfl) ?_
 show TW _ _ tf28.body _ _
 refine Qf fun K hK => Zv rfl rfl rfl (Qa rfl ?_)
 refine hK _ _ (Qb (kp3 rfl rfl rfl) ?_)
 refine QB ?_ -- 0
 refine Qf fun K hK => Qa rfl ?_
 refine hK _ _ (Qb (kp4 rfl rfl rfl rfl) ?_)
 refine Qz ?_
 refine Zj (ι := Nat) (fun i => ⟨[(1, ZK l), (2, .int .i64 u), (3, .ref 3 0 0), (7, .int .i64 i)], [(3, ⟨[[.sl ((w).map Yn)]], 1, 26, true⟩)]⟩) (fun i => i <= l.length /\ Qbx (YW w u) u l = Qbx (YW w u) u (l.drop i)) (fun i => l.length - i) 0 ?_ ?_ ?_
 ·exact Q1 (l := [1, 2, 3, 7]) (lH := [3]) (kp4 rfl rfl rfl rfl) (Qe rfl Ql) rfl rfl rfl
 ·exact ⟨Nat.zero_le _, by simp⟩
 intro i hI
 try dsimp only
 refine QB ?_ -- 1
 refine Qf fun K hK => Qa rfl (Qa rfl (QQ rfl rfl (Z6 rfl rfl ?_)))
 refine hK _ _ (Qb (kp5 rfl rfl rfl rfl rfl) ?_)
 refine Qw rfl (fun h1 => ?_) (fun h1 => ?_)
 ·try rw [h1]
  try simp only [qa, qb, qc, qd, qe, List.length_map] at h1
  refine Qv (Qd (kp4 rfl rfl rfl rfl) ?_)
  refine QB ?_ -- 2
  refine Qz (Qf fun K hK => Qa rfl (Qa rfl (QK rfl rfl rfl (by omega) (QV (by omega)) rfl (Q9 rfl rfl (QA rfl rfl rfl (Qa rfl (ZO rfl rfl ?_)))))))
  refine hK _ _ (Qb (kp5 rfl rfl rfl rfl rfl) ?_)
  refine Qw rfl (fun h2 => ?_) (fun h2 => ?_)
  ·try rw [h2]
   try simp only [qa, qb, qc, qd, qe, List.length_map] at h2
   refine Qf fun K hK => Qa rfl (Qa rfl (QK rfl rfl rfl (by omega) (QV (by omega)) rfl (Q9 rfl rfl (QA rfl rfl rfl (Qa rfl ?_)))))
   refine hK _ _ (Qb (kp1 rfl) ?_)
   refine Qu (Qr (Qj (Q4 (Qr (Qj (QG rfl ?_))))))
   rw [Qc5, hI.2, Qmu (by omega) h2]
  ·try rw [h2]
   try simp only [qa, qb, qc, qd, qe, List.length_map] at h2
   refine Qv (Qg (Qd (kp4 rfl rfl rfl rfl) (QL fun K hK => Qa rfl (Q2 rfl rfl (by first | exact Qq (by omega) (by omega) | rfl) (Qa rfl (hK _ ?_))))))
   refine Qi (i + 1) ?_ ?_ ?_
   ·exact Q1 (l := [1, 2, 3, 7]) (lH := [3]) (kp4 rfl rfl rfl rfl) (Qe rfl Ql) rfl rfl rfl
   ·exact ⟨by omega, by rw [hI.2, Qlm (by omega) (by assumption)]⟩
   ·first | omega | (simp only; omega) | (dsimp only; omega)
 ·try rw [h1]
  try simp only [qa, qb, qc, qd, qe, List.length_map] at h1
  refine Zh (QJ (Qx (QD (Qd (kp2 rfl rfl) (Qf fun K hK => QH (cs := [_]) rfl rfl rfl rfl (Qa rfl (QI (ZB hw) rfl rfl (.inr rfl) (Qa rfl ?_))))))))
  refine hK _ _ (Qb (kp1 rfl) ?_)
  refine Qu (QG rfl ?_)
  rw [Qc5, hI.2, List.drop_eq_nil_of_le (by omega)]; rfl
theorem QcV {w : Qp} (hw : WSm w) {x : WantT} (hx : Sm x.s.1 /\ Sm x.s.2) : Ok Tryz.prog 89 [Z1 w, .agg (QeV x)] (.int .i64 (Qi7 w x)) := by
 refine Ok.ofT ZY Tryz.func89 Qsr (Nat.le_of_ble_eq_true rfl) ?_
 show TW _ _ tf89.body _ _
 refine Qf fun K hK => Zv rfl rfl rfl (Zv rfl rfl rfl (Qa rfl ?_))
 refine hK _ _ (Qb (kp2 rfl rfl) ?_)
 refine QB ?_ -- 0
 refine Qf fun K hK => Qh rfl rfl (QA rfl rfl rfl (Z6 rfl rfl (Qa rfl ?_)))
 refine QE (g := 11) rfl (fun h1 => ?_) (fun h1 => ?_)
 ·try rw [h1]
  try simp only [qa, qb, qc, qd, qe, List.length_map] at h1
  refine Qt rfl (Qt rfl (Qt rfl (Qt rfl (Qt rfl (Qt rfl (Qo rfl rfl ?_))))))
  refine hK _ _ (Qb (kp3 rfl rfl rfl) ?_)
  refine Zt rfl (Qf fun K hK => Qa rfl ?_)
  refine hK _ _ (Qb (kp1 rfl) ?_)
  refine Qu (Qj (QG rfl ?_))
  rw [Qks (by omega)]
 ·try rw [h1]
  try simp only [qa, qb, qc, qd, qe, List.length_map] at h1
  refine Qk rfl (Qh rfl rfl (Qk rfl (QA rfl rfl rfl (Qk rfl (Qh rfl rfl (Qk rfl (QA rfl rfl rfl (Qk rfl (QQ rfl rfl (Qk rfl (QeS rfl rfl ?_)))))))))))
  refine Qo rfl rfl ?_
  refine hK _ _ (Qb (kp3 rfl rfl rfl) ?_)
  refine Qw rfl (fun h2 => ?_) (fun h2 => ?_)
  ·try rw [h2]
   try simp only [qa, qb, qc, qd, qe, List.length_map] at h2
   refine Qf fun K hK => Qa rfl ?_
   refine hK _ _ (Qb (kp1 rfl) ?_)
   refine Qu (Qj (QG rfl ?_))
   rw [Qks (by omega)]
  ·try rw [h2]
   try simp only [qa, qb, qc, qd, qe, List.length_map] at h2
   refine Qv (Qd (kp2 rfl rfl) (Qf fun K hK => Qa rfl ?_))
   refine hK _ _ (Qb (kp3 rfl rfl rfl) ?_)
   refine Qf fun K hK => Qh rfl rfl (QA rfl rfl rfl (Qh rfl rfl (QA rfl rfl rfl (QK rfl rfl rfl (by omega) (ZE (by omega) (by omega)) rfl (Q9 rfl rfl (QA rfl rfl rfl (Qa rfl ?_)))))))
   refine hK _ _ (Qb (kp3 rfl rfl rfl) ?_)
   refine QB ?_ -- 1
   refine Qf fun K hK => Qa rfl ?_
   refine hK _ _ (Qb (kp4 rfl rfl rfl rfl) ?_)
   refine Qz ?_
   refine Zj (ι := Nat) (fun i => ⟨[(3, .ref 3 0 0), (5, .int .i64 (QbF x.s (w[x.u.toNat]'(by omega)).cs i)), (6, Qj4 (w[x.u.toNat]'(by omega)).cs), (7, .int .i64 i)], [(3, ⟨[[.int .i64 (x).u, ZJ (x).s.1, ZJ (x).s.2]], 3, 77, true⟩)]⟩) (fun i => i <= (min (w[x.u.toNat]'(by omega)).cs.length 16)) (fun i => (min (w[x.u.toNat]'(by omega)).cs.length 16) - i) 0 ?_ ?_ ?_
   ·exact Q1 (l := [3, 5, 6, 7]) (lH := [3]) (kp4 rfl rfl rfl rfl) (Qe rfl Ql) rfl rfl rfl
   ·exact Nat.zero_le _
   intro i hI
   try dsimp only
   refine QB ?_ -- 2
   refine Qf fun K hK => Qa rfl (Qa rfl (QQ rfl rfl (Z6 rfl rfl (Qa rfl ?_))))
   refine QE (g := 30) rfl (fun h3 => ?_) (fun h3 => ?_)
   ·try rw [h3]
    try simp only [qa, qb, qc, qd, qe, List.length_map] at h3
    refine Qk rfl (Qa rfl (Qk rfl (Z6 rfl rfl (Qo rfl rfl ?_))))
    refine hK _ _ (Qb (kp5 rfl rfl rfl rfl rfl) ?_)
    refine Qw rfl (fun h4 => ?_) (fun h4 => ?_)
    ·try rw [h4]
     try simp only [qa, qb, qc, qd, qe, List.length_map] at h4
     refine Qv (Qd (kp4 rfl rfl rfl rfl) ?_)
     refine QB ?_ -- 3
     refine Qz (Qf fun K hK => Qh rfl rfl (QN (ds0 := [0]) (cs := [_, _]) rfl rfl rfl rfl rfl rfl (Qa rfl (Qa rfl (QK rfl rfl rfl (by omega) (QV (by omega)) rfl (Q9 rfl rfl (QN (ds0 := [0]) (cs := [_, _, _, _, _]) rfl rfl rfl rfl rfl rfl (QT (ds0 := []) (Qdn hx.1 hx.2 (hw.vs _ (List.getElem_mem _) _ (List.getElem_mem (by omega))).1 (hw.vs _ (List.getElem_mem _) _ (List.getElem_mem (by omega))).2) rfl rfl (.inr rfl) rfl rfl ?_))))))))
     refine hK _ _ (Qb (kp5 rfl rfl rfl rfl rfl) ?_)
     refine Qw rfl (fun h5 => ?_) (fun h5 => ?_)
     ·try rw [h5]
      try simp only [qa, qb, qc, qd, qe, List.length_map] at h5
      refine QL fun K hK => Qa rfl (Qa rfl (Q2 rfl rfl (by first | exact Qq (by omega) (by omega) | rfl) (QI (Y3 (by omega) (by omega)) rfl rfl (.inr rfl) (Q2 rfl rfl (Qoi _ _ (by omega)) (Qa rfl (hK _ ?_))))))
      refine Qg (Qd (kp4 rfl rfl rfl rfl) (QL fun K hK => Qa rfl (Q2 rfl rfl (by first | exact Qq (by omega) (by omega) | rfl) (Qa rfl (hK _ ?_)))))
      refine Qi (i + 1) ?_ ?_ ?_
      ·exact Q1 (l := [3, 5, 6, 7]) (lH := [3]) (kp4 rfl rfl rfl rfl) (Qe rfl Ql) (by rw [Qmv (by omega) (by assumption)]; rfl) rfl rfl
      ·omega
      ·first | omega | (simp only; omega) | (dsimp only; omega)
     ·try rw [h5]
      try simp only [qa, qb, qc, qd, qe, List.length_map] at h5
      refine Qv (Qg (Qd (kp4 rfl rfl rfl rfl) (QL fun K hK => Qa rfl (Q2 rfl rfl (by first | exact Qq (by omega) (by omega) | rfl) (Qa rfl (hK _ ?_))))))
      refine Qi (i + 1) ?_ ?_ ?_
      ·exact Q1 (l := [3, 5, 6, 7]) (lH := [3]) (kp4 rfl rfl rfl rfl) (Qe rfl Ql) (by rw [QnW (by omega) (by assumption)]; rfl) rfl rfl
      ·omega
      ·first | omega | (simp only; omega) | (dsimp only; omega)
    ·try rw [h4]
     try simp only [qa, qb, qc, qd, qe, List.length_map] at h4
     refine Zh (QJ (Qx (QD (Qd (kp1 rfl) (Qf fun K hK => Qa rfl (Qa rfl ?_))))))
     refine hK _ _ (Qb (kp1 rfl) ?_)
     refine Qu (QG rfl ?_)
     rw [Qmn (by omega) (by omega), show i = min (w[x.u.toNat]'(by omega)).cs.length 16 by omega]
   ·try rw [h3]
    try simp only [qa, qb, qc, qd, qe, List.length_map] at h3
    refine Qt rfl (Qt rfl (Qo rfl rfl ?_))
    refine hK _ _ (Qb (kp5 rfl rfl rfl rfl rfl) ?_)
    refine ZG rfl (Zh (QJ (Qx (QD (Qd (kp1 rfl) (Qf fun K hK => Qa rfl (Qa rfl ?_)))))))
    refine hK _ _ (Qb (kp1 rfl) ?_)
    refine Qu (QG rfl ?_)
    rw [Qmn (by omega) (by omega), show i = min (w[x.u.toNat]'(by omega)).cs.length 16 by omega]
theorem XO {m : Int} : Ok Tryz.prog 39 [.int .i64 m] (Zo (Qbk m)) := by
 refine Ok.ofT ZY Tryz.func39 QrG (Nat.le_of_ble_eq_true rfl) ?_
 show TW _ _ tf39.body _ _
 refine Qf fun K hK => Qa rfl ?_
 refine hK _ _ (Qb (kp1 rfl) ?_)
 refine Qf fun K hK => Qa rfl ?_
 refine hK _ _ (Qb (kp2 rfl rfl) ?_)
 refine QB ?_ -- 0
 refine Qf fun K hK => Qa rfl ?_
 refine hK _ _ (Qb (kp3 rfl rfl rfl) ?_)
 refine Qz ?_
 refine Zj (ι := Nat) (fun i => ⟨[(0, .int .i64 m), (3, .osl 3 (Y9 m i).length), (4, .int .i64 i)], [(3, ⟨(Y9 m i).map (fun x => [.int .i64 x]), 1, 3, true⟩)]⟩) (fun i => i <= 17) (fun i => 17 - i) 0 ?_ ?_ ?_
 ·exact le_trans (Yf 3 3 1 3 rfl rfl) (Q1 (l := [0, 3, 4]) (lH := [3]) (kp3 rfl rfl rfl) (Qe rfl Ql) rfl rfl rfl)
 ·exact Nat.zero_le _
 intro i hI
 have hlen := Qcg m i
 try dsimp only
 refine QB ?_ -- 1
 refine Qf fun K hK => Qa rfl (Qok rfl rfl ?_)
 refine hK _ _ (Qb (kp4 rfl rfl rfl rfl) ?_)
 refine Qw rfl (fun h1 => ?_) (fun h1 => ?_)
 ·try rw [h1]
  try simp only [qa, qb, qc, qd, qe] at h1
  refine Qv (Qd (kp3 rfl rfl rfl) ?_)
  refine QB ?_ -- 2
  refine Qz (Qf fun K hK => Qa rfl (Qa rfl (QI (Y3 (by omega) (by omega)) rfl rfl (.inr rfl) (Qd8 rfl rfl (X8 rfl rfl ?_)))))
  refine hK _ _ (Qb (kp4 rfl rfl rfl rfl) ?_)
  refine Qw rfl (fun h2 => ?_) (fun h2 => ?_)
  ·try rw [h2]
   try simp only [qa, qb, qc, qd, qe] at h2
   refine QL fun K hK => Qa rfl (Qa rfl (QaD rfl rfl (by first | exact Qq (by omega) (by omega) | rfl) (QC rfl rfl (Xe rfl rfl (fun _ h => YY rfl rfl rfl h) rfl (by simp) rfl rfl rfl (by simp; omega) (by simp; omega) (Qa rfl (hK _ ?_))))))
   refine Qg (Qd (kp3 rfl rfl rfl) (QL fun K hK => Qa rfl (Q2 rfl rfl (by first | exact Qq (by omega) (by omega) | rfl) (Qa rfl (hK _ ?_)))))
   refine Qi (i + 1) ?_ ?_ ?_
   ·exact Q1 (l := [0, 3, 4]) (lH := [3]) (kp3 rfl rfl rfl) (Qe rfl Ql) (by first | (rw [XX (m := m) (n := i) h2]; done) | (rw [XX (m := m) (n := i) h2]; rfl) | (rw [XX (m := m) (n := i) h2, List.length_append]; rfl) | (simp [XX (m := m) (n := i) h2]; done) | (simp [XX (m := m) (n := i) h2]; omega) | rfl) (by first | (rw [XX (m := m) (n := i) h2]; done) | (rw [XX (m := m) (n := i) h2]; rfl) | (rw [XX (m := m) (n := i) h2, List.map_append]; rfl) | (simp [XX (m := m) (n := i) h2]; done) | rfl) rfl
   ·omega
   ·first | omega | (simp only; omega) | (dsimp only; omega)
  ·try rw [h2]
   try simp only [qa, qb, qc, qd, qe] at h2
   refine Qv (Qg (Qd (kp3 rfl rfl rfl) (QL fun K hK => Qa rfl (Q2 rfl rfl (by first | exact Qq (by omega) (by omega) | rfl) (Qa rfl (hK _ ?_))))))
   refine Qi (i + 1) ?_ ?_ ?_
   ·exact Q1 (l := [0, 3, 4]) (lH := [3]) (kp3 rfl rfl rfl) (Qe rfl Ql) (by first | (rw [Qa9 (m := m) (n := i) h2]; done) | (rw [Qa9 (m := m) (n := i) h2]; rfl) | (rw [Qa9 (m := m) (n := i) h2, List.length_append]; rfl) | (simp [Qa9 (m := m) (n := i) h2]; done) | (simp [Qa9 (m := m) (n := i) h2]; omega) | rfl) (by first | (rw [Qa9 (m := m) (n := i) h2]; done) | (rw [Qa9 (m := m) (n := i) h2]; rfl) | (rw [Qa9 (m := m) (n := i) h2, List.map_append]; rfl) | (simp [Qa9 (m := m) (n := i) h2]; done) | rfl) rfl
   ·omega
   ·first | omega | (simp only; omega) | (dsimp only; omega)
 ·try rw [h1]
  try simp only [qa, qb, qc, qd, qe] at h1
  refine Zh (QJ (Qx (QD (Qd (kp1 rfl) (Qf fun K hK => Qa rfl (Qa rfl ?_))))))
  refine hK _ _ (Qb (kp1 rfl) ?_)
  refine Qu ?_
  exact Qaz rfl rfl rfl (by simp) (by rw [Qbk, show (17 : Nat) = i by omega]; rfl)
theorem QcE {a b : List TermT} (ha : a.length <= 1000000) : Ok Tryz.prog 19 [ZK a, ZK b] (.bool (decide (a = b))) := by
 refine Ok.ofT ZY Tryz.func19 Qrs (Nat.le_of_ble_eq_true rfl) ?_
 show TW _ _ tf19.body _ _
 refine Qf fun K hK => Qa rfl ?_
 refine hK _ _ (Qb (kp2 rfl rfl) ?_)
 refine QB ?_ -- 0
 refine Qf fun K hK => Qa rfl (QQ rfl rfl (Qa rfl (QQ rfl rfl (X8 rfl rfl ?_))))
 refine hK _ _ (Qb (kp3 rfl rfl rfl) ?_)
 refine Qw rfl (fun h1 => ?_) (fun h1 => ?_)
 ·try rw [h1]
  try simp only [qa, qb, qc, qd, qe, List.length_map] at h1
  refine Qf fun K hK => Qa rfl ?_
  refine hK _ _ (Qb (kp1 rfl) ?_)
  refine Qu (Qj (Qs rfl ?_))
  rw [decide_eq_false fun e => h1 (by rw [e])]
 ·try rw [h1]
  try simp only [qa, qb, qc, qd, qe, List.length_map] at h1
  refine Qv (Qd (kp2 rfl rfl) ?_)
  refine QB ?_ -- 1
  refine Qf fun K hK => Qa rfl ?_
  refine hK _ _ (Qb (kp3 rfl rfl rfl) ?_)
  refine Qz ?_
  refine Zj (ι := Nat) (fun i => ⟨[(0, ZK a), (1, ZK b), (5, .int .i64 i)], []⟩) (fun i => i <= a.length /\ a.take i = b.take i) (fun i => a.length - i) 0 ?_ ?_ ?_
  ·exact Zg (kp3 rfl rfl rfl)
  ·exact ⟨Nat.zero_le _, by simp⟩
  intro i hI
  try dsimp only
  refine QB ?_ -- 2
  refine Qf fun K hK => Qa rfl (Qa rfl (QQ rfl rfl (Z6 rfl rfl ?_)))
  refine hK _ _ (Qb (kp4 rfl rfl rfl rfl) ?_)
  refine Qw rfl (fun h2 => ?_) (fun h2 => ?_)
  ·try rw [h2]
   try simp only [qa, qb, qc, qd, qe, List.length_map] at h2
   refine Qv (Qd (kp3 rfl rfl rfl) ?_)
   refine QB ?_ -- 3
   refine Qz (Qf fun K hK => Qa rfl (Qa rfl (QK rfl rfl rfl (by omega) (QV (by omega)) rfl (QN (ds0 := [0]) (cs := [_, _]) rfl rfl rfl rfl rfl rfl (Qa rfl (Qa rfl (QK rfl rfl rfl (by omega) (QV (by omega)) rfl (QN (ds0 := [0]) (cs := [_, _]) rfl rfl rfl rfl rfl rfl (QpP rfl rfl Qna ?_)))))))))
   refine hK _ _ (Qb (kp4 rfl rfl rfl rfl) ?_)
   refine Qw rfl (fun h3 => ?_) (fun h3 => ?_)
   ·try rw [h3]
    try simp only [qa, qb, qc, qd, qe, List.length_map] at h3
    refine Qf fun K hK => Qa rfl ?_
    refine hK _ _ (Qb (kp1 rfl) ?_)
    refine Qu (Qr (Qj (Q4 (Qr (Qj (Qs rfl ?_))))))
    rw [Qpu (i := i) (by omega) (by omega) h3]
   ·try rw [h3]
    try simp only [qa, qb, qc, qd, qe, List.length_map] at h3
    refine Qv (Qg (Qd (kp3 rfl rfl rfl) (QL fun K hK => Qa rfl (Q2 rfl rfl (by first | exact Qq (by omega) (by omega) | rfl) (Qa rfl (hK _ ?_))))))
    refine Qi (i + 1) ?_ ?_ ?_
    ·exact Zg (kp3 rfl rfl rfl)
    ·exact ⟨by omega, Qm9 (by omega) (by omega) hI.2 h3⟩
    ·first | omega | (simp only; omega) | (dsimp only; omega)
  ·try rw [h2]
   try simp only [qa, qb, qc, qd, qe, List.length_map] at h2
   refine Zh (QJ (Qx (QD (Qd (Q6) (Qf fun K hK => Qa rfl ?_)))))
   refine hK _ _ (Qb (kp1 rfl) ?_)
   refine Qu (Qs rfl ?_)
   rw [List.take_of_length_le (by omega), List.take_of_length_le (by omega)] at hI; exact (decide_eq_true hI.2).symm
end Go.Proofs
namespace Go.Proofs
open Go Go.Abs M3 M25
set_option linter.unusedVariables false
set_option linter.unusedSimpArgs false
theorem QbK {w : Qp} (hw : WSm w) (et : Nat) (het : et = 3) : OkH Tryz.prog 73 [Z1 w] [] (.osl 500000 (QaV w).length) [(500000, ⟨(QaV w).map (fun x => [.int .i64 x]), 1, et, true⟩)] := by
 subst het
 refine OkH.new ZY Tryz.func73 Qsb (Nat.le_of_ble_eq_true rfl) rfl ?_
 show TW _ _ tf73.body _ _
 have hn := hw.len
 refine Qf fun K hK => Zv rfl rfl rfl (Qa rfl ?_)
 refine hK _ _ (Qb (kp1 rfl) ?_)
 refine Qf fun K hK => Qa rfl ?_
 refine hK _ _ (Qb (kp2 rfl rfl) ?_)
 refine QB ?_ -- 0
 refine Qf fun K hK => Qa rfl ?_
 refine hK _ _ (Qb (kp3 rfl rfl rfl) ?_)
 refine Qz ?_
 refine Zj (ι := Nat) (fun i => ⟨[(1, .ref 1 0 0), (3, .osl 500000 (QbQ w i).length), (4, .int .i64 i)], [(1, ⟨[[.sl ((w).map Yn)]], 1, 26, true⟩), (500000, ⟨(QbQ w i).map (fun x => [.int .i64 x]), 1, 3, true⟩)]⟩) (fun i => i <= w.length) (fun i => w.length - i) 0 ?_ ?_ ?_
 ·exact le_trans (Yf 3 500000 1 3 rfl rfl) (Q1 (l := [1, 3, 4]) (lH := [1, 500000]) (kp3 rfl rfl rfl) (Qe rfl (Qe rfl Ql)) rfl rfl rfl)
 ·exact Nat.zero_le _
 intro i hI
 have hlen := Qc3 w i
 try dsimp only
 refine QB ?_ -- 1
 refine Qf fun K hK => Qa rfl (Qh rfl rfl (QA rfl rfl rfl (QQ rfl rfl (Z6 rfl rfl ?_))))
 refine hK _ _ (Qb (kp4 rfl rfl rfl rfl) ?_)
 refine Qw rfl (fun h1 => ?_) (fun h1 => ?_)
 ·try rw [h1]
  try simp only [qa, qb, qc, qd, qe, List.length_map] at h1
  refine Qv (Qd (kp3 rfl rfl rfl) ?_)
  refine QB ?_ -- 2
  refine Qz (QL fun K hK => Qa rfl (QH (cs := [_]) rfl rfl rfl rfl (Qa rfl (QI (ZB hw) rfl rfl (.inr rfl) (QC rfl rfl (Xe rfl rfl (fun _ h => YY rfl rfl rfl h) rfl (by simp) rfl rfl rfl (by simp; omega) (by simp; omega) (Qa rfl (hK _ ?_))))))))
  refine Qg (Qd (kp3 rfl rfl rfl) (QL fun K hK => Qa rfl (Q2 rfl rfl (by first | exact Qq (by omega) (by omega) | rfl) (Qa rfl (hK _ ?_)))))
  refine Qi (i + 1) ?_ ?_ ?_
  ·exact Q1 (l := [1, 3, 4]) (lH := [1, 500000]) (kp3 rfl rfl rfl) (Qe rfl (Qe rfl Ql)) (by first | (rw [XY]; done) | (rw [XY]; rfl) | (rw [XY, List.length_append]; rfl) | (simp [XY]; done) | (simp [XY]; omega) | rfl) (by first | (rw [XY]; done) | (rw [XY]; rfl) | (rw [XY, List.map_append]; rfl) | (simp [XY]; done) | rfl) rfl
  ·omega
  ·first | omega | (simp only; omega) | (dsimp only; omega)
 ·try rw [h1]
  try simp only [qa, qb, qc, qd, qe, List.length_map] at h1
  refine Zh (QJ (Qx (QD (Qd (kp1 rfl) (Qf fun K hK => Qa rfl (Qa rfl ?_))))))
  refine hK _ _ (Qb (kp1 rfl) ?_)
  refine Qu ?_
  refine YA rfl ?_ (Qcc ?_)
  ·rw [QaV, show w.length = i by omega]; rfl
  ·rw [QaV, show w.length = i by omega]; rfl
theorem QcF {w : Qp} (hw : WSm w) {ms : List Int} (hm : ms.length <= 1000000) : Ok Tryz.prog 74 [Z1 w, Zo ms] (dOT (QiA w ms)) := by
 refine Ok.ofT ZY Tryz.func74 Qsc (Nat.le_of_ble_eq_true rfl) ?_
 show TW _ _ tf74.body _ _
 refine Qf fun K hK => Zv rfl rfl rfl (Qa rfl (Qa rfl ?_))
 refine hK _ _ (Qb (kp2 rfl rfl) ?_)
 refine Qf fun K hK => Qa rfl ?_
 refine hK _ _ (Qb (kp3 rfl rfl rfl) ?_)
 refine QB ?_ -- 0
 refine Qf fun K hK => Qa rfl ?_
 refine hK _ _ (Qb (kp4 rfl rfl rfl rfl) ?_)
 refine Qz ?_
 refine Zj (ι := Nat) (fun i => ⟨[(1, Zo ms), (2, .ref 2 0 0), (6, .osl 6 (Xu w ms i).length), (7, .int .i64 i)], [(2, ⟨[[.sl ((w).map Yn)]], 1, 26, true⟩), (6, ⟨(Xu w ms i).map Qdr, 2, 56, true⟩)]⟩) (fun i => i <= ms.length /\ (ms.take i).all (fun m => !decide (m = 0)) = true) (fun i => ms.length - i) 0 ?_ ?_ ?_
 ·exact le_trans (Yf 6 6 2 56 rfl rfl) (Q1 (l := [1, 2, 6, 7]) (lH := [2, 6]) (kp4 rfl rfl rfl rfl) (Qe rfl (Qe rfl Ql)) rfl rfl rfl)
 ·exact ⟨Nat.zero_le _, by simp⟩
 intro i hI
 have hlen := QgK w ms i
 try dsimp only
 refine QB ?_ -- 1
 refine Qf fun K hK => Qa rfl (Qa rfl (QQ rfl rfl (Z6 rfl rfl ?_)))
 refine hK _ _ (Qb (kp5 rfl rfl rfl rfl rfl) ?_)
 refine Qw rfl (fun h1 => ?_) (fun h1 => ?_)
 ·try rw [h1]
  try simp only [qa, qb, qc, qd, qe, List.length_map] at h1
  refine Qv (Qd (kp4 rfl rfl rfl rfl) ?_)
  refine QB ?_ -- 2
  refine Qz ?_
  refine QB ?_ -- 3
  refine Qf fun K hK => Qa rfl (Qa rfl (QK rfl rfl rfl (by omega) (QV (by omega)) rfl (QA rfl rfl rfl (ZO rfl rfl ?_))))
  refine hK _ _ (Qb (kp5 rfl rfl rfl rfl rfl) ?_)
  refine Qw rfl (fun h2 => ?_) (fun h2 => ?_)
  ·try rw [h2]
   try simp only [qa, qb, qc, qd, qe, List.length_map] at h2
   refine Qf fun K hK => Qa rfl (Qa rfl ?_)
   refine hK _ _ (Qb (kp2 rfl rfl) ?_)
   refine Qu (Qj (Qr (Qj (Q4 (Qr (Qj ?_))))))
   rw [Qlj (i := i) (by omega) h2]
   exact QS rfl rfl ⟨rfl, rfl⟩
  ·try rw [h2]
   try simp only [qa, qb, qc, qd, qe, List.length_map] at h2
   refine Qv (Qd (kp4 rfl rfl rfl rfl) (Qf fun K hK => Qa rfl (Qa rfl (QK rfl rfl rfl (by omega) (QV (by omega)) rfl (QU (ds0 := [0]) rfl rfl rfl rfl rfl (QN (ds0 := [1, 0]) (cs := [_]) rfl rfl rfl rfl rfl rfl (Qa rfl (QT (ds0 := [0]) (ZB hw) rfl rfl (.inr rfl) rfl rfl (X8 rfl rfl ?_)))))))))
   refine hK _ _ (Qb (kp5 rfl rfl rfl rfl rfl) ?_)
   refine Qw rfl (fun h3 => ?_) (fun h3 => ?_)
   ·try rw [h3]
    try simp only [qa, qb, qc, qd, qe, List.length_map] at h3
    refine QL fun K hK => Qa rfl (Qa rfl (Qa rfl (Qa rfl (QK rfl rfl rfl (by omega) (QV (by omega)) rfl (QA rfl rfl rfl (QX rfl rfl (QC rfl rfl (Xe rfl rfl (fun _ h => YY rfl rfl rfl h) rfl (by simp) rfl rfl rfl (by simp; omega) (by simp; omega) (Qa rfl (hK _ ?_))))))))))
    refine Qg (Qd (kp4 rfl rfl rfl rfl) (QL fun K hK => Qa rfl (Q2 rfl rfl (by first | exact Qq (by omega) (by omega) | rfl) (Qa rfl (hK _ ?_)))))
    refine Qi (i + 1) ?_ ?_ ?_
    ·exact Q1 (l := [1, 2, 6, 7]) (lH := [2, 6]) (kp4 rfl rfl rfl rfl) (Qe rfl (Qe rfl Ql)) (by first | (rw [X0 (by omega) h3]; done) | (rw [X0 (by omega) h3]; rfl) | (rw [X0 (by omega) h3, List.length_append]; rfl) | (simp [X0 (by omega) h3]; done) | (simp [X0 (by omega) h3]; omega) | rfl) (by first | (rw [X0 (by omega) h3]; done) | (rw [X0 (by omega) h3]; rfl) | (rw [X0 (by omega) h3, List.map_append]; rfl) | (simp [X0 (by omega) h3]; done) | rfl) rfl
    ·exact ⟨by omega, Ya (by omega) hI.2 (by simpa using h2)⟩
    ·first | omega | (simp only; omega) | (dsimp only; omega)
   ·try rw [h3]
    try simp only [qa, qb, qc, qd, qe, List.length_map] at h3
    refine Qv (Qg (Qd (kp4 rfl rfl rfl rfl) (QL fun K hK => Qa rfl (Q2 rfl rfl (by first | exact Qq (by omega) (by omega) | rfl) (Qa rfl (hK _ ?_))))))
    refine Qi (i + 1) ?_ ?_ ?_
    ·exact Q1 (l := [1, 2, 6, 7]) (lH := [2, 6]) (kp4 rfl rfl rfl rfl) (Qe rfl (Qe rfl Ql)) (by first | (rw [Qbl (by omega) h3]; done) | (rw [Qbl (by omega) h3]; rfl) | (rw [Qbl (by omega) h3, List.length_append]; rfl) | (simp [Qbl (by omega) h3]; done) | (simp [Qbl (by omega) h3]; omega) | rfl) (by first | (rw [Qbl (by omega) h3]; done) | (rw [Qbl (by omega) h3]; rfl) | (rw [Qbl (by omega) h3, List.map_append]; rfl) | (simp [Qbl (by omega) h3]; done) | rfl) rfl
    ·exact ⟨by omega, Ya (by omega) hI.2 (by simpa using h2)⟩
    ·first | omega | (simp only; omega) | (dsimp only; omega)
 ·try rw [h1]
  try simp only [qa, qb, qc, qd, qe, List.length_map] at h1
  refine Zh (QJ (Qx (QD (Qd (kp1 rfl) (Qf fun K hK => Qa rfl (Qa rfl (Qa rfl ?_)))))))
  refine hK _ _ (Qb (kp2 rfl rfl) ?_)
  refine Qu ?_
  rw [Qml (i := i) (by omega) hI.2]
  exact Qf2 rfl rfl rfl (by simp) (by show D.sl _ = ZK (Xu w ms ms.length); rw [show ms.length = i by omega]; rfl) rfl rfl
theorem XP {w : Qp} (hw : WSm w) {l : List TermT} (hl : l.length <= 2000000) : Ok Tryz.prog 52 [Z1 w, ZK l] (dOT (QcS w l)) := by
 refine Ok.ofT ZY Tryz.func52 QrR (Nat.le_of_ble_eq_true rfl) ?_
 show TW _ _ tf52.body _ _
 have hn := hw.len
 refine Qf fun K hK => Zv rfl rfl rfl (Qa rfl (Qa rfl ?_))
 refine hK _ _ (Qb (kp2 rfl rfl) ?_)
 refine Qf fun K hK => QH (cs := [_]) rfl rfl rfl rfl (Yj (Qj1 rfl (by intro x hx; simp at hx; subst hx; rfl) rfl rfl rfl (QbK hw _ rfl)) (Qa rfl ?_))
 refine hK _ _ (Qb (kp3 rfl rfl rfl) ?_)
 refine Qfj (ι := Unit) (fun _ => ⟨[(2, .ref 2 0 0), (6, Zo (Xt (QaV w) l))], [(2, ⟨[[.sl ((w).map Yn)]], 1, 26, true⟩)]⟩) (fun _ => l.all (fun t => inW w t.u) = true) ?_ ?_
 ·skip
  refine Qf fun K hK => Qa rfl ?_
  refine hK _ _ (Qb (kp4 rfl rfl rfl rfl) ?_)
  refine Qz ?_
  refine Zj (ι := Nat) (fun i => ⟨[(1, ZK l), (2, .ref 2 0 0), (6, .osl 500000 (Xt (QaV w) (l.take i)).length), (7, .int .i64 i)], [(2, ⟨[[.sl ((w).map Yn)]], 1, 26, true⟩), (500000, ⟨(Xt (QaV w) (l.take i)).map (fun x => [.int .i64 x]), 1, 3, true⟩)]⟩) (fun i => i <= l.length /\ (l.take i).all (fun t => inW w t.u) = true) (fun i => l.length - i) 0 ?_ ?_ ?_
  ·exact Q1 (l := [1, 2, 6, 7]) (lH := [2, 500000]) (kp4 rfl rfl rfl rfl) (Qe rfl (Qe rfl Ql)) rfl rfl rfl
  ·exact ⟨Nat.zero_le _, by simp⟩
  intro i hI
  have hlen := Qfz w (l.take i)
  try dsimp only
  refine QB ?_ -- 1
  refine Qf fun K hK => Qa rfl (Qa rfl (QQ rfl rfl (Z6 rfl rfl ?_)))
  refine hK _ _ (Qb (kp5 rfl rfl rfl rfl rfl) ?_)
  refine Qw rfl (fun h1 => ?_) (fun h1 => ?_)
  ·try rw [h1]
   try simp only [qa, qb, qc, qd, qe, List.length_map] at h1
   refine Qv (Qd (kp4 rfl rfl rfl rfl) ?_)
   refine QB ?_ -- 2
   refine Qz ?_
   refine QB ?_ -- 3
   refine Qf fun K hK => Qa rfl (Qa rfl (QK rfl rfl rfl (by omega) (QV (by omega)) rfl (Q9 rfl rfl (QA rfl rfl rfl (Z6 rfl rfl (Qa rfl ?_))))))
   refine QE (g := 22) rfl (fun h2 => ?_) (fun h2 => ?_)
   ·try rw [h2]
    try simp only [qa, qb, qc, qd, qe, List.length_map] at h2
    refine Qt rfl (Qt rfl (Qt rfl (Qt rfl (Qt rfl (Qt rfl (Qt rfl (Qt rfl (Qo rfl rfl ?_))))))))
    refine hK _ _ (Qb (kp5 rfl rfl rfl rfl rfl) ?_)
    refine Zt rfl (Qf fun K hK => Qa rfl (Qa rfl ?_))
    refine hK _ _ (Qb (kp2 rfl rfl) ?_)
    refine Qu (Qj (Qr (Qj (Q4 (Qr (QdA ?_))))))
    rw [QgI (i := i) (by omega) (Qbe (by omega))]
    exact QS rfl rfl ⟨rfl, rfl⟩
   ·try rw [h2]
    try simp only [qa, qb, qc, qd, qe, List.length_map] at h2
    refine Qk rfl (Qa rfl (Qk rfl (Qa rfl (Qk rfl (QK rfl rfl rfl (by omega) (QV (by omega)) rfl (Qk rfl (Q9 rfl rfl (Qk rfl (QA rfl rfl rfl (Qk rfl (Qa rfl ?_)))))))))))
    refine Qk rfl (QQ rfl rfl (Qk rfl (QeS rfl rfl (Qo rfl rfl ?_))))
    refine hK _ _ (Qb (kp5 rfl rfl rfl rfl rfl) ?_)
    refine Qw rfl (fun h3 => ?_) (fun h3 => ?_)
    ·try rw [h3]
     try simp only [qa, qb, qc, qd, qe, List.length_map] at h3
     refine Qf fun K hK => Qa rfl (Qa rfl ?_)
     refine hK _ _ (Qb (kp2 rfl rfl) ?_)
     refine Qu (Qj (Qr (Qj (Q4 (Qr (QdA ?_))))))
     rw [QgI (i := i) (by omega) (Qbe (by omega))]
     exact QS rfl rfl ⟨rfl, rfl⟩
    ·try rw [h3]
     try simp only [qa, qb, qc, qd, qe, List.length_map] at h3
     refine Qv (Qd (kp4 rfl rfl rfl rfl) (QL fun K hK => Qa rfl (Qa rfl (Qa rfl (QK rfl rfl rfl (by omega) (QV (by omega)) rfl (Q9 rfl rfl (QU (ds0 := [1, 0]) rfl rfl rfl rfl rfl (Qa rfl (Qa rfl (Qa rfl ?_))))))))))
     refine QK rfl rfl rfl (by omega) (QV (by omega)) rfl (Q9 rfl rfl (QU (ds0 := [9, 8, 2, 0]) rfl rfl rfl rfl rfl (XG (ds0 := [8, 2, 0]) rfl rfl rfl (by simp) (by omega) (by omega) rfl rfl rfl (QU (ds0 := [2, 0]) rfl (Z7 rfl (ZE (by omega) (by omega))) rfl rfl rfl (Qa rfl (Qa rfl (QK rfl rfl rfl (by omega) (QV (by omega)) rfl (Q9 rfl rfl (QU (ds0 := [2, 0]) rfl rfl rfl rfl rfl (Qd8 rfl rfl (XG (ds0 := [0]) rfl rfl rfl (by simp) (by omega) (by omega) rfl rfl rfl ?_)))))))))))
     refine YZ (ds0 := []) rfl rfl (ZE (by omega) (by omega)) rfl rfl rfl rfl rfl rfl rfl (hK _ ?_)
     refine Qg (Qd (kp4 rfl rfl rfl rfl) (QL fun K hK => Qa rfl (Q2 rfl rfl (by first | exact Qq (by omega) (by omega) | rfl) (Qa rfl (hK _ ?_)))))
     refine Qi (i + 1) ?_ ?_ ?_
     ·exact Q1 (l := [1, 2, 6, 7]) (lH := [2, 500000]) (kp4 rfl rfl rfl rfl) (Qe rfl (Qe rfl Ql)) (by rw [Qku (by omega) (by omega), List.length_set]; rfl) (by rw [Qku (by omega) (by omega), List.map_set]; rfl) rfl
     ·exact ⟨by omega, Ya (by omega) hI.2 (QfH (by omega) (by omega))⟩
     ·first | omega | (simp only; omega) | (dsimp only; omega)
  ·try rw [h1]
   try simp only [qa, qb, qc, qd, qe, List.length_map] at h1
   refine Zh (QJ (Qx (QD ?_)))
   refine ZQ () ?_ ?_
   ·exact le_trans (QfI (l := [2]) (lH := [2]) 500000 6 (kp1 rfl) (Qe rfl Ql) rfl rfl rfl (by first | (simp; done) | (simp; omega)) rfl rfl rfl rfl) (Q1 (l := [2, 6]) (lH := [2]) (kp2 rfl rfl) (Qe rfl Ql) (by rw [List.take_of_length_le (show l.length <= i by omega)]; rfl) rfl rfl)
   ·exact Xx (by omega) hI.2
 intro _ hJ
 try dsimp only
 refine Qf fun K hK => QH (cs := [_]) rfl rfl rfl rfl (Qa rfl (QI (QcF hw (by rw [Qfz]; omega)) rfl rfl (.inl rfl) (QR rfl rfl (QR rfl rfl (Qa rfl (Qa rfl ?_))))))
 refine hK _ _ (Qb (kp2 rfl rfl) ?_)
 refine Qu ?_
 rw [Qmm hJ]
 exact QS rfl rfl ⟨rfl, rfl⟩
theorem Y4 {l : List TermT} (hl : l.length <= 2000000) {u : Int} : Ok Tryz.prog 90 [ZK l, .int .i64 u] (ZK (QgE l u)) := by
 refine Ok.ofT ZY Tryz.func90 Qss (Nat.le_of_ble_eq_true rfl) ?_
 show TW _ _ tf90.body _ _
 refine Qf fun K hK => Qa rfl ?_
 refine hK _ _ (Qb (kp2 rfl rfl) ?_)
 refine Qf fun K hK => Qa rfl ?_
 refine hK _ _ (Qb (kp3 rfl rfl rfl) ?_)
 refine QB ?_ -- 0
 refine Qf fun K hK => Qa rfl ?_
 refine hK _ _ (Qb (kp4 rfl rfl rfl rfl) ?_)
 refine Qz ?_
 refine Zj (ι := Nat) (fun i => ⟨[(0, ZK l), (1, .int .i64 u), (5, .osl 5 (QgE (l.take i) u).length), (6, .int .i64 i)], [(5, ⟨(QgE (l.take i) u).map Qdr, 2, 56, true⟩)]⟩) (fun i => i <= l.length) (fun i => l.length - i) 0 ?_ ?_ ?_
 ·exact le_trans (Yf 5 5 2 56 rfl rfl) (Q1 (l := [0, 1, 5, 6]) (lH := [5]) (kp4 rfl rfl rfl rfl) (Qe rfl Ql) rfl rfl rfl)
 ·exact Nat.zero_le _
 intro i hI
 have hlen := Qnt l u i
 try dsimp only
 refine QB ?_ -- 1
 refine Qf fun K hK => Qa rfl (Qa rfl (QQ rfl rfl (Z6 rfl rfl ?_)))
 refine hK _ _ (Qb (kp5 rfl rfl rfl rfl rfl) ?_)
 refine Qw rfl (fun h1 => ?_) (fun h1 => ?_)
 ·try rw [h1]
  try simp only [qa, qb, qc, qd, qe, List.length_map] at h1
  refine Qv (Qd (kp4 rfl rfl rfl rfl) ?_)
  refine QB ?_ -- 2
  refine Qz (Qf fun K hK => Qa rfl (Qa rfl (QK rfl rfl rfl (by omega) (QV (by omega)) rfl (Q9 rfl rfl (QA rfl rfl rfl (Qa rfl (X8 rfl rfl ?_)))))))
  refine hK _ _ (Qb (kp5 rfl rfl rfl rfl rfl) ?_)
  refine Qw rfl (fun h2 => ?_) (fun h2 => ?_)
  ·try rw [h2]
   try simp only [qa, qb, qc, qd, qe, List.length_map] at h2
   refine QL fun K hK => Qa rfl (Qa rfl (Qa rfl (QK rfl rfl rfl (by omega) (QV (by omega)) rfl (QH (cs := [_, _]) rfl rfl rfl rfl (QC rfl rfl (Xe rfl rfl (fun _ h => YY rfl rfl rfl h) rfl (by simp) rfl rfl rfl (by simp; omega) (by simp; omega) (Qa rfl (hK _ ?_))))))))
   refine Qg (Qd (kp4 rfl rfl rfl rfl) (QL fun K hK => Qa rfl (Q2 rfl rfl (by first | exact Qq (by omega) (by omega) | rfl) (Qa rfl (hK _ ?_)))))
   refine Qi (i + 1) ?_ ?_ ?_
   ·exact Q1 (l := [0, 1, 5, 6]) (lH := [5]) (kp4 rfl rfl rfl rfl) (Qe rfl Ql) (by first | (rw [Qa3 (by omega) h2]; done) | (rw [Qa3 (by omega) h2]; rfl) | (rw [Qa3 (by omega) h2, List.length_append]; rfl) | (simp [Qa3 (by omega) h2]; done) | (simp [Qa3 (by omega) h2]; omega) | rfl) (by first | (rw [Qa3 (by omega) h2]; done) | (rw [Qa3 (by omega) h2]; rfl) | (rw [Qa3 (by omega) h2, List.map_append]; rfl) | (simp [Qa3 (by omega) h2]; done) | rfl) rfl
   ·omega
   ·first | omega | (simp only; omega) | (dsimp only; omega)
  ·try rw [h2]
   try simp only [qa, qb, qc, qd, qe, List.length_map] at h2
   refine Qv (Qg (Qd (kp4 rfl rfl rfl rfl) (QL fun K hK => Qa rfl (Q2 rfl rfl (by first | exact Qq (by omega) (by omega) | rfl) (Qa rfl (hK _ ?_))))))
   refine Qi (i + 1) ?_ ?_ ?_
   ·exact Q1 (l := [0, 1, 5, 6]) (lH := [5]) (kp4 rfl rfl rfl rfl) (Qe rfl Ql) (by first | (rw [Qdi (by omega) h2]; done) | (rw [Qdi (by omega) h2]; rfl) | (rw [Qdi (by omega) h2, List.length_append]; rfl) | (simp [Qdi (by omega) h2]; done) | (simp [Qdi (by omega) h2]; omega) | rfl) (by first | (rw [Qdi (by omega) h2]; done) | (rw [Qdi (by omega) h2]; rfl) | (rw [Qdi (by omega) h2, List.map_append]; rfl) | (simp [Qdi (by omega) h2]; done) | rfl) rfl
   ·omega
   ·first | omega | (simp only; omega) | (dsimp only; omega)
 ·try rw [h1]
  try simp only [qa, qb, qc, qd, qe, List.length_map] at h1
  refine Zh (QJ (Qx (QD (Qd (kp1 rfl) (Qf fun K hK => Qa rfl (Qa rfl ?_))))))
  refine hK _ _ (Qb (kp1 rfl) ?_)
  refine Qu ?_
  exact Qaz rfl rfl rfl (by simp) (by rw [List.take_of_length_le (show l.length <= i by omega)]; rfl)
theorem QbB {l : List TermT} (hl : l.length <= 3000000) : Ok Tryz.prog 91 [ZK l] (ZK (QhA l)) := by
 refine Ok.ofT ZY Tryz.func91 Qst (Nat.le_of_ble_eq_true rfl) ?_
 show TW _ _ tf91.body _ _
 refine Qf fun K hK => Qa rfl ?_
 refine hK _ _ (Qb (kp1 rfl) ?_)
 refine Qf fun K hK => Qa rfl ?_
 refine hK _ _ (Qb (kp2 rfl rfl) ?_)
 refine QB ?_ -- 0
 refine Qf fun K hK => Qa rfl ?_
 refine hK _ _ (Qb (kp3 rfl rfl rfl) ?_)
 refine Qz ?_
 refine Zj (ι := Nat) (fun u => ⟨[(0, ZK l), (3, .osl 3 (Yp l u).length), (4, .int .i64 u)], [(3, ⟨(Yp l u).map Qdr, 2, 56, true⟩)]⟩) (fun u => u <= 48) (fun u => 48 - u) 0 ?_ ?_ ?_
 ·exact le_trans (Yf 3 3 2 56 rfl rfl) (Q1 (l := [0, 3, 4]) (lH := [3]) (kp3 rfl rfl rfl) (Qe rfl Ql) rfl rfl rfl)
 ·exact Nat.zero_le _
 intro u hU
 have hlen2 : u * l.length <= 48 * 3000000 := Nat.mul_le_mul (by omega) hl
 try dsimp only
 refine QB ?_ -- 1
 refine Qf fun K hK => Qa rfl (Z6 rfl rfl ?_)
 refine hK _ _ (Qb (kp4 rfl rfl rfl rfl) ?_)
 refine Qw rfl (fun h1 => ?_) (fun h1 => ?_)
 ·try rw [h1]
  try simp only [qa, qb, qc, qd, qe, List.length_map] at h1
  refine Qv (Qd (kp3 rfl rfl rfl) ?_)
  refine QB ?_ -- 2
  refine Qz (Qf fun K hK => Qa rfl ?_)
  refine hK _ _ (Qb (kp4 rfl rfl rfl rfl) ?_)
  refine Qz ?_
  refine Zj (ι := Nat) (fun i => ⟨[(0, ZK l), (3, .osl 3 (srt l u i).length), (4, .int .i64 u), (5, .int .i64 i)], [(3, ⟨(srt l u i).map Qdr, 2, 56, true⟩)]⟩) (fun i => i <= l.length) (fun i => l.length - i) 0 ?_ ?_ ?_
  ·exact Q1 (l := [0, 3, 4, 5]) (lH := [3]) (kp4 rfl rfl rfl rfl) (Qe rfl Ql) (by first | (rw [X4]; done) | (rw [X4]; rfl) | (rw [X4, List.length_append]; rfl) | (simp [X4]; done) | (simp [X4]; omega) | rfl) (by first | (rw [X4]; done) | (rw [X4]; rfl) | (rw [X4, List.map_append]; rfl) | (simp [X4]; done) | rfl) rfl
  ·exact Nat.zero_le _
  intro i hI
  have hlen3 := Qpw l u i
  try dsimp only
  refine QB ?_ -- 3
  refine Qf fun K hK => Qa rfl (Qa rfl (QQ rfl rfl (Z6 rfl rfl ?_)))
  refine hK _ _ (Qb (kp5 rfl rfl rfl rfl rfl) ?_)
  refine Qw rfl (fun h2 => ?_) (fun h2 => ?_)
  ·try rw [h2]
   try simp only [qa, qb, qc, qd, qe, List.length_map] at h2
   refine Qv (Qd (kp4 rfl rfl rfl rfl) ?_)
   refine QB ?_ -- 4
   refine Qz (Qf fun K hK => Qa rfl (Qa rfl (QK rfl rfl rfl (by omega) (QV (by omega)) rfl (Q9 rfl rfl (QA rfl rfl rfl (Qa rfl (ZO rfl rfl ?_)))))))
   refine hK _ _ (Qb (kp5 rfl rfl rfl rfl rfl) ?_)
   refine Qw rfl (fun h3 => ?_) (fun h3 => ?_)
   ·try rw [h3]
    try simp only [qa, qb, qc, qd, qe, List.length_map] at h3
    refine QL fun K hK => Qa rfl (Qa rfl (Qa rfl (QK rfl rfl rfl (by omega) (QV (by omega)) rfl (QH (cs := [_, _]) rfl rfl rfl rfl (QC rfl rfl (Xe rfl rfl (fun _ h => YY rfl rfl rfl h) rfl (by simp) rfl rfl rfl (by simp; omega) (by simp; omega) (Qa rfl (hK _ ?_))))))))
    refine Qg (Qd (kp4 rfl rfl rfl rfl) (QL fun K hK => Qa rfl (Q2 rfl rfl (by first | exact Qq (by omega) (by omega) | rfl) (Qa rfl (hK _ ?_)))))
    refine Qi (i + 1) ?_ ?_ ?_
    ·exact Q1 (l := [0, 3, 4, 5]) (lH := [3]) (kp4 rfl rfl rfl rfl) (Qe rfl Ql) (by first | (rw [Qbr (by omega) h3]; done) | (rw [Qbr (by omega) h3]; rfl) | (rw [Qbr (by omega) h3, List.length_append]; rfl) | (simp [Qbr (by omega) h3]; done) | (simp [Qbr (by omega) h3]; omega) | rfl) (by first | (rw [Qbr (by omega) h3]; done) | (rw [Qbr (by omega) h3]; rfl) | (rw [Qbr (by omega) h3, List.map_append]; rfl) | (simp [Qbr (by omega) h3]; done) | rfl) rfl
    ·omega
    ·first | omega | (simp only; omega) | (dsimp only; omega)
   ·try rw [h3]
    try simp only [qa, qb, qc, qd, qe, List.length_map] at h3
    refine Qv (Qg (Qd (kp4 rfl rfl rfl rfl) (QL fun K hK => Qa rfl (Q2 rfl rfl (by first | exact Qq (by omega) (by omega) | rfl) (Qa rfl (hK _ ?_))))))
    refine Qi (i + 1) ?_ ?_ ?_
    ·exact Q1 (l := [0, 3, 4, 5]) (lH := [3]) (kp4 rfl rfl rfl rfl) (Qe rfl Ql) (by first | (rw [Qd3 (by omega) h3]; done) | (rw [Qd3 (by omega) h3]; rfl) | (rw [Qd3 (by omega) h3, List.length_append]; rfl) | (simp [Qd3 (by omega) h3]; done) | (simp [Qd3 (by omega) h3]; omega) | rfl) (by first | (rw [Qd3 (by omega) h3]; done) | (rw [Qd3 (by omega) h3]; rfl) | (rw [Qd3 (by omega) h3, List.map_append]; rfl) | (simp [Qd3 (by omega) h3]; done) | rfl) rfl
    ·omega
    ·first | omega | (simp only; omega) | (dsimp only; omega)
  ·try rw [h2]
   try simp only [qa, qb, qc, qd, qe, List.length_map] at h2
   refine Zh (QJ (Qx (QD (Qg (Qd (kp3 rfl rfl rfl) (QL fun K hK => Qa rfl (Q2 rfl rfl (by first | exact Qq (by omega) (by omega) | rfl) (Qa rfl (hK _ ?_)))))))))
   refine Qi (u + 1) ?_ ?_ ?_
   ·exact Q1 (l := [0, 3, 4]) (lH := [3]) (kp3 rfl rfl rfl) (Qe rfl Ql) (by first | (rw [Qbq l u (show l.length = i by omega)]; done) | (rw [Qbq l u (show l.length = i by omega)]; rfl) | (rw [Qbq l u (show l.length = i by omega), List.length_append]; rfl) | (simp [Qbq l u (show l.length = i by omega)]; done) | (simp [Qbq l u (show l.length = i by omega)]; omega) | rfl) (by first | (rw [Qbq l u (show l.length = i by omega)]; done) | (rw [Qbq l u (show l.length = i by omega)]; rfl) | (rw [Qbq l u (show l.length = i by omega), List.map_append]; rfl) | (simp [Qbq l u (show l.length = i by omega)]; done) | rfl) rfl
   ·omega
   ·first | omega | (simp only; omega) | (dsimp only; omega)
 ·try rw [h1]
  try simp only [qa, qb, qc, qd, qe, List.length_map] at h1
  refine Zh (QJ (Qx (QD (Qd (kp1 rfl) (Qf fun K hK => Qa rfl (Qa rfl ?_))))))
  refine hK _ _ (Qb (kp1 rfl) ?_)
  refine Qu ?_
  exact Qaz rfl rfl rfl (by simp) (by rw [QhA, show (48 : Nat) = u by omega]; rfl)
theorem Xp {w : Qp} (hw : WSm w) {u : Int} {p : Nat} (hp : p <= 60) {l : List WantT} (hl : l.length <= 1000000) (hx : ∀ x ∈ l, Sm x.s.1 /\ Sm x.s.2) {bar : Bool} : Ok Tryz.prog 71 [Z1 w, .int .i64 u, .int .i64 (p : Nat), Za l, .bool bar] (dOT (Yk w u p l bar)) := by
 refine Ok.ofT ZY Tryz.func71 Qr9 (Nat.le_of_ble_eq_true rfl) ?_
 show TW _ _ tf71.body _ _
 refine Qf fun K hK => Zv rfl rfl rfl (Qa rfl (Qa rfl ?_))
 refine hK _ _ (Qb (kp5 rfl rfl rfl rfl rfl) ?_)
 refine Qf fun K hK => Qa rfl (QH (cs := [_]) rfl rfl rfl rfl (Qa rfl (QI (ZB hw) rfl rfl (.inr rfl) (Qa rfl (QhX rfl (Qfh (by omega) (by omega)) (QoT rfl rfl (by omega) (Qne hp) (Qd8 rfl rfl (QX rfl rfl (QC rfl rfl (Qa rfl ?_))))))))))
 refine hK _ _ (Qb (kp4 rfl rfl rfl rfl) ?_)
 refine Qfj (ι := Unit) (fun _ => ⟨[(5, .ref 5 0 0), (12, ZK (clT w u p bar l))], [(5, ⟨[[.sl ((w).map Yn)]], 1, 26, true⟩)]⟩) (fun _ => True) ?_ ?_
 ·skip
  refine Qf fun K hK => Qa rfl ?_
  refine hK _ _ (Qb (kp5 rfl rfl rfl rfl rfl) ?_)
  refine Qz ?_
  refine Zj (ι := Nat) (fun i => ⟨[(3, Za l), (4, .bool bar), (5, .ref 5 0 0), (12, .osl 24 (clT w u p bar (l.take i)).length), (13, .int .i64 i)], [(5, ⟨[[.sl ((w).map Yn)]], 1, 26, true⟩), (24, ⟨(clT w u p bar (l.take i)).map Qdr, 2, 56, true⟩)]⟩) (fun i => i <= l.length) (fun i => l.length - i) 0 ?_ ?_ ?_
  ·exact Q1 (l := [3, 4, 5, 12, 13]) (lH := [5, 24]) (kp5 rfl rfl rfl rfl rfl) (Qe rfl (Qe rfl Ql)) rfl rfl rfl
  ·exact Nat.zero_le _
  intro i hI
  have hlen := QlK w u p bar (l.take i)
  have hlen2 : (l.take i).length <= l.length := List.length_take_le' ..
  try dsimp only
  refine QB ?_ -- 1
  refine Qf fun K hK => Qa rfl (Qa rfl (QQ rfl rfl (Z6 rfl rfl ?_)))
  refine hK _ _ (Qb (kp6 rfl rfl rfl rfl rfl rfl) ?_)
  refine Qw rfl (fun h1 => ?_) (fun h1 => ?_)
  ·try rw [h1]
   try simp only [qa, qb, qc, qd, qe, List.length_map] at h1
   refine Qv (Qd (kp5 rfl rfl rfl rfl rfl) ?_)
   refine QB ?_ -- 2
   refine Qz (Qf fun K hK => QN (ds0 := [1, 0]) (cs := [_]) rfl rfl rfl rfl rfl rfl (Qa rfl (Qa rfl (QK rfl rfl rfl (by omega) (QV (by omega)) rfl (QN (ds0 := [1, 0]) (cs := [_, _, _]) rfl rfl rfl rfl rfl rfl (QT (ds0 := [0]) (QcV hw (hx _ (List.getElem_mem (by omega)))) rfl rfl (.inr rfl) rfl rfl (Qa rfl ?_)))))))
   refine hK _ _ (Qb (kp6 rfl rfl rfl rfl rfl rfl) ?_)
   refine QB ?_ -- 3
   refine Qf fun K hK => Qa rfl (Ym rfl ?_)
   refine hK _ _ (Qb (kp7 rfl rfl rfl rfl rfl rfl rfl) ?_)
   refine Qw rfl (fun h2 => ?_) (fun h2 => ?_)
   ·try rw [h2]
    try simp only [qa, qb, qc, qd, qe, List.length_map] at h2
    refine QL fun K hK => QN (ds0 := [3, 1, 0]) (cs := [_]) rfl rfl rfl rfl rfl rfl (Qa rfl (Qa rfl (QK rfl rfl rfl (by omega) (QV (by omega)) rfl (Q9 rfl rfl (QU (ds0 := [3, 1, 0]) rfl rfl rfl rfl rfl (QT (ds0 := [1, 0]) (ZB hw) rfl rfl (.inr rfl) rfl rfl (Qa rfl (QaD rfl rfl (QpB w _ _) (Qa rfl (hK _ ?_))))))))))
    refine Qd (kp6 rfl rfl rfl rfl rfl rfl) (QL fun K hK => Qa rfl (Qa rfl (Qa rfl (QK rfl rfl rfl (by omega) (QV (by omega)) rfl (Q9 rfl rfl (QA rfl rfl rfl (Qa rfl (QX rfl rfl (QC rfl rfl (Xe rfl rfl (fun _ h => YY rfl rfl rfl h) rfl (by simp) rfl rfl rfl (by simp; omega) (by simp; omega) ?_))))))))))
    refine Qa rfl (hK _ ?_)
    refine Qg (Qd (kp5 rfl rfl rfl rfl rfl) (QL fun K hK => Qa rfl (Q2 rfl rfl (by first | exact Qq (by omega) (by omega) | rfl) (Qa rfl (hK _ ?_)))))
    refine Qi (i + 1) ?_ ?_ ?_
    ·exact Q1 (l := [3, 4, 5, 12, 13]) (lH := [5, 24]) (kp5 rfl rfl rfl rfl rfl) (Qe rfl (Qe rfl Ql)) (by first | (rw [Qa7 (by omega) h2]; done) | (rw [Qa7 (by omega) h2]; rfl) | (rw [Qa7 (by omega) h2, List.length_append]; rfl) | (simp [Qa7 (by omega) h2]; done) | (simp [Qa7 (by omega) h2]; omega) | rfl) (by first | (rw [Qa7 (by omega) h2]; done) | (rw [Qa7 (by omega) h2]; rfl) | (rw [Qa7 (by omega) h2, List.map_append]; rfl) | (simp [Qa7 (by omega) h2]; done) | rfl) rfl
    ·omega
    ·first | omega | (simp only; omega) | (dsimp only; omega)
   ·try rw [h2]
    try simp only [qa, qb, qc, qd, qe, List.length_map] at h2
    refine Qv (Qd (kp6 rfl rfl rfl rfl rfl rfl) (QL fun K hK => Qa rfl (Qa rfl (Qa rfl (QK rfl rfl rfl (by omega) (QV (by omega)) rfl (Q9 rfl rfl (QA rfl rfl rfl (Qa rfl (QX rfl rfl (QC rfl rfl ?_))))))))))
    refine Xe rfl rfl (fun _ h => YY rfl rfl rfl h) rfl (by simp) rfl rfl rfl (by simp; omega) (by simp; omega) (Qa rfl (hK _ ?_))
    refine Qg (Qd (kp5 rfl rfl rfl rfl rfl) (QL fun K hK => Qa rfl (Q2 rfl rfl (by first | exact Qq (by omega) (by omega) | rfl) (Qa rfl (hK _ ?_)))))
    refine Qi (i + 1) ?_ ?_ ?_
    ·exact Q1 (l := [3, 4, 5, 12, 13]) (lH := [5, 24]) (kp5 rfl rfl rfl rfl rfl) (Qe rfl (Qe rfl Ql)) (by first | (rw [Qa6 (by omega) h2]; done) | (rw [Qa6 (by omega) h2]; rfl) | (rw [Qa6 (by omega) h2, List.length_append]; rfl) | (simp [Qa6 (by omega) h2]; done) | (simp [Qa6 (by omega) h2]; omega) | rfl) (by first | (rw [Qa6 (by omega) h2]; done) | (rw [Qa6 (by omega) h2]; rfl) | (rw [Qa6 (by omega) h2, List.map_append]; rfl) | (simp [Qa6 (by omega) h2]; done) | rfl) rfl
    ·omega
    ·first | omega | (simp only; omega) | (dsimp only; omega)
  ·try rw [h1]
   try simp only [qa, qb, qc, qd, qe, List.length_map] at h1
   refine Zh (QJ (Qx (QD ?_)))
   refine ZQ () ?_ ?_
   ·exact le_trans (QfI (l := [5]) (lH := [5]) 24 12 (kp1 rfl) (Qe rfl Ql) rfl rfl rfl (by first | (simp; done) | (simp; omega)) rfl rfl rfl rfl) (Q1 (l := [5, 12]) (lH := [5]) (kp2 rfl rfl) (Qe rfl Ql) (by rw [List.take_of_length_le (show l.length <= i by omega)]; rfl) rfl rfl)
   ·exact trivial
 intro _ hJ
 try dsimp only
 refine Qf fun K hK => QH (cs := [_]) rfl rfl rfl rfl (Qa rfl (QI (XP hw (by rw [QlK]; omega)) rfl rfl (.inl rfl) (QR rfl rfl (QR rfl rfl (Qa rfl (Qa rfl ?_))))))
 refine hK _ _ (Qb (kp2 rfl rfl) ?_)
 refine Qu ?_
 exact QS rfl rfl ⟨rfl, rfl⟩
end Go.Proofs
namespace M25
open Go Go.Abs M3
def IncOk (w : Qp) (l : List TermT) : Prop := l.Pairwise (fun a b => a.u < b.u) /\ ∀ t ∈ l, 0 <= t.u /\ t.u < w.length
theorem QgT : ∀ (l : List TermT) (a b : Int), l.Pairwise (fun x y => x.u < y.u) -> (∀ t ∈ l, a <= t.u /\ t.u < b) -> a <= b -> (l.length : Int) <= b - a
 | [], a, b, _, _, h => by simp; omega
 | t :: l, a, b, hp, hb, h => by
  rw [List.pairwise_cons] at hp
  have h1 := hb t (by simp)
  have := QgT l (t.u + 1) b hp.2 (fun s hs => ⟨by have := hp.1 s hs; omega, (hb s (by simp [hs])).2⟩) (by omega)
  simp only [List.length_cons]; omega
theorem IncOk.len {w : Qp} {l : List TermT} (h : IncOk w l) : l.length <= w.length := by
 have := QgT l 0 w.length h.1 h.2 (by omega)
 omega
theorem IncOk.nil (w : Qp) : IncOk w [] := ⟨List.Pairwise.nil, by simp⟩
theorem QiF (w : Qp) (ms : List Int) : ∀ n, (Xu w ms n).Pairwise (fun a b => a.u < b.u) /\ ∀ t ∈ Xu w ms n, 0 <= t.u /\ t.u < n
 | 0 => ⟨List.Pairwise.nil, by simp [Xu]⟩
 | n + 1 => by
  obtain ⟨h1, h2⟩ := QiF w ms n
  rw [Xu]
  split
  ·rw [List.append_nil]; exact ⟨h1, fun t ht => by have := h2 t ht; omega⟩
  ·refine ⟨List.pairwise_append.2 ⟨h1, List.pairwise_singleton _ _, fun a ha b hb => ?_⟩, fun t ht => ?_⟩
   ·simp only [List.mem_singleton] at hb; subst hb; exact (h2 a ha).2
   ·rcases List.mem_append.1 ht with ht | ht
    ·have := h2 t ht; omega
    ·simp only [List.mem_singleton] at ht; subst ht; simp only; omega
theorem QdI {w : Qp} {l t : List TermT} (h : QcS w l = some t) : IncOk w t := by
 unfold QcS at h
 split at h
 ·unfold QiA at h
  split at h
  ·cases h
   obtain ⟨h1, h2⟩ := QiF w (Xt (QaV w) l) (Xt (QaV w) l).length
   refine ⟨h1, fun t ht => ?_⟩
   have := h2 t ht
   rw [Qfz] at this
   exact this
  ·cases h
 ·cases h
theorem IncOk.ne {w : Qp} {l : List TermT} (h : IncOk w l) : l.Pairwise (fun a b => a.u ≠ b.u) := h.1.imp fun h => by omega
theorem Qgb {l : List TermT} (hl : l.Pairwise (fun a b => a.u ≠ b.u)) : ∀ n, (Yp l n).Pairwise (fun a b => a.u < b.u) /\ ∀ t ∈ Yp l n, t ∈ l /\ 0 <= t.u /\ t.u < n
 | 0 => ⟨List.Pairwise.nil, by simp [Yp]⟩
 | n + 1 => by
  obtain ⟨h1, h2⟩ := Qgb hl n
  rw [Yp]
  have hf : ∀ t ∈ l.filter (fun t => decide (t.u = ((n : Nat) : Int))), t ∈ l /\ t.u = n := fun t ht => by
   simpa using List.mem_filter.1 ht
  refine ⟨List.pairwise_append.2 ⟨h1, ?_, fun a ha b hb => ?_⟩, fun t ht => ?_⟩
  ·refine List.Pairwise.imp_of_mem (fun {a b} ha hb hab => ?_) (hl.filter _)
   have := (hf a ha).2
   have := (hf b hb).2
   omega
  ·rw [(hf b hb).2]; exact (h2 a ha).2.2
  ·rcases List.mem_append.1 ht with ht | ht
   ·have := h2 t ht; exact ⟨this.1, by omega, by omega⟩
   ·have := hf t ht; exact ⟨this.1, by omega, by omega⟩
theorem Qll {w : Qp} {l : List TermT} (hl : l.Pairwise (fun a b => a.u ≠ b.u)) (hb : ∀ t ∈ l, 0 <= t.u /\ t.u < w.length) : IncOk w (QhA l) := by
 obtain ⟨h1, h2⟩ := Qgb hl 48
 exact ⟨h1, fun t ht => hb t (h2 t ht).1⟩
theorem QnK {w : Qp} {r x : RowT} (hx : IncOk w x.t) (h0 : 0 <= r.u) (h1 : r.u < w.length) : IncOk w (QnJ w r x).t := by
 refine Qll (List.pairwise_cons.2 ⟨fun t ht => ?_, hx.ne.filter _⟩) fun t ht => ?_
 ·have := (List.mem_filter.1 ht).2
  simp only [Bool.not_eq_true', decide_eq_false_iff_not] at this
  exact fun e => this e.symm
 ·rcases List.mem_cons.1 ht with rfl | ht
  ·exact ⟨h0, h1⟩
  ·exact hx.2 t (List.mem_filter.1 ht).1
def QaO (w : Qp) (rows : List RowT) : Prop := ∀ x ∈ rows, IncOk w x.t
theorem QjD {w : Qp} {r : RowT} (hr : IncOk w r.t) (h0 : 0 <= r.u) (h1 : r.u < w.length) : ∀ {rows : List RowT}, QaO w rows -> QaO w (Xd w r rows)
 | [], _ => fun x hx => by
  simp only [Xd, List.mem_singleton] at hx; subst hx; exact hr
 | y :: rows, h => fun x hx => by
  rw [Xd] at hx
  split at hx
  ·rcases List.mem_cons.1 hx with rfl | hx
   ·exact QnK (h y (by simp)) h0 h1
   ·exact h x (by simp [hx])
  ·rcases List.mem_cons.1 hx with rfl | hx
   ·exact h x (by simp)
   ·exact QjD hr h0 h1 (fun z hz => h z (by simp [hz])) x hx
theorem QhE (w : Qp) (r : RowT) : ∀ rows : List RowT, (Xd w r rows).length <= rows.length + 1
 | [] => by simp [Xd]
 | x :: rows => by
  have := QhE w r rows
  rw [Xd]; split <;> simp <;> omega
theorem Qju {r x : RowT} (h : ¬ x.k = r.k \/ ¬ x.u = r.u \/ ¬ QgE x.t r.u = QgE r.t r.u) : Qjt r x = false := by
 simp only [Qjt, Bool.and_eq_false_iff, decide_eq_false_iff_not]
 rcases h with h | h | h
 ·exact .inl (.inl h)
 ·exact .inl (.inr h)
 ·exact .inr h
theorem Qmg {r x : RowT} (h1 : x.k = r.k) (h2 : x.u = r.u) (h3 : QgE x.t r.u = QgE r.t r.u) : Qjt r x = true := by simp [Qjt, h1, h2, h3]
theorem Qf3 {w : Qp} {r : RowT} {rows : List RowT} {i : Nat} (h : i < rows.length) (hn : Qjt r rows[i] = false) (hi : Xd w r rows = rows.take i ++ Xd w r (rows.drop i)) : Xd w r rows = rows.take (i + 1) ++ Xd w r (rows.drop (i + 1)) := by
 rw [hi, List.drop_eq_getElem_cons h, Xd, if_neg (by rw [hn]; simp), List.take_succ_eq_append_getElem h, List.append_assoc]; rfl
theorem QkD {w : Qp} {r : RowT} {rows : List RowT} {i : Nat} (h : i < rows.length) (hn : Qjt r rows[i] = true) (hi : Xd w r rows = rows.take i ++ Xd w r (rows.drop i)) : Xd w r rows = rows.set i (QnJ w r rows[i]) := by
 rw [hi, List.drop_eq_getElem_cons h, Xd, if_pos hn, List.set_eq_take_append_cons_drop, if_pos h]
theorem QkE {w : Qp} {r : RowT} {rows : List RowT} {i : Nat} (h : rows.length <= i) (hi : Xd w r rows = rows.take i ++ Xd w r (rows.drop i)) : Xd w r rows = rows ++ [r] := by
 rw [hi, List.drop_eq_nil_of_le h, List.take_of_length_le h, Xd]
theorem Qkz {w : Qp} {u : Int} {p : Nat} {l : List (List WantT)} {rows : List RowT} {i : Nat} (h : i < l.length) : YN w u p (l.take (i + 1)) rows = match Yk w u p l[i] false with
  | some t => Xd w ⟨2, u, 0, 0, t⟩ (YN w u p (l.take i) rows)
  | none => YN w u p (l.take i) rows := by
 rw [List.take_succ_eq_append_getElem h, YN, List.foldl_append]; rfl
theorem QiH {w : Qp} {u : Int} {p : Nat} {l : List (List WantT)} {rows : List RowT} {i : Nat} (h : i < l.length) (ho : (Yk w u p l[i] false).isSome = true) : YN w u p (l.take (i + 1)) rows = Xd w ⟨2, u, 0, 0, (Yk w u p l[i] false).getD []⟩ (YN w u p (l.take i) rows) := by
 rw [Qkz h]
 cases hc : Yk w u p l[i] false with
 | none => rw [hc] at ho; cases ho
 | some t => rfl
theorem Qky {w : Qp} {u : Int} {p : Nat} {l : List (List WantT)} {rows : List RowT} {i : Nat} (h : i < l.length) (ho : (Yk w u p l[i] false).isSome = false) : YN w u p (l.take (i + 1)) rows = YN w u p (l.take i) rows := by
 rw [Qkz h]
 cases hc : Yk w u p l[i] false with
 | none => rfl
 | some t => rw [hc] at ho; cases ho
theorem QlH {w : Qp} {u : Int} {p : Nat} {l : List WantT} {rows : List RowT} {i : Nat} (h : i < l.length) : QbA w u p (l.take (i + 1)) rows = match Yk w u p [l[i]] true with
  | some t => Xd w ⟨3, u, 0, 0, t⟩ (QbA w u p (l.take i) rows)
  | none => QbA w u p (l.take i) rows := by
 rw [List.take_succ_eq_append_getElem h, QbA, List.foldl_append]; rfl
theorem QjZ {w : Qp} {u : Int} {p : Nat} {l : List WantT} {rows : List RowT} {i : Nat} (h : i < l.length) (ho : (Yk w u p [l[i]] true).isSome = true) : QbA w u p (l.take (i + 1)) rows = Xd w ⟨3, u, 0, 0, (Yk w u p [l[i]] true).getD []⟩ (QbA w u p (l.take i) rows) := by
 rw [QlH h]
 cases hc : Yk w u p [l[i]] true with
 | none => rw [hc] at ho; cases ho
 | some t => rfl
theorem QlG {w : Qp} {u : Int} {p : Nat} {l : List WantT} {rows : List RowT} {i : Nat} (h : i < l.length) (ho : (Yk w u p [l[i]] true).isSome = false) : QbA w u p (l.take (i + 1)) rows = QbA w u p (l.take i) rows := by
 rw [QlH h]
 cases hc : Yk w u p [l[i]] true with
 | none => rfl
 | some t => rw [hc] at ho; cases ho
theorem QlZ {w : Qp} {u : Int} {p : Nat} {l : List WantT} {b : Bool} : IncOk w ((Yk w u p l b).getD []) := by
 cases hc : Yk w u p l b with
 | none => exact IncOk.nil w
 | some t => exact QdI hc
theorem QdP {w : Qp} {u : Int} {p : Nat} (h0 : 0 <= u) (h1 : u < w.length) : ∀ {l : List (List WantT)} {rows : List RowT}, QaO w rows -> QaO w (YN w u p l rows) /\ (YN w u p l rows).length <= rows.length + l.length
 | [], rows, h => ⟨h, Nat.le_refl _⟩
 | x :: l, rows, h => by
  rw [YN, List.foldl_cons]
  cases hc : Yk w u p x false with
  | none =>
   obtain ⟨q1, q2⟩ := QdP h0 h1 (l := l) h
   exact ⟨q1, Nat.le_trans q2 (by simp)⟩
  | some t =>
   obtain ⟨q1, q2⟩ := QdP (p := p) h0 h1 (l := l) (QjD (r := ⟨2, u, 0, 0, t⟩) (QdI hc) h0 h1 h)
   have := QhE w ⟨2, u, 0, 0, t⟩ rows
   exact ⟨q1, Nat.le_trans q2 (by simp only [List.length_cons]; omega)⟩
theorem Qe2 {w : Qp} {u : Int} {p : Nat} (h0 : 0 <= u) (h1 : u < w.length) : ∀ {l : List WantT} {rows : List RowT}, QaO w rows -> QaO w (QbA w u p l rows) /\ (QbA w u p l rows).length <= rows.length + l.length
 | [], rows, h => ⟨h, Nat.le_refl _⟩
 | x :: l, rows, h => by
  rw [QbA, List.foldl_cons]
  cases hc : Yk w u p [x] true with
  | none =>
   obtain ⟨q1, q2⟩ := Qe2 h0 h1 (l := l) h
   exact ⟨q1, Nat.le_trans q2 (by simp)⟩
  | some t =>
   obtain ⟨q1, q2⟩ := Qe2 (p := p) h0 h1 (l := l) (QjD (r := ⟨3, u, 0, 0, t⟩) (QdI hc) h0 h1 h)
   have := QhE w ⟨3, u, 0, 0, t⟩ rows
   exact ⟨q1, Nat.le_trans q2 (by simp only [List.length_cons]; omega)⟩
theorem Qg7 {w : Qp} {u : Int} {cs : List CandT} {n : Nat} {rows : List RowT} (h : n < cs.length) : YH w u cs (n + 1) rows = QbA w u n cs[n].bs (YN w u n cs[n].ns (YH w u cs n rows)) := by
 rw [YH, List.getElem?_eq_getElem h]
theorem Qfs {w : Qp} {u : Int} {cs : List CandT} (h0 : 0 <= u) (h1 : u < w.length) (hc : ∀ c ∈ cs, c.ns.length <= 1000 /\ c.bs.length <= 1000) {rows : List RowT} (h : QaO w rows) : ∀ n, n <= cs.length -> QaO w (YH w u cs n rows) /\ (YH w u cs n rows).length <= rows.length + n * 2000
 | 0, _ => ⟨h, by simp [YH]⟩
 | n + 1, hn => by
  obtain ⟨q1, q2⟩ := Qfs h0 h1 hc h n (by omega)
  rw [Qg7 (by omega)]
  obtain ⟨q3, q4⟩ := QdP (p := n) h0 h1 (l := cs[n].ns) q1
  obtain ⟨q5, q6⟩ := Qe2 (p := n) h0 h1 (l := cs[n].bs) q3
  have := hc cs[n] (List.getElem_mem _)
  exact ⟨q5, by omega⟩
theorem QjH {w : Qp} {n : Nat} (h : n < w.length) : Yu w (n + 1) = YH w n w[n].cs w[n].cs.length (Yu w n) := by
 rw [Yu, List.getElem?_eq_getElem h]
theorem Qca {w : Qp} (hw : WSm w) (h0 : 0 < w.length) : ∀ n, n <= w.length -> QaO w (Yu w n) /\ (Yu w n).length <= 1 + n * 32000
 | 0, _ => ⟨fun x hx => by
   simp only [Yu, List.mem_singleton] at hx; subst hx
   exact ⟨List.pairwise_singleton _ _, fun t ht => by simp only [List.mem_singleton] at ht; subst ht; exact ⟨Int.le_refl _, by simp only; omega⟩⟩, by simp [Yu]⟩
 | n + 1, hn => by
  obtain ⟨q1, q2⟩ := Qca hw h0 n (by omega)
  rw [QjH (by omega)]
  obtain ⟨q3, q4⟩ := Qfs (u := n) (by omega) (by omega) (fun c hc => hw.ns w[n] (List.getElem_mem _) c hc) q1 w[n].cs.length (Nat.le_refl _)
  have := hw.cs w[n] (List.getElem_mem _)
  refine ⟨q3, ?_⟩
  have h5 : w[n].cs.length * 2000 <= 16 * 2000 := Nat.mul_le_mul_right _ this
  omega
theorem Qmj {w : Qp} (hw : WSm w) (h0 : 0 < w.length) : ∀ t ∈ mDB w, IncOk w t := fun t ht => by
 obtain ⟨r, hr, rfl⟩ := List.mem_map.1 ht
 exact (Qca hw h0 w.length (Nat.le_refl _)).1 r hr
theorem Qhu {w : Qp} (hw : WSm w) (h0 : 0 < w.length) : (mDB w).length <= 1600000 := by
 have := (Qca hw h0 w.length (Nat.le_refl _)).2
 have := hw.len
 rw [mDB, List.length_map, QbY]; omega
theorem QqM {l : List TermT} : ∀ r ∈ l.map Qdr, r.length = 2 := fun r hr => by obtain ⟨x, _, rfl⟩ := List.mem_map.1 hr; rfl
theorem QqN {l : List WantT} : ∀ r ∈ l.map QeV, r.length = 3 := fun r hr => by obtain ⟨x, _, rfl⟩ := List.mem_map.1 hr; rfl
theorem Qlo {l : List QO} : ∀ r ∈ l.map Qid, r.length = 4 := fun r hr => by obtain ⟨x, _, rfl⟩ := List.mem_map.1 hr; rfl
theorem Qm1 {α : Type} {f : α -> List D} {l : List α} {i : Nat} (h : i < l.length) : ((l.map f).take ((i : Int) + 1).toNat).drop ((i : Nat) : Int).toNat = [l[i]].map f := by
 rw [Qnc, Int.toNat_natCast, List.drop_take, show i + 1 - i = 1 by omega, List.drop_eq_getElem_cons (by simpa using h)]
 simp
theorem WSm.nsLen {w : Qp} (hw : WSm w) {u i : Nat} (hu : u < w.length) (hi : i < w[u].cs.length) : w[u].cs[i].ns.length <= 1000 := (hw.ns _ (List.getElem_mem _) _ (List.getElem_mem _)).1
theorem WSm.bsLen {w : Qp} (hw : WSm w) {u i : Nat} (hu : u < w.length) (hi : i < w[u].cs.length) : w[u].cs[i].bs.length <= 1000 := (hw.ns _ (List.getElem_mem _) _ (List.getElem_mem _)).2
theorem WSm.csLen {w : Qp} (hw : WSm w) {u : Nat} (hu : u < w.length) : w[u].cs.length <= 16 := hw.cs _ (List.getElem_mem _)
theorem Qph {w : Qp} (hw : WSm w) {u i : Nat} (hu : u < w.length) (hi : i <= w[u].cs.length) : QaO w (YH w u w[u].cs i (Yu w u)) /\ (YH w u w[u].cs i (Yu w u)).length <= 10000000 := by
 obtain ⟨q1, q2⟩ := Qca hw (by omega) u (by omega)
 obtain ⟨q3, q4⟩ := Qfs (u := u) (by omega) (by omega) (fun c hc => hw.ns w[u] (List.getElem_mem _) c hc) q1 i hi
 have := hw.csLen hu
 have := hw.len
 have h5 : i * 2000 <= 16 * 2000 := Nat.mul_le_mul_right _ (by omega)
 have h6 : u * 32000 <= 48 * 32000 := Nat.mul_le_mul_right _ (by omega)
 exact ⟨q3, by omega⟩
theorem Qht {w : Qp} (hw : WSm w) {u i : Nat} (hu : u < w.length) (hi : i < w[u].cs.length) (k : Nat) : QaO w (YN w u i (w[u].cs[i].ns.take k) (YH w u w[u].cs i (Yu w u))) /\ (YN w u i (w[u].cs[i].ns.take k) (YH w u w[u].cs i (Yu w u))).length <= 20000000 := by
 obtain ⟨q1, q2⟩ := Qph hw hu (Nat.le_of_lt hi)
 obtain ⟨q3, q4⟩ := QdP (u := u) (p := i) (by omega) (by omega) (l := w[u].cs[i].ns.take k) q1
 have := hw.nsLen hu hi
 have h2 : (w[u].cs[i].ns.take k).length <= w[u].cs[i].ns.length := List.length_take_le' ..
 exact ⟨q3, by omega⟩
theorem Qko {w : Qp} (hw : WSm w) {u i : Nat} (hu : u < w.length) (hi : i < w[u].cs.length) (k : Nat) : QaO w (QbA w u i (w[u].cs[i].bs.take k) (YN w u i w[u].cs[i].ns (YH w u w[u].cs i (Yu w u)))) /\ (QbA w u i (w[u].cs[i].bs.take k) (YN w u i w[u].cs[i].ns (YH w u w[u].cs i (Yu w u)))).length <= 30000000 := by
 obtain ⟨q1, q2⟩ := Qht hw hu hi w[u].cs[i].ns.length
 rw [List.take_length] at q1 q2
 obtain ⟨q3, q4⟩ := Qe2 (u := u) (p := i) (by omega) (by omega) (l := w[u].cs[i].bs.take k) q1
 have := hw.bsLen hu hi
 have h2 : (w[u].cs[i].bs.take k).length <= w[u].cs[i].bs.length := List.length_take_le' ..
 exact ⟨q3, by omega⟩
end M25
namespace Go.Proofs
open Go Go.Abs M3 M25
set_option linter.unusedVariables false
set_option linter.unusedSimpArgs false
theorem Qaa {w : Qp} (hw : WSm w) {r : RowT} {rows : List RowT} (hr : QaO w rows) (hrr : IncOk w r.t) (hl : rows.length <= 100000000) : OkH Tryz.prog 72 [Z1 w, .osl 500000 rows.length, .agg (QlM r)] [(500000, ⟨(rows).map QlM, 5, 95, true⟩)] (.osl 500000 (Xd w r rows).length) [(500000, ⟨(Xd w r rows).map QlM, 5, 95, true⟩)] := by
 refine OkH.mv ZY Tryz.func72 Qsa (Nat.le_of_ble_eq_true rfl) rfl ?_
 show TW _ _ tf72.body _ _
 have hn := hw.len
 refine Qf fun K hK => Zv rfl rfl rfl (Zv rfl rfl rfl (Qa rfl ?_))
 refine hK _ _ (Qb (kp3 rfl rfl rfl) ?_)
 refine QB ?_ -- 0
 refine Qf fun K hK => Qa rfl ?_
 refine hK _ _ (Qb (kp4 rfl rfl rfl rfl) ?_)
 refine Qz ?_
 refine Zj (ι := Nat) (fun i => ⟨[(1, .osl 500000 rows.length), (3, .ref 3 0 0), (5, .ref 5 0 0), (7, .int .i64 i)], [(3, ⟨[[.sl ((w).map Yn)]], 1, 26, true⟩), (5, ⟨[[.int .i64 (r).k, .int .i64 (r).u, .int .i64 (r).a, .int .i64 (r).b, ZK (r).t]], 5, 95, true⟩), (500000, ⟨(rows).map QlM, 5, 95, true⟩)]⟩) (fun i => i <= rows.length /\ Xd w r rows = rows.take i ++ Xd w r (rows.drop i)) (fun i => rows.length - i) 0 ?_ ?_ ?_
 ·exact Q1 (l := [1, 3, 5, 7]) (lH := [3, 5, 500000]) (kp4 rfl rfl rfl rfl) (Qe rfl (Qe rfl (Qe rfl Ql))) rfl rfl rfl
 ·exact ⟨Nat.zero_le _, by simp⟩
 intro i hI
 try dsimp only
 refine QB ?_ -- 1
 refine Qf fun K hK => Qa rfl (Qa rfl (QQ rfl rfl (Z6 rfl rfl ?_)))
 refine hK _ _ (Qb (kp5 rfl rfl rfl rfl rfl) ?_)
 refine Qw rfl (fun h1 => ?_) (fun h1 => ?_)
 ·try rw [h1]
  try simp only [qa, qb, qc, qd, qe, List.length_map] at h1
  refine Qv (Qd (kp4 rfl rfl rfl rfl) ?_)
  refine QB ?_ -- 2
  refine Qz (Qf fun K hK => Qa rfl (Qa rfl (Xf rfl rfl rfl (by simp) (by omega) (by omega) rfl (QH (cs := [_, _, _, _, _]) rfl (Z7 rfl (QV (by omega))) rfl rfl (ZL rfl (Q7 rfl rfl rfl rfl rfl rfl rfl rfl ?_))))))
  refine hK _ _ (Qb (kp5 rfl rfl rfl rfl rfl) ?_)
  refine Qf fun K hK => Qh rfl rfl (QU (ds0 := [20, 19, 18, 17, 16, 15, 14, 13, 12, 11, 10, 9, 8, 7, 6, 5, 4, 3, 2, 1, 0]) rfl rfl rfl rfl rfl (Qh rfl rfl (QU (ds0 := [20, 19, 18, 17, 16, 15, 14, 13, 12, 11, 10, 9, 8, 7, 6, 5, 4, 3, 2, 1, 0]) rfl rfl rfl rfl rfl ?_)))
  first | refine ZO rfl rfl ?_ | refine Qg1 rfl rfl ?_
  refine Qa rfl ?_
  refine QE (g := 25) rfl (fun h2 => ?_) (fun h2 => ?_)
  ·try rw [h2]
   try simp only [qa, qb, qc, qd, qe, List.length_map] at h2
   refine Qk rfl (Qh rfl rfl (Qk rfl (QU (ds0 := [14, 13, 12, 11, 10, 9, 8, 7, 6, 5, 4, 3, 2, 1, 0]) rfl rfl rfl rfl rfl (Qk rfl (Qh rfl rfl (Qk rfl (QU (ds0 := [14, 13, 12, 11, 10, 9, 8, 7, 6, 5, 4, 3, 2, 1, 0]) rfl rfl rfl rfl rfl (Qk rfl ?_))))))))
   first | refine ZO rfl rfl ?_ | refine Qg1 rfl rfl ?_
   refine Qo rfl rfl (Qa rfl ?_)
   refine QE (g := 32) rfl (fun h3 => ?_) (fun h3 => ?_)
   ·try rw [h3]
    try simp only [qa, qb, qc, qd, qe, List.length_map] at h3
    refine Qk rfl (Qh rfl rfl (Qk rfl (QU (ds0 := [7, 1, 0]) rfl rfl rfl rfl rfl (Qk rfl (Qh rfl rfl (Qk rfl (QU (ds0 := [7, 1, 0]) rfl rfl rfl rfl rfl (Qk rfl (QT (ds0 := [1, 0]) (Y4 (Nat.le_trans (hr _ (List.getElem_mem (by omega))).len (by omega))) rfl rfl (.inl rfl) rfl rfl (Qk rfl (Qh rfl rfl ?_)))))))))))
    refine Qk rfl (QU (ds0 := [2, 1, 0]) rfl rfl rfl rfl rfl (Qk rfl (Qh rfl rfl (Qk rfl (QU (ds0 := [2, 1, 0]) rfl rfl rfl rfl rfl (Qk rfl (QT (ds0 := [1, 0]) (Y4 (Nat.le_trans hrr.len (by omega))) rfl rfl (.inl rfl) rfl rfl (Qk rfl (QT (ds0 := [0]) (QcE (Nat.le_trans (Qfq _ _) (Nat.le_trans (hr _ (List.getElem_mem (by omega))).len (by omega)))) rfl rfl (.inr rfl) rfl rfl (Qo rfl rfl ?_))))))))))
    refine hK _ _ (Qb (kp6 rfl rfl rfl rfl rfl rfl) ?_)
    refine Qw rfl (fun h4 => ?_) (fun h4 => ?_)
    ·try rw [h4]
     try simp only [qa, qb, qc, qd, qe, List.length_map] at h4
     refine Qf fun K hK => Qh rfl rfl (QU (ds0 := [8, 7, 1, 0]) rfl rfl rfl rfl rfl (QN (ds0 := [16, 9, 8, 7, 1, 0]) (cs := [_]) rfl rfl rfl rfl rfl rfl (Qh rfl rfl (QU (ds0 := [16, 9, 8, 7, 1, 0]) rfl rfl rfl rfl rfl (Qh rfl rfl (QU (ds0 := [16, 9, 8, 7, 1, 0]) rfl rfl rfl rfl rfl (QT (ds0 := [9, 8, 7, 1, 0]) (YU hw (Nat.le_trans (hr _ (List.getElem_mem (by omega))).len (by omega))) rfl rfl (.inr rfl) rfl rfl (QN (ds0 := [10, 9, 8, 7, 1, 0]) (cs := [_]) rfl rfl rfl rfl rfl rfl (Qh rfl rfl (QU (ds0 := [10, 9, 8, 7, 1, 0]) rfl rfl rfl rfl rfl ?_))))))))))
     refine Qh rfl rfl (QU (ds0 := [10, 9, 8, 7, 1, 0]) rfl rfl rfl rfl rfl (QT (ds0 := [9, 8, 7, 1, 0]) (YU hw (Nat.le_trans hrr.len (by omega))) rfl rfl (.inr rfl) rfl rfl (Qrh rfl rfl (QX rfl rfl (QC rfl rfl (Qh rfl rfl (QU (ds0 := [2, 1, 0]) rfl rfl rfl rfl rfl (Qh rfl rfl (QU (ds0 := [2, 1, 0]) rfl rfl rfl rfl rfl (QT (ds0 := [1, 0]) (Y4 (Nat.le_trans (hr _ (List.getElem_mem (by omega))).len (by omega))) rfl rfl (.inl rfl) rfl rfl (Qa0 (ds0 := [0]) rfl rfl (by simp [D.ids, D.sid, ZK]) ⟨rfl, QqM, rfl⟩ rfl rfl (by simp) rfl rfl (by have q1 := Qfq (rows[i]'(by omega)).t r.u; have q2 := (hr _ (List.getElem_mem (show i < rows.length by omega))).len; simp; omega) (by have q1 := Qfq (rows[i]'(by omega)).t r.u; have q2 := (hr _ (List.getElem_mem (show i < rows.length by omega))).len; simp; omega) rfl rfl ?_)))))))))))
     refine Qa rfl ?_
     refine hK _ _ (Qb (kp3 rfl rfl rfl) ?_)
     refine Qol (QfI (l := [1, 7]) (lH := [500000]) 67 9 (kp2 rfl rfl) (Qe rfl Ql) rfl rfl rfl (by first | (simp; done) | (simp; omega)) rfl rfl rfl rfl) (Qf fun K hK => Qa rfl (Qa rfl (Qa rfl (QI (QbB (l := ⟨r.u, bor (Qc5 w (rows[i]'(by omega)).t r.u) (Qc5 w r.t r.u)⟩ :: QgE (rows[i]'(by omega)).t r.u) (by have q1 := Qfq (rows[i]'(by omega)).t r.u; have q2 := (hr _ (List.getElem_mem (show i < rows.length by omega))).len; simp; omega)) rfl rfl (.inl rfl) (Xf rfl rfl rfl (by simp) (by omega) (by omega) rfl (Qh rfl rfl (Q7 rfl rfl (QV (by omega)) rfl rfl rfl rfl rfl ?_)))))))
     refine hK _ _ (Qb (kp1 rfl) ?_)
     refine Qf fun K hK => Qa rfl (Qa rfl ?_)
     refine hK _ _ (Qb (kp1 rfl) ?_)
     refine Qu (Qr (Qj (Q4 (Qr (Qj ?_)))))
     refine YA rfl ?_ (Qcc ?_)
     ·rw [QkD (i := i) (by omega) (Qmg h2 h3 h4) hI.2]; simp [Qlu, D.fz, D.fzS, Qf9, D.can, D.canS]
     ·rw [QkD (i := i) (by omega) (Qmg h2 h3 h4) hI.2]; simp [lk, List.map_set, QlM, QnJ, setRow, D.sid, ZK]
    ·try rw [h4]
     try simp only [qa, qb, qc, qd, qe, List.length_map] at h4
     refine Qv (Qg (Qd (kp4 rfl rfl rfl rfl) (QL fun K hK => Qa rfl (Q2 rfl rfl (by first | exact Qq (by omega) (by omega) | rfl) (Qa rfl (hK _ ?_))))))
     refine Qi (i + 1) ?_ ?_ ?_
     ·exact Q1 (l := [1, 3, 5, 7]) (lH := [3, 5, 500000]) (kp4 rfl rfl rfl rfl) (Qe rfl (Qe rfl (Qe rfl Ql))) rfl rfl rfl
     ·exact ⟨by omega, Qf3 (by omega) (Qju (by first | exact .inl h2 | exact .inr (.inl h3) | exact .inr (.inr h4))) hI.2⟩
     ·first | omega | (simp only; omega) | (dsimp only; omega)
   ·try rw [h3]
    try simp only [qa, qb, qc, qd, qe, List.length_map] at h3
    refine Qt rfl (Qt rfl (Qt rfl (Qt rfl (Qt rfl (Qt rfl (Qt rfl (Qt rfl (Qt rfl (Qt rfl (Qt rfl (Qo rfl rfl ?_)))))))))))
    refine hK _ _ (Qb (kp6 rfl rfl rfl rfl rfl rfl) ?_)
    refine ZG rfl (Qv (Qg (Qd (kp4 rfl rfl rfl rfl) (QL fun K hK => Qa rfl (Q2 rfl rfl (by first | exact Qq (by omega) (by omega) | rfl) (Qa rfl (hK _ ?_)))))))
    refine Qi (i + 1) ?_ ?_ ?_
    ·exact Q1 (l := [1, 3, 5, 7]) (lH := [3, 5, 500000]) (kp4 rfl rfl rfl rfl) (Qe rfl (Qe rfl (Qe rfl Ql))) rfl rfl rfl
    ·exact ⟨by omega, Qf3 (by omega) (Qju (by first | exact .inl h2 | exact .inr (.inl h3) | exact .inr (.inr h4))) hI.2⟩
    ·first | omega | (simp only; omega) | (dsimp only; omega)
  ·try rw [h2]
   try simp only [qa, qb, qc, qd, qe, List.length_map] at h2
   refine Qt rfl (Qt rfl (Qt rfl (Qt rfl (Qt rfl (Qo rfl rfl (Qa rfl (Qt rfl (Qt rfl (Qt rfl (Qt rfl (Qt rfl ?_)))))))))))
   refine Qt rfl (Qt rfl (Qt rfl (Qt rfl (Qt rfl (Qt rfl (Qo rfl rfl ?_))))))
   refine hK _ _ (Qb (kp6 rfl rfl rfl rfl rfl rfl) ?_)
   refine ZG rfl (Qv (Qg (Qd (kp4 rfl rfl rfl rfl) (QL fun K hK => Qa rfl (Q2 rfl rfl (by first | exact Qq (by omega) (by omega) | rfl) (Qa rfl (hK _ ?_)))))))
   refine Qi (i + 1) ?_ ?_ ?_
   ·exact Q1 (l := [1, 3, 5, 7]) (lH := [3, 5, 500000]) (kp4 rfl rfl rfl rfl) (Qe rfl (Qe rfl (Qe rfl Ql))) rfl rfl rfl
   ·exact ⟨by omega, Qf3 (by omega) (Qju (by first | exact .inl h2 | exact .inr (.inl h3) | exact .inr (.inr h4))) hI.2⟩
   ·first | omega | (simp only; omega) | (dsimp only; omega)
 ·try rw [h1]
  try simp only [qa, qb, qc, qd, qe, List.length_map] at h1
  refine Zh (QJ (Qx (QD (Qd (kp2 rfl rfl) (Qf fun K hK => Qa rfl (QH (cs := [_, _, _, _, _]) rfl rfl rfl rfl (QC rfl rfl (Xe rfl rfl (fun _ h => YY rfl rfl rfl h) rfl (by simp) rfl rfl rfl (by simp; omega) (by simp; omega) (Qa rfl ?_)))))))))
  refine hK _ _ (Qb (kp1 rfl) ?_)
  refine Qu ?_
  refine YA rfl ?_ (Qcc ?_)
  ·rw [QkE (i := i) (by omega) hI.2]; simp [Qlu, D.fz, D.fzS, Qf9, D.can, D.canS]
  ·rw [QkE (i := i) (by omega) hI.2]; simp [lk, QlM, D.sid, ZK]
theorem X9 {w : Qp} (hw : WSm w) : Ok Tryz.prog 51 [Z1 w] (Qo8 (QbY w)) := by
 refine Ok.ofT ZY Tryz.func51 QrQ (Nat.le_of_ble_eq_true rfl) ?_
 show TW _ _ tf51.body _ _
 have hn := hw.len
 refine Qf fun K hK => Zv rfl rfl rfl (Qa rfl ?_)
 refine hK _ _ (Qb (kp1 rfl) ?_)
 refine Qf fun K hK => QX rfl rfl (QC rfl rfl (QX rfl rfl (QC rfl rfl (Qa rfl ?_))))
 refine hK _ _ (Qb (kp2 rfl rfl) ?_)
 refine QB ?_ -- 0
 refine Qf fun K hK => Qa rfl ?_
 refine hK _ _ (Qb (kp3 rfl rfl rfl) ?_)
 refine Qz ?_
 refine Zj (ι := Nat) (fun j => ⟨[(1, .ref 1 0 0), (3, .osl 3 (Yu w j).length), (4, .int .i64 j)], [(1, ⟨[[.sl ((w).map Yn)]], 1, 26, true⟩), (3, ⟨(Yu w j).map QlM, 5, 95, true⟩)]⟩) (fun j => j <= w.length) (fun j => w.length - j) 0 ?_ ?_ ?_
 ·exact le_trans (Qit 14 _ (by decide)) (le_trans (QfK (k := 16) (b := ⟨[[.int .i64 1, .int .i64 0, .int .i64 0, .int .i64 0, .sl [[.int .i64 0, .int .i64 1]]]], 5, 95, false⟩) rfl (by simp) (by simp [D.sid])) (le_trans (QfJ (l := [1, 4]) (lH := [1]) 16 3 3 (kp2 rfl rfl) (Qe rfl Ql) rfl rfl rfl rfl rfl rfl rfl) (Q1 (l := [1, 3, 4]) (lH := [1, 3]) (kp3 rfl rfl rfl) (Qe rfl (Qe rfl Ql)) rfl rfl rfl)))
 ·exact Nat.zero_le _
 intro j hU
 try dsimp only
 refine QB ?_ -- 1
 refine Qf fun K hK => Qa rfl (Qh rfl rfl (QA rfl rfl rfl (QQ rfl rfl (Z6 rfl rfl ?_))))
 refine hK _ _ (Qb (kp4 rfl rfl rfl rfl) ?_)
 refine Qw rfl (fun h1 => ?_) (fun h1 => ?_)
 ·try rw [h1]
  try simp only [qa, qb, qc, qd, qe, List.length_map] at h1
  refine Qv (Qd (kp3 rfl rfl rfl) ?_)
  refine QB ?_ -- 2
  refine Qz (Qf fun K hK => Qa rfl ?_)
  refine hK _ _ (Qb (kp4 rfl rfl rfl rfl) ?_)
  refine Qz ?_
  refine Zj (ι := Nat) (fun i => ⟨[(1, .ref 1 0 0), (3, .osl 3 (YH w j (w[j]'(by omega)).cs i (Yu w j)).length), (4, .int .i64 j), (5, .int .i64 i)], [(1, ⟨[[.sl ((w).map Yn)]], 1, 26, true⟩), (3, ⟨(YH w j (w[j]'(by omega)).cs i (Yu w j)).map QlM, 5, 95, true⟩)]⟩) (fun i => i <= (w[j]'(by omega)).cs.length) (fun i => (w[j]'(by omega)).cs.length - i) 0 ?_ ?_ ?_
  ·exact Q1 (l := [1, 3, 4, 5]) (lH := [1, 3]) (kp4 rfl rfl rfl rfl) (Qe rfl (Qe rfl Ql)) rfl rfl rfl
  ·exact Nat.zero_le _
  intro i hI
  have hcs := hw.csLen (u := j) (by omega)
  try dsimp only
  refine QB ?_ -- 3
  refine Qf fun K hK => Qa rfl (Qh rfl rfl (QA rfl rfl rfl (Qa rfl (QK rfl rfl rfl (by omega) (QV (by omega)) rfl (Q9 rfl rfl (QA rfl rfl rfl (QQ rfl rfl (Z6 rfl rfl ?_))))))))
  refine hK _ _ (Qb (kp5 rfl rfl rfl rfl rfl) ?_)
  refine Qw rfl (fun h2 => ?_) (fun h2 => ?_)
  ·try rw [h2]
   try simp only [qa, qb, qc, qd, qe, List.length_map] at h2
   refine Qv (Qd (kp4 rfl rfl rfl rfl) ?_)
   refine QB ?_ -- 4
   refine Qz (Qf fun K hK => Qh rfl rfl (QA rfl rfl rfl (Qa rfl (QK rfl rfl rfl (by omega) (QV (by omega)) rfl (Q9 rfl rfl (QA rfl rfl rfl (Qa rfl (QK rfl rfl rfl (by omega) (QV (by omega)) rfl (QH (cs := [_, _, _, _, _, _, _, _]) rfl rfl rfl rfl (ZL rfl ?_))))))))))
   refine Q7 rfl rfl rfl rfl rfl rfl rfl rfl ?_
   refine hK _ _ (Qb (kp5 rfl rfl rfl rfl rfl) ?_)
   refine QB ?_ -- 5
   refine Qf fun K hK => Qa rfl ?_
   refine hK _ _ (Qb (kp6 rfl rfl rfl rfl rfl rfl) ?_)
   refine Qz ?_
   refine Zj (ι := Nat) (fun k => ⟨[(1, .ref 1 0 0), (3, .osl 3 (YN w j i (((w[j]'(by omega)).cs[i]'(by omega)).ns.take k) (YH w j (w[j]'(by omega)).cs i (Yu w j))).length), (4, .int .i64 j), (5, .int .i64 i), (6, .ref 6 0 0), (7, .int .i64 k)], [(1, ⟨[[.sl ((w).map Yn)]], 1, 26, true⟩), (3, ⟨(YN w j i (((w[j]'(by omega)).cs[i]'(by omega)).ns.take k) (YH w j (w[j]'(by omega)).cs i (Yu w j))).map QlM, 5, 95, true⟩), (6, ⟨[Qo7 ((w[j]'(by omega)).cs[i]'(by omega))], 8, 70, true⟩)]⟩) (fun k => k <= ((w[j]'(by omega)).cs[i]'(by omega)).ns.length) (fun k => ((w[j]'(by omega)).cs[i]'(by omega)).ns.length - k) 0 ?_ ?_ ?_
   ·exact Q1 (l := [1, 3, 4, 5, 6, 7]) (lH := [1, 3, 6]) (kp6 rfl rfl rfl rfl rfl rfl) (Qe rfl (Qe rfl (Qe rfl Ql))) rfl rfl rfl
   ·exact Nat.zero_le _
   intro k hK1
   have hnl := hw.nsLen (u := j) (i := i) (by omega) (by omega)
   try dsimp only
   refine QB ?_ -- 6
   refine Qf fun K hK => Qa rfl (Qh rfl rfl (QA rfl rfl rfl (QQ rfl rfl (Z6 rfl rfl ?_))))
   refine hK _ _ (Qb (kp7 rfl rfl rfl rfl rfl rfl rfl) ?_)
   refine Qw rfl (fun h3 => ?_) (fun h3 => ?_)
   ·try rw [h3]
    try simp only [qa, qb, qc, qd, qe, List.length_map] at h3
    refine Qv (Qd (kp6 rfl rfl rfl rfl rfl rfl) ?_)
    refine QB ?_ -- 7
    refine Qz (Qf fun K hK => QN (ds0 := [5, 4, 3, 2, 1, 0]) (cs := [_]) rfl rfl rfl rfl rfl rfl (Qa rfl (Qa rfl (Qh rfl rfl (QU (ds0 := [7, 6, 5, 4, 3, 2, 1, 0]) rfl rfl rfl rfl rfl (Qa rfl (QK rfl rfl rfl (by omega) (QV (by omega)) rfl (QU (ds0 := [5, 4, 3, 2, 1, 0]) rfl rfl rfl rfl rfl (QT (ds0 := [4, 3, 2, 1, 0]) (Xp hw (p := i) (by omega) (Nat.le_trans (hw.nl _ (List.getElem_mem (by omega)) _ (List.getElem_mem (by omega)) _ (List.getElem_mem (by omega))) (by omega)) (hw.nw _ (List.getElem_mem (by omega)) _ (List.getElem_mem (by omega)) _ (List.getElem_mem (by omega)))) rfl rfl (.inl rfl) rfl rfl (Qa rfl ?_))))))))))
    refine QR rfl rfl (QR rfl rfl (Qa rfl (Qa rfl ?_)))
    refine hK _ _ (Qb (kp8 rfl rfl rfl rfl rfl rfl rfl rfl) ?_)
    refine Qf fun K hK => Qa rfl ?_
    refine hK _ _ (Qb (kp8 rfl rfl rfl rfl rfl rfl rfl rfl) ?_)
    refine Qw rfl (fun h4 => ?_) (fun h4 => ?_)
    ·try rw [h4]
     try simp only [qa, qb, qc, qd, qe, List.length_map] at h4
     refine QL fun K hK => QH (cs := [_]) rfl rfl rfl rfl (Qa rfl (Qa rfl (Qa rfl (QX rfl rfl (QlB (Qj3 (k := 3) rfl rfl rfl (by decide) rfl (by decide) (by simp [D.ids, D.sid, ZK]) ⟨.osl 3 (YN w j i (((w[j]'(by omega)).cs[i]'(by omega)).ns.take k) (YH w j (w[j]'(by omega)).cs i (Yu w j))).length, by simp, by simp [D.ids, D.sid]⟩ rfl rfl (Qaa hw (r := ⟨2, j, 0, 0, (Yk w j i (((w[j]'(by omega)).cs[i]'(by omega)).ns[k]'(by omega)) false).getD []⟩) (Qht hw (by omega) (by omega) _).1 QlZ (Nat.le_trans (Qht hw (by omega) (by omega) _).2 (by omega)))) (Qa rfl (hK _ ?_)))))))
     refine Qg (Qd (kp6 rfl rfl rfl rfl rfl rfl) (QL fun K hK => Qa rfl (Q2 rfl rfl (by first | exact Qq (by omega) (by omega) | rfl) (Qa rfl (hK _ ?_)))))
     refine Qi (k + 1) ?_ ?_ ?_
     ·exact le_trans (QfJ (l := [1, 4, 5, 6, 7]) (lH := [1, 6]) 69 3 3 (kp5 rfl rfl rfl rfl rfl) (Qe rfl (Qe rfl Ql)) rfl rfl rfl rfl rfl rfl rfl) (Q1 (l := [1, 3, 4, 5, 6, 7]) (lH := [1, 3, 6]) (kp6 rfl rfl rfl rfl rfl rfl) (Qe rfl (Qe rfl (Qe rfl Ql))) (by rw [QiH (by omega) h4] <;> rfl) (by rw [QiH (by omega) h4] <;> rfl) rfl)
     ·omega
     ·first | omega | (simp only; omega) | (dsimp only; omega)
    ·try rw [h4]
     try simp only [qa, qb, qc, qd, qe, List.length_map] at h4
     refine Qv (Qg (Qd (kp6 rfl rfl rfl rfl rfl rfl) (QL fun K hK => Qa rfl (Q2 rfl rfl (by first | exact Qq (by omega) (by omega) | rfl) (Qa rfl (hK _ ?_))))))
     refine Qi (k + 1) ?_ ?_ ?_
     ·exact Q1 (l := [1, 3, 4, 5, 6, 7]) (lH := [1, 3, 6]) (kp6 rfl rfl rfl rfl rfl rfl) (Qe rfl (Qe rfl (Qe rfl Ql))) (by rw [Qky (by omega) h4] <;> rfl) (by rw [Qky (by omega) h4] <;> rfl) rfl
     ·omega
     ·first | omega | (simp only; omega) | (dsimp only; omega)
   ·try rw [h3]
    try simp only [qa, qb, qc, qd, qe, List.length_map] at h3
    refine Zh (QJ (Qx (QD (Qd (kp5 rfl rfl rfl rfl rfl) (Qf fun K hK => Qa rfl ?_)))))
    refine hK _ _ (Qb (kp6 rfl rfl rfl rfl rfl rfl) ?_)
    refine Qz ?_
    refine Zj (ι := Nat) (fun m => ⟨[(1, .ref 1 0 0), (3, .osl 3 (QbA w j i (((w[j]'(by omega)).cs[i]'(by omega)).bs.take m) (YN w j i ((w[j]'(by omega)).cs[i]'(by omega)).ns (YH w j (w[j]'(by omega)).cs i (Yu w j)))).length), (4, .int .i64 j), (5, .int .i64 i), (6, .ref 6 0 0), (10, .int .i64 m)], [(1, ⟨[[.sl ((w).map Yn)]], 1, 26, true⟩), (3, ⟨(QbA w j i (((w[j]'(by omega)).cs[i]'(by omega)).bs.take m) (YN w j i ((w[j]'(by omega)).cs[i]'(by omega)).ns (YH w j (w[j]'(by omega)).cs i (Yu w j)))).map QlM, 5, 95, true⟩), (6, ⟨[Qo7 ((w[j]'(by omega)).cs[i]'(by omega))], 8, 70, true⟩)]⟩) (fun m => m <= ((w[j]'(by omega)).cs[i]'(by omega)).bs.length) (fun m => ((w[j]'(by omega)).cs[i]'(by omega)).bs.length - m) 0 ?_ ?_ ?_
    ·exact Q1 (l := [1, 3, 4, 5, 6, 10]) (lH := [1, 3, 6]) (kp6 rfl rfl rfl rfl rfl rfl) (Qe rfl (Qe rfl (Qe rfl Ql))) (by rw [List.take_of_length_le (show ((w[j]'(by omega)).cs[i]'(by omega)).ns.length <= k by omega)] <;> rfl) (by rw [List.take_of_length_le (show ((w[j]'(by omega)).cs[i]'(by omega)).ns.length <= k by omega)] <;> rfl) rfl
    ·exact Nat.zero_le _
    intro m hM
    have hbl := hw.bsLen (u := j) (i := i) (by omega) (by omega)
    try dsimp only
    refine QB ?_ -- 8
    refine Qf fun K hK => Qa rfl (Qh rfl rfl (QA rfl rfl rfl (QQ rfl rfl (Z6 rfl rfl ?_))))
    refine hK _ _ (Qb (kp7 rfl rfl rfl rfl rfl rfl rfl) ?_)
    refine Qw rfl (fun h5 => ?_) (fun h5 => ?_)
    ·try rw [h5]
     try simp only [qa, qb, qc, qd, qe, List.length_map] at h5
     refine Qv (Qd (kp6 rfl rfl rfl rfl rfl rfl) ?_)
     refine QB ?_ -- 9
     refine Qz (Qf fun K hK => QN (ds0 := [5, 4, 3, 2, 1, 0]) (cs := [_]) rfl rfl rfl rfl rfl rfl (Qa rfl (Qa rfl (Qh rfl rfl (QU (ds0 := [6, 5, 4, 3, 2, 1, 0]) rfl rfl rfl rfl rfl (Qa rfl (Qa rfl (Q2 rfl rfl (by first | exact Qq (by omega) (by omega) | rfl) (Qea rfl rfl rfl rfl (by omega) (by omega) (by simp; omega) QqN (Qm1 (by omega)) (QT (ds0 := [4, 3, 2, 1, 0]) (Xp hw (p := i) (l := [((w[j]'(by omega)).cs[i]'(by omega)).bs[m]'(by omega)]) (by omega) (by simp) (by intro x hx; simp only [List.mem_singleton] at hx; subst hx; exact hw.bw _ (List.getElem_mem (by omega)) _ (List.getElem_mem (by omega)) _ (List.getElem_mem (by omega)))) rfl rfl (.inl rfl) rfl rfl ?_))))))))))
     refine Qa rfl (QR rfl rfl (QR rfl rfl (Qa rfl (Qa rfl ?_))))
     refine hK _ _ (Qb (kp8 rfl rfl rfl rfl rfl rfl rfl rfl) ?_)
     refine Qf fun K hK => Qa rfl ?_
     refine hK _ _ (Qb (kp8 rfl rfl rfl rfl rfl rfl rfl rfl) ?_)
     refine Qw rfl (fun h6 => ?_) (fun h6 => ?_)
     ·try rw [h6]
      try simp only [qa, qb, qc, qd, qe, List.length_map] at h6
      refine QL fun K hK => QH (cs := [_]) rfl rfl rfl rfl (Qa rfl (Qa rfl (Qa rfl (QX rfl rfl (QlB (Qj3 (k := 3) rfl rfl rfl (by decide) rfl (by decide) (by simp [D.ids, D.sid, ZK]) ⟨.osl 3 (QbA w j i (((w[j]'(by omega)).cs[i]'(by omega)).bs.take m) (YN w j i ((w[j]'(by omega)).cs[i]'(by omega)).ns (YH w j (w[j]'(by omega)).cs i (Yu w j)))).length, by simp, by simp [D.ids, D.sid]⟩ rfl rfl (Qaa hw (r := ⟨3, j, 0, 0, (Yk w j i [((w[j]'(by omega)).cs[i]'(by omega)).bs[m]'(by omega)] true).getD []⟩) (Qko hw (by omega) (by omega) _).1 QlZ (Nat.le_trans (Qko hw (by omega) (by omega) _).2 (by omega)))) (Qa rfl (hK _ ?_)))))))
      refine Qg (Qd (kp6 rfl rfl rfl rfl rfl rfl) (QL fun K hK => Qa rfl (Q2 rfl rfl (by first | exact Qq (by omega) (by omega) | rfl) (Qa rfl (hK _ ?_)))))
      refine Qi (m + 1) ?_ ?_ ?_
      ·exact le_trans (QfJ (l := [1, 4, 5, 6, 10]) (lH := [1, 6]) 96 3 3 (kp5 rfl rfl rfl rfl rfl) (Qe rfl (Qe rfl Ql)) rfl rfl rfl rfl rfl rfl rfl) (Q1 (l := [1, 3, 4, 5, 6, 10]) (lH := [1, 3, 6]) (kp6 rfl rfl rfl rfl rfl rfl) (Qe rfl (Qe rfl (Qe rfl Ql))) (by rw [QjZ (by omega) h6] <;> rfl) (by rw [QjZ (by omega) h6] <;> rfl) rfl)
      ·omega
      ·first | omega | (simp only; omega) | (dsimp only; omega)
     ·try rw [h6]
      try simp only [qa, qb, qc, qd, qe, List.length_map] at h6
      refine Qv (Qg (Qd (kp6 rfl rfl rfl rfl rfl rfl) (QL fun K hK => Qa rfl (Q2 rfl rfl (by first | exact Qq (by omega) (by omega) | rfl) (Qa rfl (hK _ ?_))))))
      refine Qi (m + 1) ?_ ?_ ?_
      ·exact Q1 (l := [1, 3, 4, 5, 6, 10]) (lH := [1, 3, 6]) (kp6 rfl rfl rfl rfl rfl rfl) (Qe rfl (Qe rfl (Qe rfl Ql))) (by rw [QlG (by omega) h6] <;> rfl) (by rw [QlG (by omega) h6] <;> rfl) rfl
      ·omega
      ·first | omega | (simp only; omega) | (dsimp only; omega)
    ·try rw [h5]
     try simp only [qa, qb, qc, qd, qe, List.length_map] at h5
     refine Zh (QJ (Qx (QD (Qg (Qd (kp4 rfl rfl rfl rfl) (QL fun K hK => Qa rfl (Q2 rfl rfl (by first | exact Qq (by omega) (by omega) | rfl) (Qa rfl (hK _ ?_)))))))))
     refine Qi (i + 1) ?_ ?_ ?_
     ·exact Q1 (l := [1, 3, 4, 5]) (lH := [1, 3]) (kp4 rfl rfl rfl rfl) (Qe rfl (Qe rfl Ql)) (by rw [Qg7 (by omega), List.take_of_length_le (show ((w[j]'(by omega)).cs[i]'(by omega)).bs.length <= m by omega)] <;> rfl) (by rw [Qg7 (by omega), List.take_of_length_le (show ((w[j]'(by omega)).cs[i]'(by omega)).bs.length <= m by omega)] <;> rfl) rfl
     ·omega
     ·first | omega | (simp only; omega) | (dsimp only; omega)
  ·try rw [h2]
   try simp only [qa, qb, qc, qd, qe, List.length_map] at h2
   refine Zh (QJ (Qx (QD (Qg (Qd (kp3 rfl rfl rfl) (QL fun K hK => Qa rfl (Q2 rfl rfl (by first | exact Qq (by omega) (by omega) | rfl) (Qa rfl (hK _ ?_)))))))))
   refine Qi (j + 1) ?_ ?_ ?_
   ·exact Q1 (l := [1, 3, 4]) (lH := [1, 3]) (kp3 rfl rfl rfl) (Qe rfl (Qe rfl Ql)) (by rw [QjH (by omega), show (w[j]'(by omega)).cs.length = i by omega] <;> rfl) (by rw [QjH (by omega), show (w[j]'(by omega)).cs.length = i by omega] <;> rfl) rfl
   ·omega
   ·first | omega | (simp only; omega) | (dsimp only; omega)
 ·try rw [h1]
  try simp only [qa, qb, qc, qd, qe, List.length_map] at h1
  refine Zh (QJ (Qx (QD (Qd (kp1 rfl) (Qf fun K hK => Qa rfl (Qa rfl ?_))))))
  refine hK _ _ (Qb (kp1 rfl) ?_)
  refine Qu ?_
  exact Qaz rfl rfl rfl (by simp) (by rw [QbY, show w.length = j by omega] <;> rfl)
end Go.Proofs
namespace M25
open Go Go.Abs M3
/-! ### Bits of numbers -/
theorem QhQ (e : Int) : IntKind.i64.wrap e = (BitVec.ofInt 64 e).toInt := by
 have hb : (BitVec.ofInt 64 e).toInt = if e % 18446744073709551616 < 9223372036854775808 then e % 18446744073709551616 else e % 18446744073709551616 - 18446744073709551616 := by
  rw [BitVec.toInt_ofInt]; rfl
 rw [hb]
 unfold IntKind.wrap
 simp only [IntKind.bits, IntKind.signed, Bool.true_and]
 split
 ·rename_i h
  have := of_decide_eq_true h
  split <;> omega
 ·rename_i h
  have : ¬ (e % 2 ^ 64 >= 2 ^ (64 - 1)) := fun hh => h (decide_eq_true hh)
  split <;> omega
theorem Qf1 (b : BitVec 64) : BitVec.ofInt 64 (b.toNat : Int) = b := by
 rw [BitVec.ofInt_natCast, BitVec.ofNat_toNat, BitVec.setWidth_eq]
theorem Qor (x y : Int) : BitVec.ofInt 64 (band x y) = BitVec.ofInt 64 x &&& BitVec.ofInt 64 y := by
 show BitVec.ofInt 64 (IntKind.i64.wrap ((BitVec.ofInt 64 x &&& BitVec.ofInt 64 y).toNat : Int)) = _
 rw [QhQ, BitVec.ofInt_toInt, Qf1]
theorem Qos (x y : Int) : BitVec.ofInt 64 (Qe3 x y) = BitVec.ofInt 64 x &&& ~~~ BitVec.ofInt 64 y := by
 show BitVec.ofInt 64 (IntKind.i64.wrap ((BitVec.ofInt 64 x &&& ~~~ BitVec.ofInt 64 y).toNat : Int)) = _
 rw [QhQ, BitVec.ofInt_toInt, Qf1]
theorem QnF {x : Int} (h : I64 x) : IntKind.i64.wrap x = x := Qq h.1 h.2
theorem Qj0 {x : Int} (h : I64 x) : (BitVec.ofInt 64 x).toInt = x := by rw [<- QhQ, QnF h]
theorem Qhm (x y : Int) : I64 (band x y) := Qgd _
theorem QfF (x y : Int) : I64 (Qe3 x y) := Qgd _
def tb (x : Int) (i : Nat) : Bool := (BitVec.ofInt 64 x).getLsbD i
theorem QkO (x y : Int) (i : Nat) : tb (band x y) i = (tb x i && tb y i) := by rw [tb, Qor, BitVec.getLsbD_and]; rfl
theorem Qd5 (x y : Int) {i : Nat} : tb (Qe3 x y) i = (tb x i && !tb y i) := by
 rw [tb, Qos, BitVec.getLsbD_and, BitVec.getLsbD_not]
 by_cases h : i < 64
 ·simp [h, tb]
 ·simp [tb, BitVec.getLsbD_of_ge _ i (by omega : 64 <= i)]
theorem Qqh (x : Int) {i : Nat} (h : 64 <= i) : tb x i = false := BitVec.getLsbD_of_ge _ i h
theorem QkP {x y : Int} (hx : I64 x) (hy : I64 y) (h : ∀ i, tb x i = tb y i) : x = y := by
 rw [<- Qj0 hx, <- Qj0 hy]
 congr 1
 exact BitVec.eq_of_getLsbD_eq fun i _ => h i
theorem QhO (i : Nat) : tb 0 i = false := by
 show (BitVec.ofInt 64 0).getLsbD i = false
 rw [show BitVec.ofInt 64 0 = 0#64 from rfl, BitVec.getLsbD_zero]
theorem Qfu {x : Int} (hx : I64 x) : x = 0 ↔ ∀ i, tb x i = false := by
 constructor
 ·rintro rfl i; exact QhO i
 ·intro h; exact QkP hx ⟨by omega, by omega⟩ fun i => by rw [h i, QhO]
theorem QoJ (n : Nat) {i : Nat} (h : i < 64) : tb (n : Int) i = n.testBit i := by
 rw [tb, BitVec.ofInt_natCast, BitVec.getLsbD_ofNat]; simp [h]
theorem QoK {k : Nat} (hk : k < 64) (i : Nat) : tb ((2 : Int) ^ k) i = decide (i = k) := by
 have e : ((2 ^ k : Nat) : Int) = (2 : Int) ^ k := by simp
 by_cases h : i < 64
 ·rw [<- e, QoJ _ h, Nat.testBit_two_pow]
  exact decide_eq_decide.2 eq_comm
 ·rw [Qqh _ (by omega)]; exact (decide_eq_false (by omega)).symm
theorem Qdb (x m : Int) : IntKind.i64.wrap (x - band x m) = Qe3 x m := by
 have h : BitVec.ofInt 64 (x - band x m) = BitVec.ofInt 64 x &&& ~~~ BitVec.ofInt 64 m := by
  rw [Int.sub_eq_add_neg, BitVec.ofInt_add, BitVec.ofInt_neg, <- BitVec.sub_eq_add_neg, Qor]
  generalize BitVec.ofInt 64 x = a
  generalize BitVec.ofInt 64 m = b
  have h1 : (a &&& ~~~b) + (a &&& b) = a := by
   rw [BitVec.add_eq_or_of_and_eq_zero]
   ·ext i hi; simp; cases a[i] <;> cases b[i] <;> rfl
   ·ext i hi; simp
    cases a[i] <;> cases b[i] <;> simp
  exact (BitVec.sub_eq_iff_eq_add).2 h1.symm
 have e : Qe3 x m = (BitVec.ofInt 64 (Qe3 x m)).toInt := (Qj0 (QfF x m)).symm
 rw [e, QhQ, h, Qos]
theorem Qa1 {x m : Int} : band x m = 0 ↔ ∀ i, tb x i = true -> tb m i = false := by
 rw [Qfu (Qhm x m)]
 refine forall_congr' fun i => ?_
 rw [QkO]; cases tb x i <;> cases tb m i <;> simp
theorem QkA {x m : Int} : Qe3 x m = 0 ↔ ∀ i, tb x i = true -> tb m i = true := by
 rw [Qfu (QfF x m)]
 refine forall_congr' fun i => ?_
 rw [Qd5]; cases tb x i <;> cases tb m i <;> simp
theorem Y8 {x m : Int} (hx : I64 x) : band x m = x ↔ ∀ i, tb x i = true -> tb m i = true := by
 constructor
 ·intro h i hi
  have := congrArg (fun z => tb z i) h
  simp only [QkO, hi, Bool.true_and] at this
  exact this
 ·intro h
  refine QkP (Qhm x m) hx fun i => ?_
  rw [QkO]
  cases hx2 : tb x i
  ·rfl
  ·rw [h i hx2]; rfl
theorem QeM {x m : Int} (hx : I64 x) : Qe3 x m = x ↔ ∀ i, tb x i = true -> tb m i = false := by
 constructor
 ·intro h i hi
  have := congrArg (fun z => tb z i) h
  simp only [Qd5, hi, Bool.true_and] at this
  simpa using this
 ·intro h
  refine QkP (QfF x m) hx fun i => ?_
  rw [Qd5]
  cases hx2 : tb x i
  ·rfl
  ·rw [h i hx2]; rfl
def Lo (x : Int) : Prop := 0 <= x /\ x < 131072
theorem Lo.i64 {x : Int} (h : Lo x) : I64 x := ⟨by have := h.1; omega, by have := h.2; omega⟩
theorem Lo.hi {x : Int} (h : Lo x) {i : Nat} (hi : 17 <= i) : tb x i = false := by
 obtain ⟨n, rfl⟩ := Int.eq_ofNat_of_zero_le h.1
 by_cases h6 : i < 64
 ·rw [QoJ _ h6, Nat.testBit_lt_two_pow]
  have h1 : (2 : Nat) ^ 17 <= 2 ^ i := Nat.pow_le_pow_right (by omega) hi
  have h2 : (2 : Nat) ^ 17 = 131072 := by decide
  have := h.2
  omega
 ·exact Qqh _ (by omega)
theorem Lo.of {x : Int} (hx : I64 x) (h : ∀ i, 17 <= i -> tb x i = false) : Lo x := by
 have hb : (BitVec.ofInt 64 x).toNat < 2 ^ 17 := by
  refine Nat.lt_pow_two_of_testBit _ fun i hi => ?_
  exact h i hi
 have h2 : (2 : Nat) ^ 17 = 131072 := by decide
 have e := Qj0 hx
 rw [BitVec.toInt_eq_toNat_of_lt (by omega)] at e
 exact ⟨by omega, by omega⟩
theorem Qp6 {x : Int} (h : Lo x) (m : Int) : Lo (Qe3 x m) := Lo.of (QfF x m) fun i hi => by rw [Qd5, h.hi hi]; rfl
theorem Qpg (w : Qp) (u : Int) : Lo (YW w u) := ⟨(QdF w u).1, by have := (QdF w u).2; omega⟩
theorem Qoe {x : Int} (hx : I64 x) (m : Int) : QaI x m = Zw x m := by
 unfold Zw QaI
 have : (Qal .andNot .i64 x m = 0) ↔ (Qal .and .i64 x m = x) := (QkA (x := x) (m := m)).trans (Y8 hx).symm
 by_cases h : Qal .andNot .i64 x m = 0
 ·rw [if_pos h, if_pos (this.1 h)]
 ·rw [if_neg h, if_neg (fun e => h (this.2 e))]
theorem Qap {x : Int} {k : Nat} (hk : k < 64) : band x (2 ^ k) = 0 ↔ tb x k = false := by
 rw [Qa1]
 constructor
 ·intro h
  cases hx : tb x k
  ·rfl
  ·have := h k hx; rw [QoK hk] at this; simp at this
 ·intro h i hi
  rw [QoK hk]
  by_cases e : i = k
  ·subst e; rw [h] at hi; cases hi
  ·exact decide_eq_false e
theorem Qif {x y : Int} (h : ∀ i, tb x i = true -> tb y i = true) : ∀ n, n <= 64 -> (Y9 x n).length <= (Y9 y n).length
 | 0, _ => Nat.le_refl _
 | n + 1, hn => by
  have := Qif h n (by omega)
  rw [Y9, Y9, List.length_append, List.length_append]
  by_cases hx : tb x n = true
  ·rw [if_neg (by rw [Qap (by omega), hx]; simp), if_neg (by rw [Qap (by omega), h n hx]; simp)]
   simp only [List.length_singleton]; omega
  ·rw [if_pos (by rw [Qap (by omega)]; simpa using hx)]
   simp only [List.length_nil]; omega
theorem Qig {x y : Int} (h : ∀ i, tb x i = true -> tb y i = true) {k : Nat} (h1 : tb x k = false) (h2 : tb y k = true) : ∀ n, n <= 64 -> k < n -> (Y9 x n).length < (Y9 y n).length
 | 0, _, hk => by omega
 | n + 1, hn, hk => by
  rw [Y9, Y9, List.length_append, List.length_append]
  by_cases e : k = n
  ·subst e
   have := Qif h k (by omega)
   rw [if_pos ((Qap (by omega)).2 h1), if_neg (by rw [Qap (by omega), h2]; simp)]
   simp only [List.length_nil, List.length_singleton]; omega
  ·have := Qig h h1 h2 n (by omega) (by omega)
   by_cases hx : tb x n = true
   ·rw [if_neg (by rw [Qap (by omega), hx]; simp), if_neg (by rw [Qap (by omega), h n hx]; simp)]
    simp only [List.length_singleton]; omega
   ·rw [if_pos (by rw [Qap (by omega)]; simpa using hx)]
    simp only [List.length_nil]; omega
theorem Qpb {x m : Int} (hx : Lo x) (h : band x m ≠ 0) : (Qbk (Qe3 x m)).length < (Qbk x).length := by
 have : ∃ k, tb x k = true /\ tb m k = true := by
  refine Classical.byContradiction fun hn => h (Qa1.2 fun i hi => ?_)
  cases hm : tb m i
  ·rfl
  ·exact absurd ⟨i, hi, hm⟩ hn
 obtain ⟨k, h1, h2⟩ := this
 have hk : k < 17 := Classical.byContradiction fun hk => by rw [hx.hi (by omega)] at h1; cases h1
 exact Qig (fun i hi => by rw [Qd5] at hi; simp at hi; exact hi.1) (k := k) (by rw [Qd5, h1, h2]; rfl) h1 17 (by omega) hk
end M25
namespace M25
open Go Go.Abs M3
/-! ### Trails: the loops' laws -/
theorem QaT (w : Qp) (l : List QO) (s : QO) (u : Int) : Zd w (l ++ [s]) u = if s.u = u /\ inW w u = true then s.m else Zd w l u := by
 rw [Zd, List.foldl_append]; rfl
theorem Qd4 {α : Type} {l : List α} {i k : Nat} (hk : k + 1 = i) (h : k < l.length) : l.take i = l.take k ++ [l[k]] := by
 subst hk; rw [List.take_succ_eq_append_getElem h]
theorem QnO {w : Qp} {l : List QO} {u : Int} {i k : Nat} (hk : k + 1 = i) (h : k < l.length) (hu : l[k].u = u) (hw : inW w u = true) : Zd w (l.take i) u = l[k].m := by
 rw [Qd4 hk h, QaT, if_pos ⟨hu, hw⟩]
theorem QfN {w : Qp} {l : List QO} {u : Int} {i k : Nat} (hk : k + 1 = i) (h : k < l.length) (hu : ¬ l[k].u = u \/ ¬ 0 <= u \/ ¬ u < w.length) : Zd w (l.take i) u = Zd w (l.take (i - 1)) u := by
 rw [Qd4 hk h, QaT, if_neg, show i - 1 = k by omega]
 rintro ⟨h1, h2⟩
 rw [QbR] at h2
 rcases hu with hu | hu | hu
 ·exact hu h1
 ·exact hu h2.1
 ·exact hu h2.2
theorem QdC {w : Qp} {l : List QO} {u : Int} (h : inW w u = false) : Zd w l u = 0 := by
 have hf : YW w u = 0 := QdG (by
  refine Classical.byContradiction fun hn => ?_
  rw [QfH (by omega) (by omega)] at h; cases h)
 suffices hs : ∀ a, l.foldl (fun a s => if s.u = u /\ inW w u = true then s.m else a) a = a by rw [Zd, hs, hf]
 induction l with
 | nil => intro a; rfl
 | cons s l ih => intro a; rw [List.foldl_cons, if_neg (by rw [h]; simp), ih]
def Qb2 (w : Qp) (l : List QO) (u : Int) : Int := l.foldl (fun a s => if s.u = u then s.m else a) (YW w u)
theorem QnN {w : Qp} {l : List QO} {u : Int} (h : inW w u = true) : Qb2 w l u = Zd w l u := by
 unfold Qb2 Zd
 simp only [h, and_true]
theorem QgB (w : Qp) (l : List QO) (s : QO) (u : Int) : Qb2 w (l ++ [s]) u = if s.u = u then s.m else Qb2 w l u := by
 rw [Qb2, List.foldl_append]; rfl
theorem Qmf {w : Qp} {l : List QO} {u : Int} {i k : Nat} (hk : k + 1 = i) (h : k < l.length) (hu : l[k].u = u) : Qb2 w (l.take i) u = l[k].m := by
 rw [Qd4 hk h, QgB, if_pos hu]
theorem Qlf {w : Qp} {l : List QO} {u : Int} {i k : Nat} (hk : k + 1 = i) (h : k < l.length) (hu : ¬ l[k].u = u) : Qb2 w (l.take i) u = Qb2 w (l.take (i - 1)) u := by
 rw [Qd4 hk h, QgB, if_neg hu, show i - 1 = k by omega]
theorem Qfy {w : Qp} {u : Int} : YW w u = 0 ↔ inW w u = false := by
 constructor
 ·intro h
  cases hw : inW w u
  ·rfl
  ·rw [QbR] at hw
   rw [Qhv hw.1 hw.2] at h
   have h2 : 2 <= (2 : Int) ^ (min (w[u.toNat]'(by omega)).cs.length 16 + 1) := by
    rw [Int.pow_succ]
    have := Qpo (n := min (w[u.toNat]'(by omega)).cs.length 16) (by omega)
    omega
   omega
 ·intro h
  refine QdG (Classical.byContradiction fun hn => ?_)
  rw [QfH (by omega) (by omega)] at h; cases h
theorem Qiv {l : List QO} (h : (l.length : Int) = 0) : Xs l = 0 := by
 have e : l = [] := List.eq_nil_of_length_eq_zero (by omega)
 subst e; rfl
theorem Qkl {l : List QO} {k : Nat} (hk : k + 1 = l.length) : Xs l = (l[k]'(by omega)).l := by
 rw [Xs, List.getLast?_eq_getElem?, show l.length - 1 = k by omega, List.getElem?_eq_getElem (by omega)]
theorem QnX : ∀ {l : List Int}, ¬ (l.length : Int) = 1 -> Qpm l = -1
 | [], _ => rfl
 | [x], h => by simp at h
 | x :: y :: l, _ => rfl
theorem QmC : ∀ {l : List Int} (h : (l.length : Int) = 1), Qpm l = l[(0 : Int).toNat]'(by simp; omega)
 | [], h => by simp at h
 | [x], _ => rfl
 | x :: y :: l, h => by simp at h; omega
theorem Qn2 {m : Int} (h : ¬ ((Qbk m).length : Int) = 1) : QfW m = -1 := QnX h
theorem QmH {m : Int} (h : ((Qbk m).length : Int) = 1) : QfW m = (Qbk m)[(0 : Int).toNat]'(by simp; omega) := QmC h
def Qpl (w : Qp) (l : List QO) (i : Nat) : Bool := match l[i]? with
 | some s => QdL w (l.take i) s
 | none => true
theorem QdO {w : Qp} {l : List QO} {i : Nat} (h : i < l.length) : Qpl w l i = QdL w (l.take i) l[i] := by
 rw [Qpl, List.getElem?_eq_getElem h]
theorem Qkr (w : Qp) (l : List QO) : Qer w l = (List.range l.length).all (Qpl w l) := rfl
theorem Xn {w : Qp} {l : List QO} {s : QO} (h : s.u < 0 \/ (w.length : Int) <= s.u \/ s.c < -1) : QdL w l s = false := by
 unfold QdL
 rcases h with h | h | h
 ·rw [Qbe (.inl h)]; rfl
 ·rw [Qbe (.inr h)]; rfl
 ·rw [decide_eq_false (show ¬ -1 <= s.c by omega)]; simp
theorem Z9 {w : Qp} {l : List QO} {s : QO} (h0 : 0 <= s.u) (h1 : s.u < w.length) (h2 : -1 <= s.c) : QdL w l s = (decide (band s.m (Zd w l s.u) = s.m) &&
  if s.c = -1 then decide (0 <= QfW s.m) && !QdE l s.u && decide (s.l = IntKind.i64.wrap (Xs l + 1))
  else !decide (s.m = 0) && !decide (s.m = Zd w l s.u) && decide (s.l = Xs l)) := by
 rw [QdL, QfH h0 h1, decide_eq_true h2]; rfl
theorem Qcf {w : Qp} {l : List QO} {t : TermT} {c : Int} (h : c < 0 \/ t.u < 0 \/ (w.length : Int) <= t.u) : Yl w l t c = none := by
 rw [Yl, if_pos]
 rcases h with h | h
 ·exact .inl h
 ·exact .inr (Qbe h)
theorem Qa8 {w : Qp} {l : List QO} {t : TermT} {c : Int} (h : IntKind.i64.wrap (Zd w l t.u - band (Zd w l t.u) t.m) = 0 \/ IntKind.i64.wrap (Zd w l t.u - band (Zd w l t.u) t.m) = Zd w l t.u) : Yl w l t c = none := by
 rw [Yl]
 split
 ·rfl
 ·first | rfl | rw [if_pos h]
theorem Qgt {w : Qp} {l : List QO} {t : TermT} {c : Int} (h0 : ¬ c < 0) (h1 : inW w t.u = true) (h2 : ¬ IntKind.i64.wrap (Zd w l t.u - band (Zd w l t.u) t.m) = 0) (h3 : ¬ IntKind.i64.wrap (Zd w l t.u - band (Zd w l t.u) t.m) = Zd w l t.u) :
  Yl w l t c = some (l ++ [⟨t.u, IntKind.i64.wrap (Zd w l t.u - band (Zd w l t.u) t.m), Xs l, c⟩]) := by
 rw [Yl, if_neg (by rw [h1]; simp [h0]), if_neg (by simp [h2, h3])]
theorem Qgs (w : Qp) (l : List QO) (t : TermT) (c : Int) : ((Yl w l t c).getD []).length <= l.length + 1 := by
 unfold Yl
 split
 ·simp
 ·split <;> simp
def YO (w : Qp) (l : List QO) : Prop := ∀ s ∈ l, Lo s.m
theorem Qag {w : Qp} {l : List QO} (h : YO w l) (u : Int) : Lo (Zd w l u) := by
 suffices hs : ∀ (l : List QO) a, (∀ s ∈ l, Lo s.m) -> Lo a -> Lo (l.foldl (fun a s => if s.u = u /\ inW w u = true then s.m else a) a) from hs l _ h (Qpg w u)
 intro l
 induction l with
 | nil => intro a _ h; exact h
 | cons s l ih =>
  intro a hl ha
  rw [List.foldl_cons]
  refine ih _ (fun t ht => hl t (by simp [ht])) ?_
  split
  ·exact hl s (by simp)
  ·exact ha
theorem QlP {w : Qp} {l : List QO} {t : TermT} {c : Int} (hl : YO w l) (h : band (Zd w l t.u) t.m = 0) : Yl w l t c = none :=
 Qa8 (.inr (by rw [Qdb, QeM (Qag hl _).i64, <- Qa1]; exact h))
theorem QlQ {w : Qp} {l : List QO} {t : TermT} {c : Int} (h : Qe3 (Zd w l t.u) t.m = 0) : Yl w l t c = none :=
 Qa8 (.inl (by rw [Qdb]; exact h))
theorem Qie {w : Qp} {l : List QO} {t : TermT} {c : Int} (hl : YO w l) (h0 : ¬ c < 0) (h1 : ¬ band (Zd w l t.u) t.m = 0) (h2 : ¬ Qe3 (Zd w l t.u) t.m = 0) : Yl w l t c = some (l ++ [⟨t.u, Qe3 (Zd w l t.u) t.m, Xs l, c⟩]) := by
 have hin : inW w t.u = true := by
  cases hw : inW w t.u
  ·rw [QdC hw] at h1
   exact absurd (Qa1.2 fun i hi => by rw [QhO] at hi; cases hi) h1
  ·rfl
 rw [Qgt h0 hin (by rw [Qdb]; exact h2) (by rw [Qdb, QeM (Qag hl _).i64, <- Qa1]; exact h1), Qdb]
theorem Qej {w : Qp} {l : List QO} {u p : Int} (h : (u < 0 \/ (w.length : Int) <= u) \/ p < 0) : Xj w l u p = none := by
 unfold Xj
 split
 ·rfl
 ·rename_i x hx
  rcases h with h | h
  ·rw [QjO h] at hx; cases hx
  ·rw [if_pos (.inl h)]
theorem Qk2 {w : Qp} {l : List QO} {u p : Int} (h0 : 0 <= u) (h1 : u < w.length) (h : ((w[u.toNat]'(by omega)).cs.length : Int) <= p) : Xj w l u p = none := by
 rw [Xj, QkR h0 h1]
 simp only []
 rw [if_pos (.inr h)]
def Qpa (l : List QO) (u p : Int) : QO := ⟨u, IntKind.i64.wrap (2 * 2 ^ min p.toNat 64), IntKind.i64.wrap (Xs l + 1), -1⟩
theorem QlO {w : Qp} {l : List QO} {u p : Int} (h : QdL w l (Qpa l u p) = false) : Xj w l u p = none := by
 unfold Xj
 split
 ·rfl
 ·split
  ·rfl
  ·simp only [Qpa] at h
   rw [if_neg (by rw [h]; simp)]
theorem Qk5 {w : Qp} {l : List QO} {u p : Int} (h0 : 0 <= u) (h1 : u < w.length) (h2 : ¬ p < 0) (h3 : ¬ ((w[u.toNat]'(by omega)).cs.length : Int) <= p) (h : QdL w l (Qpa l u p) = true) : Xj w l u p = some (l ++ [Qpa l u p]) := by
 rw [Xj, QkR h0 h1]
 simp only []
 rw [if_neg (by omega)]
 simp only [Qpa] at h ⊢
 rw [if_pos h]
theorem Qbm {h : Int -> Int} {inc : List TermT} {a : Int} {i : Nat} (hi : i < inc.length) : ZF h (inc.drop i) a = if Zw (h inc[i].u) inc[i].m = 0 then -1 else if Zw (h inc[i].u) inc[i].m = 1 then (if 0 <= a then -1 else ZF h (inc.drop (i + 1)) inc[i].u) else ZF h (inc.drop (i + 1)) a := by
 rw [List.drop_eq_getElem_cons hi, ZF]
theorem QiI {h : Int -> Int} {inc : List TermT} {a : Int} {i : Nat} (hi : inc.length <= i) : ZF h (inc.drop i) a = a := by
 rw [List.drop_eq_nil_of_le hi, ZF]
theorem QjI {w : Qp} {l : List QO} {db : List (List TermT)} {i : Nat} (hi : i < db.length) : Yo w l i (db.drop i) = if Qc7 w l db[i] = true then ((i : Int), -1) else if 0 <= Qc6 w l db[i] then ((i : Int), Qc6 w l db[i]) else Yo w l (i + 1) (db.drop (i + 1)) := by
 rw [List.drop_eq_getElem_cons hi, Yo]
theorem Qn7 {w : Qp} {l : List QO} {db : List (List TermT)} {i : Nat} (hi : db.length <= i) : Yo w l i (db.drop i) = (-1, -1) := by
 rw [List.drop_eq_nil_of_le hi, Yo]
theorem Qd0 (w : Qp) (l : List QO) : ∀ (db : List (List TermT)) (i : Nat), (Yo w l i db = (-1, -1)) \/ ∃ k, i <= k /\ ∃ hk : k - i < db.length, (Yo w l i db = ((k : Int), -1) /\ Qc7 w l db[k - i] = true) \/ (Qc7 w l db[k - i] = false /\ 0 <= Qc6 w l db[k - i] /\ Yo w l i db = ((k : Int), Qc6 w l db[k - i]))
 | [], i => .inl rfl
 | x :: db, i => by
  rw [Yo]
  by_cases h1 : Qc7 w l x = true
  ·rw [if_pos h1]; exact .inr ⟨i, Nat.le_refl _, by simp, .inl ⟨rfl, by simpa using h1⟩⟩
  ·rw [if_neg h1]
   by_cases h2 : 0 <= Qc6 w l x
   ·rw [if_pos h2]; exact .inr ⟨i, Nat.le_refl _, by simp, .inr ⟨by simpa using h1, by simpa using h2, by simp⟩⟩
   ·rw [if_neg h2]
    rcases Qd0 w l db (i + 1) with h | ⟨k, hk, hlt, h⟩
    ·exact .inl h
    ·refine .inr ⟨k, by omega, by simp only [List.length_cons]; omega, ?_⟩
     have e : (x :: db)[k - i]'(by simp only [List.length_cons]; omega) = db[k - (i + 1)] := by
      obtain ⟨j, hj⟩ : ∃ j, k - i = j + 1 := ⟨k - i - 1, by omega⟩
      simp only [hj, List.getElem_cons_succ]
      congr 1; omega
     rw [e]; exact h
theorem QiS {w : Qp} {l : List QO} {db : List (List TermT)} (h : ¬ (Zy w db l).2 < 0) : 0 <= (Zy w db l).1 /\ (Zy w db l).1 < db.length := by
 unfold Zy at h ⊢
 rcases Qd0 w l db 0 with e | ⟨k, _, hk, ⟨e, _⟩ | ⟨_, _, e⟩⟩
 ·rw [e] at h; simp at h
 ·rw [e] at h; simp at h
 ·rw [e]; simp only; omega
theorem Qcr {w : Qp} {db : List (List TermT)} {n : Nat} {out : List QO} (h : (Zy w db out).2 < 0) (hn : 0 < n) : Qbo w db n out = (out, (Zy w db out).1) := by
 obtain ⟨m, rfl⟩ : ∃ m, n = m + 1 := ⟨n - 1, by omega⟩
 rw [Qbo, if_pos h]
theorem QkJ {w : Qp} {db : List (List TermT)} {n : Nat} {out : List QO} (h : ¬ (Zy w db out).2 < 0) (hn : 0 < n) (hd : (Zy w db out).1.toNat < db.length) : Qbo w db n out = Qbo w db (n - 1) ((Yl w out ⟨(Zy w db out).2, Qc5 w db[(Zy w db out).1.toNat] (Zy w db out).2⟩ (Zy w db out).1).getD []) := by
 obtain ⟨m, rfl⟩ : ∃ m, n = m + 1 := ⟨n - 1, by omega⟩
 rw [Qbo, if_neg h, List.getD_eq_getElem?_getD, List.getElem?_eq_getElem hd]; rfl
end M25
